/- Steps of the proof. -/
import Derived.WalkKit
import Derived.Maps.AppendAt
import Derived.Lib.FrozenHead
import Derived.CallsIn
import Derived.Laws.StructEq
import Derived.Laws.Entries
import Derived.Laws.Tables
import Derived.ArgAppend
import Derived.Deep.DeepAppendRoom
import Derived.RangeFuncRecord
import Derived.Lib.ConvBytes
import Derived.Laws.BytesString
import Derived.Laws.MakeOwn
set_option linter.all false
set_option maxHeartbeats 40000000
set_option maxRecDepth 100000
namespace Go.Kz
section
variable{G:Prop}
theorem aa(h:G:=by
 simp(disch:=first|omega|(simp;done)|(simp;omega)) [yAu]<;>try rfl):G:=h
theorem af(h:G:=by
 repeat(first|refine aS.panic ?_|refine aO.panic ?_|refine aM.panic ?_)
 exact .inl ⟨_,rfl,rfl,hpost⟩):G:=h
theorem ah(h:G:=by
 simp at h):G:=h
theorem ai(h:G:=by
 have e:(vs.toArray++Array.replicate (fn.ntmps-vs.toArray.size) undef).toList=vs++List.replicate (fn.ntmps-args.length) undef:=by simp[hv.1]
 rw[e]
 refine hv.append ⟨by simp,λi v d h1 h2=>?_⟩
 rw[yDi]at h1 h2
 split at h1
 .simp only[yAb]at h1 h2;subst h1
  rw[yAJ ‹_›]at h2
  simp only[yAb]at h2;subst h2;exact VR.undef c
 .simp at h1):G:=h
theorem aj(h:G:=by
 intro u ho id hp
 unfold aAD at ho
 split at ho
 .rename_i s u' f EX
  simp only[yAb]at ho
  subst ho
  rw[EX]at hop
  simp only[eA,cW,yAM,dD,aT]at hop
  split at hop
  .rename_i p' hp'
   simp only[yAb,yAc]at hop
   obtain⟨rfl,rfl⟩:=hop
   exact aIB hp' hp
  .cases hop
 .rename_i u' EX
  simp only[yAb]at ho
  subst ho
  rw[EX]at hop
  simp only[eA,cW,yAM,dD,aT]at hop
  split at hop
  .rename_i p' hp'
   simp only[yAb,yAc]at hop
   obtain⟨rfl,rfl⟩:=hop
   split at hp'
   .rename_i id' off' e
    simp only[yAb]at e hp'
    subst hp'
    rw[e];exact hp
   .rename_i cs off e
    simp only[yAb]at e hp'
    subst hp'
    rw[e];exact hp
   .rename_i id' fE off' e
    simp only[yAb]at e hp'
    subst hp'
    rw[e];exact hp
   .cases hp'
  .cases hop
 .rename_i u' EX
  simp only[yAb]at ho
  subst ho
  rw[EX]at hop
  simp only[eA,cW,yAM,dD,aT,yAb,yAc]at hop
  rw[hop.1];exact hp
 .cases ho):G:=h
theorem ak(h:G:=by
 show w'.heap[b']?=_
 rw[h1 b' (fM e2) (λh=>hs.inj i id b' hi hd e' (by rw[e1];rfl) h)]
 exact e2):G:=h
theorem an(h:G:=by
 simp(disch:=first|omega|(simp;done)|(simp;omega)) [yAu,hp,iY]<;>try rfl):G:=h
theorem aq(h:G:=by
 simp(disch:=first|omega|(simp;done)|(simp;omega)) [yAu,gJ]<;>try rfl):G:=h
theorem au(h:G:=by
 refine⟨this.1,λm=>yBS (this.2 m) λe w' he=>?_⟩
 cases e with
 |returned v=>
  obtain⟨c1,rfl,rfl,hs1,nx,hvv,_⟩:=he
  have hgr:c.w.grownBy c1.w none:=⟨nx.os,nx.tape,nx.output,nx.size,λk hk _=>nx.frame k hk (λ_ h=>h.elim)⟩
  refine⟨c.at c1.w,rfl,rfl,hs.grow hgr,Nx.grow hs hgr,?_,λ_ h=>.inl h⟩
  have hp:=hvv.strip
  rw[e1]at hp
  have hav:∀a,c1.av a->(c.at c1.w).av a:=λa h1=>by
   have h3:c1.X a:=h1.1
   rw[nx.X]at h3
   exact h3
  exact VR.free (c:=c1) (c':=c.at c1.w) (λa _ h1 h2=>⟨hav a h1,h2⟩) hp e3
 |panicked ch=>exact he.elim
 |outgrown=>exact he.elim):G:=h
theorem ax(h:G:=by
 by_cases c1:r=0
 .have dQ:(r:Int)=0:=by omega
  rw[yAJ c1]
  refine aD (A10 h1 q1 q2 q3 @i1 @i2 @i3 @i0 dQ c1) ?_
  simp(disch:=first|omega|(simp;done)|(simp;omega)) [yAu,yAi]<;>try rfl
 .have dQ:¬(r:Int)=0:=by omega
  rw[yAI c1]
  by_cases c2:n=0
  .have jB:(n:Int)=0:=by omega
   rw[yAJ c2]
   refine aD (A12 h1 q1 q2 q3 @i1 @i2 @i3 @i0 dQ jB c1 c2) ?_
   simp(disch:=first|omega|(simp;done)|(simp;omega)) [yAu,yAi]<;>try rfl
  .have jB:¬(n:Int)=0:=by omega
   rw[yAI c2]
   refine aD (A12 h1 q1 q2 q3 @i1 @i2 @i3 @i0 dQ jB c1 c2) ?_
   simp(disch:=first|omega|(simp;done)|(simp;omega)) [yAu,yAi]<;>try rfl):G:=h
theorem ay(h:G:=by
 intro id hd
 rcases hd with hd|rfl
 .exact .inl hd
 .exact .inr ⟨yAk _,by simp⟩):G:=h
theorem az(h:G:=by
 simp only[aL,yAT,yAU]
 try rfl):G:=h
theorem bf(h:G:=by
 show(c.w.putObj b x').heap[b']?=_
 rw[yCn (λe'=>hs.inj i id b' hi hd e (by rw[e1];rfl) (by rw[e'];exact hb))]
 exact e2):G:=h
theorem bh(h:G:=by
 unfold dI at htg
 split at htg
 .split at htg
  .rename_i g args' ts f' cap qs h1 h2
   simp only[yAb,yAc,yCr]at htg
   obtain⟨rfl,rfl⟩:=htg
   obtain⟨cs,e,hcs⟩:=(cL hf h1).RA
   exact⟨_,(oK hf h2).append hcs⟩
  .rename_i f' first qs h1 h2
   simp only[yAb,yAc,yCr]at htg
   obtain⟨rfl,rfl⟩:=htg
   obtain⟨cs,e,hcs⟩:=(cL hf h1).aCZ
   exact⟨_,hcs.append (oK hf h2)⟩
  .simp at htg
  .simp at htg
 .simp at htg):G:=h
theorem bl(h:G:=by
 show w'.heap[b']?=_
 rw[h1 b' (λe'=>hs.inj i id b' hi hd e (by rw[e1];rfl) (by rw[e'];exact hb))]
 exact e2):G:=h
theorem bn(h:G:=by
 simpa using this):G:=h
theorem bp(h:G:=by
 refine aGI hE hg (λo ho=>?_) k 0 _ _ _ _ ops.toList[k] (by simp) mV (yAh hkl) ?_ (by simpa using b2) ?_
 .obtain⟨i,hi⟩:=yCF ho
  exact hr.shape i o (by simpa using hi)
 .unfold aFG at b1
  rw[yAh hkl]at b1
  exact b1
 .intro j o' hj ho'
  obtain⟨this,that⟩:=b3 j hj
  unfold eN at this that
  rw[ho']at this that
  exact⟨this,that⟩):G:=h
theorem bq(h:G:=by
 refine⟨hs.fresh a h,λid o hd ho=>?_⟩
 have key:∀b,aV (c.ρ id)=some b->a.block≠b:=λb hb e=>by
  have:=hs.lt id b hd hb
  omega
 cases o with
 |none=>trivial
 |box p=>exact key
 |own e size n=>intro b hb e;exact absurd e (key b hb)
 |row e size ver ds=>exact key
 |map es=>trivial
 |mark=>trivial
 |loop st fr ps asg bd=>trivial):G:=h
theorem br(h:G:=by
 exact oD (by simp)):G:=h
theorem bt(h:G:=by
 refine⟨v,w',.inl ?_,hl⟩
 simp only[execOp,resolve,invoke,builtin,yAV,yAY,yAX]
 simp[r]):G:=h
theorem bu(h:G:=by
 have:(if cap=l then(some ⟨b,off,none⟩:Option Addr)else(some ⟨b,off,none⟩:Option Addr).map (·.add (l*n)))=some ⟨b,off+l*n,none⟩:=by
  split
  .have:l=0:=by omega
   subst this
   simp
  .simp[Addr.add]
 simp only[Instr.sliceAt,Instr.slice,yAV,yAO hu,yAX,yDj,b3,lE hn,yAY,this]):G:=h
theorem bz(h:G:=by
 obtain⟨h1,h2⟩:=h.ks p (by simp[hp])
 exact⟨by rw[yAd (yBc (hne p (by simp[hp])))];exact h1,h2⟩):G:=h
theorem cc(h:G:=by
 intro i j b hi hj hne hb hb'
 by_cases e':i=id
 .subst e'
  rw[mK]at hb
  rw[eW (yBc hne)]at hb'
  exact hoth j b hj (yBc hne) hb' hb
 .rw[eW e']at hb
  by_cases e'':j=id
  .subst e''
   rw[mK]at hb'
   exact hoth i b hi e' hb hb'
  .rw[eW e'']at hb'
   exact hs.inj i j b hi hj hne hb hb'):G:=h
theorem cg(h:G:=by
 refine cell (by simp only[fA,hu]) (λcs e=>?_)
 subst e
 simp[hu,Cell.okWide,Cell.ok]at hv):G:=h
theorem cj(h:G:=by
 exact aB3 rfl (by simp(disch:=first|omega|(simp;done)|(simp;omega)) [dk0,dk1,dk2,dk3,TO,BA,BC,BD,BE,BF,BG,BH,BI,BJ,BK,BL,BM,BN,BO,BP,BQ,BR,BS,LA,LB,LC,LD,LF,LG,PU,PV,PY,PZ,P0,P1,uE,oF,K9,s9,tA,tB,tC,tD,tE,uR,uS,uT,uU,uV,uW,uX,uY,uZ,u0,u6,vA,NB,NC,ND,NF,NG,NH,aFS,aFT,aFU,aFV,aFW,aFX]<;>rfl)):G:=h
theorem ck(h:G:=by
 rw[h];simp[Em.list,Em.aA,sz]):G:=h
theorem cl(h:G:=by
 repeat(first|refine aS.panic ?_|refine aO.panic ?_|refine aM.panic ?_)
 exact .inl ⟨_,rfl,rfl,⟨e,[.str [],.slice 0 [] .full,.slice 0 [] .full,.slice 0 [] .full],hE,rfl,rfl,rfl,rfl,rfl,rfl,pK (aC.length,_) (by simp),pK (aC.length+1,_) (by simp),pK (aC.length+2,_) (by simp),pk⟩⟩):G:=h
theorem cm(h:G:=by
 rename_i hne
 refine mG.wpIn (ih hF h hs hX hf hm hr m _ λc1 a1 e1 hs1 fS eK iO=>?_)
 have:=hQ c1 a1 e1 hs1 fS eK iO
 obtain⟨x',aG,ms1,σ1⟩:=r
 cases x' with
 |normal=>exact absurd h (hne _ _ _)
 |ret=>exact this
 |panic v=>exact this
 |exit k=>exact this):G:=h
theorem cq(h:G:=by
 simp(disch:=first|omega|(simp;done)|(simp;omega)) [yAu,hP]<;>try rfl):G:=h
theorem cr(h:G:=by
 apply yBT
 intro i
 simp only[Array.toList_modify,yAo,List.getElem?_modify,yCs,yAe]
 by_cases hij:j=i
 .subst hij
  have hlt:j<ents.toList.length:=(yA.1 g2).1
  simp only[g2,yAC,yAM,yAJ hlt];rfl
 .simp only[yAI hij,Option.map_map]
  cases ents.toList[i]?<;>simp):G:=h
theorem cu(h:G:=by
 simp only[hc]at h ⊢
 exfalso
 cases op with
 |box t x=>cases hop
 |call c=>
  obtain⟨callee,args,ts⟩:=c
  cases callee with
  |value f=>simp[pop,dD,cK]at h
  |invoke r m=>simp[cI]at hm
  |builtin b=>cases b<;>first|(simp[cI]at hm;done)|cases hop
 |_=>simp[cI]at hm):G:=h
theorem cv(h:G:=by
 subst e
 rw[ho]at hoj;simp only[yAb]at hoj;subst hoj
 refine⟨?_,λhw=>?_,λhw=>?_⟩
 .simp[e1]
 .simp only[yAM]at hw ⊢
  simp only[yDm,yAN,e2]
  exact hrun hw
 .simp only[yAM]at hw ⊢
  simp only[yDm,yAN,e2]
  exact hskip hw):G:=h
theorem cw(h:G:=by
 simp(disch:=first|omega|(simp;done)|(simp;omega)) [yAu,<-hrest,bD]<;>try rfl):G:=h
theorem cy(h:G:=by
 exact⟨h,by simp,λa ha b hb e=>hs (by simp at hb;rw[<-hb,<-e];exact ha)⟩):G:=h
theorem cz(h:G:=by
 simp only
 omega):G:=h
theorem dc(h:G:=by
 rw[hadd]
 refine WA (hs.fresh _ (yAk _)) (λid o hd ho hb=>?_)
 have:=hs.lt id _ hd hb
 simp at this):G:=h
theorem di(h:G:=by
 simp(disch:=first|omega|(simp;done)|(simp;omega)) [yAu,<-hrest]<;>try rfl):G:=h
theorem dj(h:G:=by
 refine⟨v,w',.inl ?_,hl⟩
 simp only[execOp,resolve,invoke,builtin,yAV,yAY,yAX]
 simp[hx2,r]):G:=h
theorem dm(h:G:=by
 have hkm:k'%n<n:=yBZ _ hn0
 have jY:k'%n<zv.cells.size:=by omega
 have hlt2:k'%n<z.cells.length:=by omega
 simp[hk,hzs,hlt2]at hv hd
 subst hv;subst hd
 exact hzc.2 (k'%n) _ _ (by simp[jY]) (by simp[hlt2])):G:=h
theorem dw(h:G:=by
 refine⟨h1,λm=>yBS (h2 m) λe w' he=>?_⟩
 cases e with
 |returned v=>
  obtain⟨c',e1,e2,e3,e4,e5,e6⟩:=he
  exact⟨c',e1,e2,e3,e4,e5.strip,e6⟩
 |panicked ch=>exact he.elim
 |outgrown=>exact he.elim):G:=h
theorem dx(h:G:=by
 refine aM.normal (M-1) (by omega) (by refine⟨i+1,7,o++[⟨6,[10],0,(0,0),ln,(l.length:Int)+1⟩],bY,σ3,?_⟩;exact cG (⟨by omega,by rw[yDu,yDv,hln];exact iS,.inr rfl,by simpa using hr',hk0,by rw[yAa,yBb];omega⟩))):G:=h
theorem dy(h:G:=by
 simp(disch:=first|omega|(simp;done)|(simp;omega)) [yAu,hf,bD]<;>try rfl):G:=h
theorem dz(h:G:=by
 have:(⟨b,off,none⟩:Addr).add (z.toNat*n)=⟨b,off+z.toNat*n,none⟩:=by unfold Addr.add;split<;>simp_all
 have hz:z<(len:Int):=by omega
 simp[Instr.indexAt,asIntOf,yAO hu,Instr.sureAddr,h0,hz,lE hn,this]):G:=h
theorem ec(h:G:=by
 split at hst
 .split at hst
  .split at hst
   .simp only[yAb]at hst;subst hst;simp
   .cases hst
  .cases hst
 .cases hst):G:=h
theorem ef(h:G:=by
 simp(disch:=first|omega|(simp;done)|(simp;omega)) [yAu,hT]<;>try rfl):G:=h
theorem eg(h:G:=by
 rcases h4 id e3 with h6|h6
 .exact hd id e1 h6
 .rcases h5.row with⟨_,h7⟩ | ⟨_,id',h7,h8⟩
  .rw[h7]at e1;cases e1
  .rw[h7]at e1
   simp only[Tok.own.injEq]at e1
   have:=(yA.1 h8).1
   omega):G:=h
theorem ei(h:G:=by
 exact⟨v,by simp[execOp,r],q⟩):G:=h
theorem ek(h:G:=by
 obtain⟨c',rfl,rfl,hs',nx,hv,_⟩:=hl
 exact ih (i+1) vN hs' (hX.next hs nx) ((hf.mono nx).put hv _) h
  (λKA lN e1 e2 e3 e4 e5=>hQ KA lN e1 e2 (nx.trans e3) e4 (e5.trans (by cases o.dst<;>rfl)))):G:=h
theorem eo(h:G:=by
 simp only[yAb,yAc]at hp ⊢
 obtain⟨rfl,rfl⟩:=hp
 exact⟨⟨rfl,rfl⟩,rfl⟩):G:=h
theorem ep(h:G:=by
 refine aM.normal (m-1) (by omega) (by refine⟨k+1,?_⟩;exact cG (⟨by omega,by omega,hkB⟩))):G:=h
theorem eu(h:G:=by
 have:(⟨b,off,none⟩:Addr).add (z.toNat*n)=⟨b,off+z.toNat*n,none⟩:=by unfold Addr.add;split<;>simp_all
 have hz:z<(m':Int):=by omega
 simp[Instr.indexAt,asIntOf,yAO hu,h0,hz,lE hn,this]):G:=h
theorem ew(h:G:=by
 rename_i hw
 rw[yAI hw]
 refine⟨λf _=>hF.fn f,?_⟩
 exact ih (i+1) vN hs hX (hf.put (VR.undef c) _) h
  (λKA lN e1 e2 e3 e4 e5=>hQ KA lN e1 e2 e3 e4 (e5.trans (by cases o.dst<;>rfl)))):G:=h
theorem ey(h:G:=by
 exact aB3 rfl (by simp(disch:=first|omega|(simp;done)|(simp;omega)) [dk0,dk1,dk2,dk3,TO,BA,BC,BD,BE,BF,BG,BH,BI,BJ,BK,BL,BM,BN,BO,BP,BQ,BR,BS,LA,LB,LC,LD,LF,LG,PU,PV,PY,PZ,P0,P1,uE,oF,K9]<;>rfl)):G:=h
theorem ez(h:G:=by
 rename_i mX aG σ2 hrec
 simp only[yAb,yAc]at h
 obtain⟨rfl,rfl,rfl⟩:=h
 exact lift p σ1 _ mX hrec rfl (λ_=>⟨by rw[<-hk];exact hp,rfl⟩) (λhf=>by rw[hw]at hf;cases hf)):G:=h
theorem ff(h:G:=by
 simp only[yAn,yAZ,yBf,yBm]at hm'
 have:=hm' i hi
 rw[eN,ho]at this
 simpa [CI]using this):G:=h
theorem fh(h:G:=by
 intro i b hi hb hlt
 by_cases e':i=id
 .subst e'
  rw[mK]at hb
  rcases h3 with h3|h3
  .exact⟨hi,by rw[<-h3];exact hb⟩
  .have:=h3 b hb;omega
 .rw[eW e']at hb;exact⟨hi,hb⟩):G:=h
theorem fj(h:G:=by
 exact hE.ret hF hg hgo hs hX hv):G:=h
theorem fk(h:G:=by
 split at hs
 .split at hs
  .split at hs
   .simp only[yAb]at hs
    exact⟨id,_,by simp[mT,h1,jH],hs.symm⟩
   .simp at hs
  .simp at hs
 .simp at hs):G:=h
theorem fm(h:G:=by
 obtain⟨q1,q2⟩:=aIn hb
 cases hx<;>cases hy<;>first|(exact absurd rfl (q1 _))|(exact absurd rfl (q2 _))|rfl|(exact(n1 _ _ _ _ rfl rfl).elim)|(exact(n2 _ _ rfl rfl).elim)):G:=h
theorem fo(h:G:=by
 unfold bK at h1 ⊢
 cases hg:l[n]? with
 |none=>rfl
 |some t=>
  simp only[hg]at h1 ⊢
  split
  .rename_i h2;rw[yAJ h2]at h1;exact absurd rfl h1
  .rfl):G:=h
theorem fq(h:G:=by
 exact⟨by simp,by simp,by simp⟩):G:=h
theorem fu(h:G:=by
 have hg:x.toNat.gcd y.toNat=1:=by
  have:x.natAbs=x.toNat:=by omega
  rw[<-this]
  exact k5
 have:=(OV hg (by omega) (by omega) (by omega) []).2.2.1
 simp only[pN,yAa,yBb]
 omega):G:=h
theorem fy(h:G:=by
 refine⟨.int .i64 n,?_,.int _ _⟩
 simp[builtin,Builtin.len_,ht,hv,yAO hu,goInt]):G:=h
theorem fO(h:G:=by
 refine aM.normal (m-1) (by omega) (by refine⟨i+1,?_⟩;exact cG (⟨by omega,hs⟩))):G:=h
theorem fP(h:G:=by
 refine aM.normal ((rest.drop 1).length) (by omega) ⟨z,f,rest.drop 1,bR+1,o,tok,_,cG (⟨rfl,by omega,hli,fU,nH,by rw[C5];exact hb0,hsetq _,aA8,by omega,by omega⟩)⟩):G:=h
theorem ga(h:G:=by
 refine aD hq ?_
 refine WL.dP 4 (by rfl) (by rfl) ?_
 refine aIO trivial ?_
 apply SQ.nil
 refine cT.op (.i (by rfl)) (by rfl) (by rfl) ?_
 exact .inl ⟨_,rfl,rfl,hp⟩):G:=h
theorem gh(h:G:=by
 exact⟨v,c.w,.inl (by simp[execOp,r]),c,rfl,rfl,hs,.refl _ _,hv,λ_ h=>.inl h⟩):G:=h
theorem gl(h:G:=by
 simp only[e1]
 rw[dN h]
 rfl):G:=h
theorem gm(h:G:=by
 simp[iE,iF,iG,iH,iI,iJ,u1,v1,w1]
 exact⟨_,_,⟨rfl,rfl⟩,h1.kM hs rfl hr (FO hP)⟩):G:=h
theorem gq(h:G:=by
 intro j hj hlt
 by_cases e:j=i
 .subst e
  simp[htr]
 .simp only[yAI e]
  rw[h6 j (by omega) (by simp at hlt;omega),htr,show j-i=(j-(i+1))+1 by omega,yBL]):G:=h
theorem gu(h:G:=by
 rename_i mX aG σ2 hrec
 simp only[yAb,yAc]at h
 obtain⟨rfl,rfl,rfl⟩:=h
 exact lift (.aK []) σ none mX hrec rfl (λht=>absurd ht hw) (λ_=>⟨rfl,rfl⟩)):G:=h
theorem gv(h:G:=by
 obtain⟨callee,args,ts⟩:=c
 cases callee with
 |builtin b=>cases b<;>first|rfl|(rw[hq]at hop;cases hop)
 |value f=>rfl
 |invoke r m=>rfl):G:=h
theorem gw(h:G:=by
 rcases Nat.le_total ys.length n with h|h
 .rw[show Nat.min ys.length n=ys.length from yDl h,yBz,yAz h]
 .rw[show Nat.min ys.length n=n from Nat.min_eq_right h]):G:=h
theorem gy(h:G:=by
 exact⟨_,_,rfl,rfl,rfl⟩):G:=h
theorem gz(h:G:=by
 refine aI.aU 31 h0 func13 (h:=?_)
 refine aD (A13 h1 h2 @a @a2 @b b2 @c @e hM hG @w q1 @q) ?_
 simp(disch:=first|omega|(simp;done)|(simp;omega)) [yAu,q]<;>try rfl):G:=h
theorem ic(h:G:=by
 rw[yAo]at h1 h2
 cases hj:l[j]? with
 |none=>rw[hj]at h1;simp at h1
 |some b=>
  rw[hj]at h1 h2
  simp only[yAC,yAb]at h1 h2
  subst h1 h2
  exact .int _ _):G:=h
theorem ig(h:G:=by
 simp[IntKind.wrap,IntKind.min,IntKind.max,IntKind.signed,IntKind.bits]
 try omega):G:=h
theorem ij(h:G:=by
 intro i hi
 simp only[Cx.put,yAD]
 exact hs.aW i hi):G:=h
theorem iq(h:G:=by
 obtain⟨r,h1,h2,h3,h4⟩:=(key _ rfl _ _ rfl).ex
 exact⟨_,_,_,_,_,_,_,_,_,_,_,_,_,r,func85,rfl,rfl,rfl,by simp[show Tryz.f85.ntmps=_ from rfl],h1,h2,h3,h4⟩):G:=h
theorem ir(h:G:=by
 cases e';exact h9):G:=h
theorem iu(h:G:=by
 by_cases e:i=id
 .subst e;exact mK
 .exact eW e):G:=h
theorem iw(h:G:=by
 rw[yAo]at hd
 cases hx:ds[i]? with
 |none=>rw[hx]at hd;simp at hd
 |some x=>
  rw[hx]at hd;simp only[yAC,yAb]at hd;subst hd
  exact ih i v x hv hx):G:=h
theorem iz(h:G:=by
 cases a1.defers with
 |nil=>intro _;rfl
 |cons d ds=>intro h;exact h):G:=h
theorem ja(h:G:=by
 obtain⟨b,_,rfl⟩:=yAw.1 hv
 rfl):G:=h
theorem jb(h:G:=by
 simp(disch:=first|omega|(simp;done)|(simp;omega)) [yAu,hfS]<;>try rfl):G:=h
theorem jc(h:G:=by
 refine⟨.int .i64 (Nat.min ys.length n),w',?_,_,rfl,rfl,hs',hn',.int _ _,λi hi=>.inl hi⟩
 simp[Builtin.copy_,yAO hu,r2,hsize,r1,goInt,hst]):G:=h
theorem jd(h:G:=by
 rw[fB.1]at hq
 simp only[yAb,U.row.injEq]at hq
 obtain⟨rfl,rfl,rfl,rfl⟩:=hq
 exact⟨yAk _,λ_=>⟨rfl,C,fB.2.1,by simp⟩⟩):G:=h
theorem je(h:G:=by
 unfold kI
 rw[yAI (by omega)]):G:=h
theorem jf(h:G:=by
 have:(σ.set id z).length=σ.length:=by simp
 rw[<-this]
 simp):G:=h
theorem jg(h:G:=by
 refine .inr ⟨hne,rfl,σ.length,rfl,?_⟩
 rw[yAd (by omega),List.getElem?_append_right (by rw[yAD];exact yAk _),yAD,Nat.sub_self]
 simp):G:=h
theorem jh(h:G:=by
 obtain⟨N,h⟩:=h
 exact .step (N:=N) λn hn=>by
  simp only[gE,h n hn]
  obtain⟨x,a,b,c⟩:=r
  cases x<;>first|exact absurd rfl hr|rfl):G:=h
theorem ji(h:G:=by
 simp(disch:=first|omega|(simp;done)|(simp;omega)) [yAu,hm]<;>try rfl):G:=h
theorem jj(h:G:=by
 exact MQ (by omega)):G:=h
theorem jk(h:G:=by
 have:=Leaves.of (p:=.bool false) (v:=.bool false) VX (aC4.trans VY) (.bool false)
 rw[w4,e4,e3]at this
 exact this):G:=h
theorem jl(h:G:=by
 cases i with
 |zero=>simp at hv hd;subst hv;subst hd;exact a1
 |succ i=>exact b2 i v' d (by simpa using hv) (by simpa using hd)):G:=h
theorem jm(h:G:=by
 obtain⟨x,hx⟩:=hpre
 have hxl:=yAP List.length hx
 rw[yAa]at hxl
 have:x=[]:=yAf (by omega)
 rw[hx,this,yAl]):G:=h
theorem jn(h:G:=by
 rcases h3 with h3|h3
 .exact hs.inj i id b hi hd hne hb (by rw[<-h3];exact hb')
 .have:=h3 b hb'
  have:=hs.lt i b hi hb
  omega):G:=h
theorem jo(h:G:=by
 have hne:i+(o::rest).length≠i:=by simp
 simp only[yAI hne]
 rw[show i+(o::rest).length=i+1+rest.length by simp;omega];exact e3):G:=h
theorem jq(h:G:=by
 have hne:i+(o::rest).length≠i:=by simp
 simp only[yAI hne]
 rw[show i+(o::rest).length=i+1+rest.length by simp;omega];exact e4):G:=h
theorem jr(h:G:=by
 obtain⟨ad,q1,q2,_⟩:=a6 j v hj
 exact⟨ad,q1,q2⟩):G:=h
theorem js(h:G:=by
 obtain⟨a1,a2⟩:=hS.ks p hp
 obtain⟨o,ho⟩:=hK p hp
 rw[ho]at a1
 refine⟨?_,a2⟩
 rw[ho]
 exact h3 _ _ (H8 h.row a1) a1):G:=h
theorem jt(h:G:=by
 simp only
 cases hpo:nU E fl fr σ o.op with
 |none=>rfl
 |some z=>
  rw[aLy hpo,hd]at hp
  cases hp):G:=h
theorem ju(h:G:=by
 intro i b hi hb
 by_cases e':i=id
 .subst e';rw[mK]at hb;exact h5 b hb
 .rw[eW e']at hb;exact yBM (hs.lt i b hi hb) h0.2.2.2):G:=h
theorem jw(h:G:=by
 obtain⟨N,h⟩:=h
 obtain⟨M,k⟩:=k
 exact .step (N:=max N M) λn hn=>by simp only[gE,h n (by omega)];exact k n (by omega)):G:=h
theorem jx(h:G:=by
 refine aM.normal (M-1) (by omega) ⟨i+1,z,o,tok,_,cG (⟨by omega,by rw[hoo,yDu,yDv,hln];exact iS,fU,eH,hb0,aA8⟩)⟩):G:=h
theorem jy(h:G:=by
 simp only[World.cell?,e2]
 rw[yAv]at hj
 split at hj
 .rw[yBC]at hj
  simpa using hj
 .cases hj):G:=h
theorem jz(h:G:=by
 apply SQ.nil
 exact FQ.call (.i (by rfl)) (by rfl) (by rfl) hghQ hqhQ e4 (hphQ _ _ _ (by have:=yBu.2 hne;omega)) YK):G:=h
theorem kf(h:G:=by
 refine aD (A9 h1 h2 h3 ht hd rJ hP hs hq) ?_
 simp(disch:=first|omega|(simp;done)|(simp;omega)) [yAu,hn]<;>try rfl):G:=h
theorem kg(h:G:=by
 obtain⟨k,_,rfl⟩:=hv
 have jY:k%zv.cells.size<zv.cells.size:=yBZ _ (by omega)
 apply hz1
 simp[jY]):G:=h
theorem ki(h:G:=by
 intro b hb
 rcases yBn.1 hb with hb|hb
 .exact f5 b hb
 .simp only[yC]at hb
  subst hb
  decide):G:=h
theorem kj(h:G:=by
 apply SQ.nil
 refine aD trivial ?_
 simp(disch:=first|omega|(simp;done)|(simp;omega)) [yAu,FF,aKE,sz]<;>try rfl):G:=h
theorem ko(h:G:=by
 obtain⟨b1,b2,e1,e2,e3,e4,e5⟩:=key _ xs ys h
 exact⟨b1,b2,e1,e2,e3,by simpa using e4,by simpa using e5⟩):G:=h
theorem kr(h:G:=by
 have:ops.toList[i]?=some o:=by
  have:=yAP List.head? hdrop
  simpa [yCa]using this
 rw[<-yCd];exact this):G:=h
theorem ku(h:G:=by
 simp only[yAb,yAc]at h;exact h.2.symm):G:=h
theorem kz(h:G:=by
 simp only[dV,hu,hi,hi1,hi2,IE,hi4]
 rw[if_pos ⟨.inl rfl,hzl,by omega,trivial,hmm,hbb⟩,if_neg hll,yAD]):G:=h
theorem kD(h:G:=by
 cases e with
 |returned v=>exact hK v w'' he
 |panicked chain=>exact hR _ _ he
 |outgrown=>exact he.elim):G:=h
theorem kZ(h:G:=by
 intro i p hi hp
 have e':i≠id:=by rintro rfl;rw[hq]at hp;cases hp
 exact⟨eW e',p,by rw[cS e'];exact hp⟩):G:=h
theorem ld(h:G:=by
 exact⟨v,by simp[Instr.loadAt,Instr.sureAddr,r],q⟩):G:=h
theorem lf(h:G:=by
 exact VH hU l (i+1) _ _ _ ho.2 h):G:=h
theorem lg(h:G:=by
 refine aD (A6 h1 hF @b @w @c @e) ?_
 simp(disch:=first|omega|(simp;done)|(simp;omega)) [yAu,b,c,e]<;>try rfl):G:=h
theorem lp(h:G:=by
 refine aM.normal (m-1) (by omega) (by refine⟨i+1,kH,?_⟩;exact cG (⟨by omega,by rw[hst];exact hs⟩))):G:=h
theorem lu(h:G:=by
 simp only[execOp,resolve,e,Deferred.ofValue,yAV,yAY,yAX,invoke,callFunc,run_program,hfn,hn,hb',yAx,yAN,e2]):G:=h
theorem lz(h:G:=by
 split at h
 .rename_i hx
  have:=hx.choose_spec
  simp only[yAb]at h
  rw[h]at this
  exact this
 .cases h):G:=h
theorem mb(h:G:=by
 intro i hi hn
 have e':i≠id:=by rintro rfl;rw[hq]at hn;exact hn
 exact⟨eW e',by rw[cS e'];exact hn⟩):G:=h
theorem mc(h:G:=by
 simp only[Instr.storeAt,Instr.sureAddr,yAV,yAY,yAX,storeVar,lE hn,hsz,ne_eq,yBt,yAN]
 exact hst):G:=h
theorem me(h:G:=by
 rw[hY]at hst ⊢
 refine aD q1 ?_
 simp(disch:=first|omega|(simp;done)|(simp;omega)) [yAu,hst]<;>try rfl):G:=h
theorem mg(h:G:=by
 simp only at h ⊢
 split at h
 .rename_i p σ1 hp
  rw[NM hp]
  exact aAf h
 .cases h):G:=h
theorem mh(h:G:=by
 rcases hS.rd with h5 | ⟨id,e1,h5⟩
 .exact .inl h5
 .exact .inr ⟨id,e1,h3 _ _ (H8 h.row h5) h5⟩):G:=h
theorem mj(h:G:=by
 refine aD (A3 @a @b @c) ?_
 simp(disch:=first|omega|(simp;done)|(simp;omega)) [yAu,pQ,a,b,c]<;>try rfl):G:=h
theorem mo(h:G:=by
 apply SQ.nil
 refine aD q1 ?_
 simp(disch:=first|omega|(simp;done)|(simp;omega)) [yAu,he]<;>try rfl):G:=h
theorem mq(h:G:=by
 intro i hi _
 exact cS (by omega)):G:=h
theorem mu(h:G:=by
 obtain⟨e,he,hb⟩:=Array.any_eq_true'.1 this
 simp only[yAr,yBA]at hb
 exact⟨e,he,hb.1,hb.2⟩):G:=h
theorem mw(h:G:=by
 refine aD (A3 @a @b @c) ?_
 simp(disch:=first|omega|(simp;done)|(simp;omega)) [yAu,lG,a,b,c]<;>try rfl):G:=h
theorem mz(h:G:=by
 simp only[yBv,yCT]at h1
 simp only[oS,List.getD_cons_zero]at h2
 exact bW.aIA hρ h1 h2):G:=h
theorem ng(h:G:=by
 have:=fin 0 (by omega)
 simp only[yAp,yAQ,Array.empty_append]at this ⊢
 exact⟨_,_,_,hr,this⟩):G:=h
theorem nh(h:G:=by
 unfold kI
 rw[yAJ (by omega)]):G:=h
theorem ni(h:G:=by
 split at h
 .split at h
  .simp only[PD.typed.injEq]at h;exact h.1
  .cases h
 .subst h;cases hv):G:=h
theorem nj(h:G:=by
 have e2:aT fr (.const .nilIface)=some (.bL .nilIface):=rfl
 simp only[bI,dI,pop,dD,cJ hx,e2,e,Q1,hu]):G:=h
theorem nk(h:G:=by
 refine aD (A2 @a @c) ?_
 simp(disch:=first|omega|(simp;done)|(simp;omega)) [yAu,pQ,a,c]<;>try rfl):G:=h
theorem nq(h:G:=by
 refine aD (A2 @a @b) ?_
 simp(disch:=first|omega|(simp;done)|(simp;omega)) [yAu,kV,a,b]<;>try rfl):G:=h
theorem nt(h:G:=by
 refine aD (A2 @a @b) ?_
 simp(disch:=first|omega|(simp;done)|(simp;omega)) [yAu,a,b]<;>try rfl):G:=h
theorem nw(h:G:=by
 simp[Instr.sliceAt,Instr.slice,yAO hu,b3,lE hn]):G:=h
theorem ny(h:G:=by
 rcases yBy i ops.toList.length with h' | h'
 .exact h'
 .rw[yAs h']at hdrop;cases hdrop):G:=h
theorem oa(h:G:=by
 simp
 exact⟨_,_,⟨rfl,rfl⟩,hfin _ _⟩):G:=h
theorem ob(h:G:=by
 simp only[e1]
 rw[dN h,hS]
 rfl):G:=h
theorem oe(h:G:=by
 exact⟨v,by simp[hg,r],q⟩):G:=h
theorem og(h:G:=by
 have:=oN ho
 have h2:ops.toList.length<=i:=List.drop_eq_nil_iff.1 hdrop
 simp at h2;omega):G:=h
theorem oh(h:G:=by
 cases A<;>simp[Builtin.append_,yAO hu,sizeOf,typeInfo,hi,Builtin.lenOf,hfy,hn,storeCells]):G:=h
theorem om(h:G:=by
 split at h
 .simp only[yAb,yAc]at h
  obtain⟨rfl,_,_⟩:=h
  rfl
 .cases h):G:=h
theorem oq(h:G:=by
 subst this
 simp[Builtin.firstCells]):G:=h
theorem ot(h:G:=by
 simp only[PD.cells]at hdm
 simp only[PD.dK,PD.HR]at hxf
 exact yAn.1 hxf d hdm):G:=h
theorem ou(h:G:=by
 show(Instr.checkKey e (9999+1) kt _).run P w=_
 unfold Instr.checkKey
 simp[yAO hu]):G:=h
theorem ov(h:G:=by
 simp only[yAb,yAc]at hp ⊢
 exact⟨⟨hp.1,by rw[hp.2]⟩,by rw[hp.2]⟩):G:=h
theorem ow(h:G:=by
 simp only[yAa,yBb]
 omega):G:=h
theorem oz(h:G:=by
 obtain⟨a1,a2,o,a3⟩:=h.ks p hp
 rw[a3]at a1 ⊢
 exact⟨h3 _ _ a2 a1,a2,o,rfl⟩):G:=h
theorem pe(h:G:=by
 rename_i hx
 have e:=(cL hf hx).L1
 exact⟨_,by simp[execOp,e,asBool],cL hf h⟩):G:=h
theorem pg(h:G:=by
 rintro rfl
 rw[eL (hs.aW i hd)]at hi'
 simp only[yAb]at hi';subst hi';exact hn'):G:=h
theorem pq(h:G:=by
 cases b1 with
 |true=>simpa [e3]using q2
 |false=>simp[e3]):G:=h
theorem pz(h:G:=by
 exact⟨p1,σ1,by simpa [PD.strip]using e1,e2,by simp[PD.strip,PD.fG,PD.dK],rfl⟩):G:=h
theorem qc(h:G:=by
 simp(disch:=first|omega|(simp;done)|(simp;omega)) [yAu,<-iS,hxs,aKm]<;>try rfl):G:=h
theorem qd(h:G:=by
 intro i j b' hi hj hne h5 h6
 rw[hρ]at h5 h6
 exact hs.inj i j b' hi hj hne h5 h6):G:=h
theorem qe(h:G:=by
 simp only[yBH]at e
 rw[e.1]
 rfl):G:=h
theorem qf(h:G:=by
 exact⟨.pointer (some ⟨b,off,none⟩),by simp[execOp,e],by rw[<-e];exact hv⟩):G:=h
theorem qg(h:G:=by
 rw[hu]at hv
 obtain⟨cs,e,_⟩:=hv
 exact row (by simp only[fA,hu]) ⟨cs,e⟩):G:=h
theorem qh(h:G:=by
 apply SQ.nil
 simp[PD.marked,PD.N0]):G:=h
theorem qi(h:G:=by
 simp only[E7,hb]
 rw[dN ⟨yAF _,hp⟩,ha]
 simp only
 rw[dN (hs2 _ _)]):G:=h
theorem qj(h:G:=by
 exact Z2 hU l (i+1) _ _ _ hd' hm ht h):G:=h
theorem qk(h:G:=by
 simp only[yBe]at hz
 exact aHd h1 (by rw[h2,hlen]) (by omega)):G:=h
theorem ql(h:G:=by
 simp only[yAb,yAc]at h
 obtain⟨rfl,rfl⟩:=h
 exact⟨rfl,more _⟩):G:=h
theorem qm(h:G:=by
 have:s=⟨s.data.toList.toArray⟩:=by simp
 conv=>lhs;rw[this]
 exact .str _):G:=h
theorem qn(h:G:=by
 exact Nx.MC hs hd hq hr hfl ⟨rfl,rfl,rfl,by simp⟩ (λk hk=>yCf _ _ _ _ hk)):G:=h
theorem qo(h:G:=by
 simp(disch:=first|omega|(simp;done)|(simp;omega)) [yAu,hp,e4]<;>try rfl):G:=h
theorem qp(h:G:=by
 intro b hb
 rcases yAS.1 hb with rfl|hb
 .decide
 .exact hd v b hb):G:=h
theorem qq(h:G:=by
 have:(j+1)*n<=(j+1+qs.length)*n:=yBO _ (by omega)
 rw[yBl]at this;omega):G:=h
theorem qt(h:G:=by
 simp(disch:=first|omega|(simp;done)|(simp;omega)) [yAu,<-iS,aKl]<;>try rfl):G:=h
theorem qu(h:G:=by
 cases K with
 |nil=>exact absurd rfl hK0
 |cons x K'=>exact⟨x,K',rfl⟩):G:=h
theorem qv(h:G:=by
 obtain⟨r,h1,p1,σ1,h2,h3⟩:=h.ex
 exact⟨p1,σ1,.body hE hf hb h1 h2,h3⟩):G:=h
theorem qw(h:G:=by
 rw[yAJ h1]
 exact⟨λe=>absurd e h1,λe=>absurd (e.1 r (yBa ..)) h1⟩):G:=h
theorem qx(h:G:=by
 obtain⟨ad,e',_⟩:=a6 0 flx[0] (by simp[this])
 cases e'):G:=h
theorem qy(h:G:=by
 rcases hsz with h0|h0
 .rw[a4,h0];simp
 .rw[a4,h0]):G:=h
theorem qz(h:G:=by
 exact⟨xs,L9 hx (λg hg=>h.block g (hs.lt id g hd hg) (by simp))⟩):G:=h
theorem ri(h:G:=by
 rcases h4 id e1 with h5|h5
 .exact h.ge id h5
 .rw[h5];exact hS.len):G:=h
theorem rj(h:G:=by
 exact⟨_,_,⟨rfl,rfl⟩,CC.kM hs hdd hr (by rw[hfin];exact FO hP)⟩):G:=h
theorem rm(h:G:=by
 exact .agg cs ds hl h1 (λi v d hv hd=>ih i v d hv hd (at_ hp hd))):G:=h
theorem rq(h:G:=by
 simp only[yAb]at h ⊢
 subst h
 rw[yCK _ _ hlt]):G:=h
theorem ru(h:G:=by
 refine aD (A2 h1 hp) ?_
 simp
 exact⟨_,_,⟨rfl,rfl⟩,hpost _⟩):G:=h
theorem rz(h:G:=by
 simp only[yAb]at ho
 exact⟨_,_,_,ho.symm,hj⟩):G:=h
theorem sj(h:G:=by
 simp only[yAb,yAc]at hrun ⊢
 exact⟨hrun.1,trivial⟩):G:=h
theorem so(h:G:=by
 exact .aK cs ds hl (λi v d hv hd=>ih i v d hv hd (at_ hp hd))):G:=h
theorem su(h:G:=by
 simp only[yAb]at h;subst h
 exact⟨by simpa [PD.cells],rfl⟩):G:=h
theorem sw(h:G:=by
 rw[yAJ h1]
 exact⟨λe=>absurd e h1,λe=>absurd e.1 h1⟩):G:=h
theorem tc(h:G:=by
 first|refine WL.aZ 1 (by rfl) (by rfl) ?_|refine WL.dP 1 (by rfl) (by rfl) ?_
 refine bF (A12 jN jO jP jQ jR jS oY oZ o1 o2 o3 o4) ?_
 apply SQ.nil
 refine cT.call (.i (by rfl)) (by rfl) (by rfl) hghN hqhN e1 w1 ?_
 exact af):G:=h
theorem td(h:G:=by
 first|refine WL.aZ 1 (by rfl) (by rfl) ?_|refine WL.dP 1 (by rfl) (by rfl) ?_
 refine bF (A6 jN jO jP jQ jR jS) ?_
 apply SQ.nil
 refine cT.call (.i (by rfl)) (by rfl) (by rfl) hghC hqhC e1 w1 ?_
 exact af):G:=h
theorem tf(h:G:=by
 first|refine WL.aZ 1 (by rfl) (by rfl) ?_|refine WL.dP 1 (by rfl) (by rfl) ?_
 refine bF (A3 IQ IS FP) ?_
 apply SQ.nil
 refine cT.call (.i (by rfl)) (by rfl) (by rfl) hgX hqX f2 f3 ?_
 exact af):G:=h
theorem tj(h:G:=by
 intro i st fr ps asg bd hi hm
 have e':i≠id:=by rintro rfl;rw[eL (hs.aW i hd)]at hm;cases hm
 rw[cS e']at hm
 obtain⟨b',r,e1,e2,e3,e4,e5,e6,e7⟩:=hs.loop i st fr ps asg bd hi hm
 refine⟨b',r,(eW e').trans e1,?_,e3,e4,e5,e6.mono nx,e7⟩
 exact ak):G:=h
theorem tq(h:G:=by
 first|refine WL.aZ 1 (by rfl) (by rfl) ?_|refine WL.dP 1 (by rfl) (by rfl) ?_
 refine bF (A18 pV pW pX pY pZ qA qB qC qD qE qG qH wI wJ wK wL wM wN) ?_
 apply SQ.nil
 refine cT.call (.i (by rfl)) (by rfl) (by rfl) hghK hqhK e3 w3 ?_
 exact af):G:=h
theorem tv(h:G:=by
 first|refine WL.aZ 1 (by rfl) (by rfl) ?_|refine WL.dP 1 (by rfl) (by rfl) ?_
 refine bF (A18 qI qJ qK qL qM qN qO qP qQ qR qS qT sA sB sC sD sE sF) ?_
 apply SQ.nil
 refine cT.call (.i (by rfl)) (by rfl) (by rfl) hghK hqhK e7 w7 ?_
 exact af):G:=h
theorem tw(h:G:=by
 first|refine WL.aZ 1 (by rfl) (by rfl) ?_|refine WL.dP 1 (by rfl) (by rfl) ?_
 refine bF (A18 yX yY yZ y0 y7 y8 y9 zA zB zC zD zE zF zG zH zI zJ zK) ?_
 apply SQ.nil
 refine cT.call (.i (by rfl)) (by rfl) (by rfl) hghM hqhM tF nM ?_
 exact af):G:=h
theorem uc(h:G:=by
 intro i es hi ho
 have e':i≠id:=by rintro rfl;rw[eL (hs.aW i hd)]at ho;cases ho
 rw[cS e']at ho
 obtain⟨b',ents,clock,e1,e2,e3,e4⟩:=hs.map i es hi ho
 refine⟨b',ents,clock,(eW e').trans e1,?_,e3.mono nx,e4.mono nx⟩
 exact ak):G:=h
theorem ud(h:G:=by
 intro i p hi hp
 have e':i≠id:=by rintro rfl;rw[eL (hs.aW i hd)]at hp;cases hp
 rw[cS e']at hp
 obtain⟨b',cs',T',e1,e2,e3,e4⟩:=hs.box i p hi hp
 refine⟨b',cs',T',(eW e').trans e1,?_,e3.mono nx,e4⟩
 exact ak):G:=h
theorem ue(h:G:=by
 refine aD trivial ?_
 exact aa):G:=h
theorem uf(h:G:=by
 intro i hi hm
 have e':i≠id:=by rintro rfl;rw[eL (hs.aW i hd)]at hm;cases hm
 rw[cS e']at hm
 obtain⟨b',e1,e2⟩:=hs.mark i hi hm
 refine⟨b',(eW e').trans e1,?_⟩
 exact ak):G:=h
theorem ug(h:G:=by
 split at h
 .rename_i hw
  split at h
  .rename_i p σ1 hp
   split at h
   .exact ez
   .exact ah
  .exact ah
 .rename_i hw
  split at h
  .exact gu
  .exact ah):G:=h
theorem uh(h:G:=by
 refine aD q1 ?_
 exact aq):G:=h
theorem uj(h:G:=by
 have:=yAP List.head? hd
 rw[yCa]at this
 exact bn):G:=h
theorem uk(h:G:=by
 rcases hz with h|h
 .rw[h];rfl
 .exact ck):G:=h
theorem um(h:G:=by
 split at h
 .rename_i q hq;exact(yA.1 hq).1
 .exact ah):G:=h
theorem uo(h:G:=by
 have:=yAP List.head? hdrop
 rw[yCa]at this
 exact bn):G:=h
theorem uq(h:G:=by
 refine aD (A2 h1 hE) ?_
 exact aa):G:=h
theorem ur(h:G:=by
 apply SQ.nil
 refine cT.call (.i (by rfl)) (by rfl) (by rfl) hghM hqhM e9 w9 ?_
 exact af):G:=h
theorem uu(h:G:=by
 apply SQ.nil
 refine cT.call (.i (by rfl)) (by rfl) (by rfl) hghD hqhD tG nO ?_
 exact af):G:=h
theorem uv(h:G:=by
 apply SQ.nil
 refine cT.call (.i (by rfl)) (by rfl) (by rfl) hghD hqhD QM JR ?_
 exact af):G:=h
theorem uw(h:G:=by
 simp only[cK]at h
 split at h
 .split at h
  .exact ku
  .exact ah
 .exact ah):G:=h
theorem ux(h:G:=by
 refine aI.aU 38 h0 func50 (h:=?_)
 refine aD (A7 h1 h2 h3 e1 e2 e3 e4) ?_
 exact aa):G:=h
theorem uy(h:G:=by
 refine⟨b',C,cur,(eW e').trans e1,?_,e3,e4,e5,e6,e7.mono nx,e8⟩
 exact ak):G:=h
theorem uz(h:G:=by
 split at ht
 .simp only[yAS,yBh,yBi]at ht
  rw[ht]
  exact br
 .cases ht):G:=h
theorem vc(h:G:=by
 have:=VR.agg (c:=c) cells'.toList out h2.1 h3 h2.2
 exact bn):G:=h
theorem ve(h:G:=by exact A15 iE iF iG iH iI iJ o5 o6 o7 o8 o9 pA u1 @v1 w1):G:=h
theorem vf(h:G:=by exact A20 hghN e1 jN jO jP jQ jR jS oY oZ o1 o2 o3 o4 iE iF iG iH iI (A10 iJ o5 o6 o7 o8 o9 pA u1 @v1 w1)):G:=h
theorem vg(h:G:=by exact A18 sG sH sI sJ sK sL sM sN sO sP sQ sR sS sT sU sV sW sX):G:=h
theorem vh(h:G:=by exact A20 yF yG yH yI yJ yK yL yM yN yO yP yQ yR yS yT yU yV yW u9 (A2 @v9 w9)):G:=h
theorem vj(h:G:=by exact A17 hghC e1 jN jO jP jQ jR jS iE iF iG iH iI iJ u1 @v1 w1):G:=h
theorem vl(h:G:=by exact A9 iE iF iG iH iI iJ u1 @v1 w1):G:=h
theorem vm(h:G:=by exact A18 wP wQ wR wS wU wV wW wX wY wZ xA xB xC xD xE xF xG xH):G:=h
theorem vn(h:G:=by exact A20 xI xJ xK xL xM xN xO xP xQ xR xS xT xU xV xW xX xY xZ u5 (A2 @v5 w5)):G:=h
theorem vo(h:G:=by exact A20 zL zM zN zO zP zQ zR zS zT zU zV zW zX zY zZ z7 z8 AA HI (A2 @v11 nM)):G:=h
theorem vp(h:G:=by exact A18 AB AD AE AF AG AH tY tZ uA uB uC uD AI AJ AK AL AM AO):G:=h
theorem vr(h:G:=by exact A15 q1 hi ha j0 j1 hx1 eZ hxe c2 c3 c4 c5 h1 hE @hle):G:=h
theorem vt(h:G:=by exact A14 q1 hi ha j0 hx1 hy1 eZ jY hxe hye h2 hE h3 hA):G:=h
theorem vu(h:G:=by exact A16 hs h1 h2 h3 h7 h8 dQ jB fX hl IB c6 hk2 SW SX c7):G:=h
theorem vw(h:G:=by exact A17 hgT @t1 l0 @a0 a1 @a2 @a3 @a4 l1 b0' b1 b2 b3 b4 n1 n2 n3):G:=h
theorem vz(h:G:=by exact A14 hgW @t1 IQ IS FP PM M6 M7 x2l x2a x2b x2c x2d x2e):G:=h
theorem we(h:G:=by exact A20 hghK e3 pV pW pX pY pZ qA qB qC qD qE qG qH wI wJ wK wL wM (A20 wN rO rP rQ rR rS rT rU rV rW rX rY rZ FU FV FW FX FY FZ (A3 u3 @v3 w3))):G:=h
theorem wg(h:G:=by exact A20 rO rP rQ rR rS rT rU rV rW rX rY rZ FU FV FW FX FY FZ u3 (A2 @v3 w3)):G:=h
theorem wh(h:G:=by exact A20 hghK e7 qI qJ qK qL qM qN qO qP qQ qR qS qT sA sB sC sD sE (A20 sF DJ DK DL DM DN DO DP DR DS DT DU DV DW DX DY DZ D0 D1 (A3 u7 v7 w7))):G:=h
theorem wk(h:G:=by exact A20 DJ DK DL DM DN DO DP DR DS DT DU DV DW DX DY DZ D0 D1 u7 (A2 v7 w7)):G:=h
theorem wm(h:G:=by exact A20 hghM tF yX yY yZ y0 y7 y8 y9 zA zB zC zD zE zF zG zH zI zJ (A20 zK zL zM zN zO zP zQ zR zS zT zU zV zW zX zY zZ z7 z8 AA (A3 HI @v11 nM))):G:=h
theorem wo(h:G:=by exact A20 uF uG uH uI uJ uK sY sZ s5 s6 s7 s8 uL uM uN uO uP uQ HJ (A2 HK nO)):G:=h
theorem wq(h:G:=by exact A20 hghM e9 sG sH sI sJ sK sL sM sN sO sP sQ sR sS sT sU sV sW (A20 sX yF yG yH yI yJ yK yL yM yN yO yP yQ yR yS yT yU yV yW (A3 u9 @v9 w9))):G:=h
theorem wu(h:G:=by exact A20 hgW QA B0 B1 B2 B3 B4 B5 vB vC vD vE vF vG B6 B7 B8 B9 CA (A20 CB JI JK JL JM JN JO u5 @v5 w5 aMF aMG aMH aMI aMJ aMK aGA aGB aGC (A20 aGD aGE aGF aML aMM aMN aMO aMP aMQ aMR aMS aMT aMU aMV aMW u5b v5b w5b uE (A20 oF NI GY YU YV aCo UX aMX aMY aMZ aM0 aM1 aM2 aM3 aM4 aM5 aM6 aM7 aM8 (A17 aM9 aNa aNb aNc aNd aNe aNf aNg aNh aNi aNj aNk hL hlf aNl c8 c9))))):G:=h
theorem wz(h:G:=by simp):G:=h
theorem xb(h:G:=by omega):G:=h
theorem xd(h:G:=by assumption):G:=h
theorem xe(h:G:=by rfl):G:=h
theorem xg(h:G:=by kernel_rfl):G:=h
theorem xh(h:G:=by (try simp only[yAa,yAK,yAL,maxLen]);omega):G:=h
theorem xj(h:G:=by (first|rfl|(simp[bD];repeat(first|rfl|(apply And.intro)))|(simp[bD];done))):G:=h
theorem xk(h:G:=by first|(simp;done)|(simp;omega)):G:=h
theorem xl(h:G:=by decide):G:=h
theorem xm(h:G:=by repeat(first|exact List.Mem.head _|apply List.Mem.tail)):G:=h
theorem xo(h:G:=by decide +kernel):G:=h
theorem xq(h:G:=by unfold Addr.add;split<;>simp_all):G:=h
theorem xu(h:G:=by cases x;cases y;simpa using h):G:=h
theorem xw(h:G:=by simp;omega):G:=h
theorem xx(h:G:=by cases e):G:=h
theorem xy(h:G:=by rintro rfl;rw[eL (hs.aW i hd)]at ho;cases ho):G:=h
theorem xz(h:G:=by cases h):G:=h
theorem ya(h:G:=by rw[h];rfl):G:=h
theorem yb(h:G:=by simpa using h1):G:=h
theorem yc(h:G:=by rw[yAg (yA.1 h).1];exact h):G:=h
theorem yd(h:G:=by simp[fJ,aQ,g1,g3,g5,hXM,hEm]):G:=h
theorem ye(h:G:=by rw[yAa,yBb];omega):G:=h
theorem yf(h:G:=by simpa using h):G:=h
theorem yg(h:G:=by rw[yAq hi,ha]):G:=h
theorem yh(h:G:=by rw[yAe];omega):G:=h
theorem yj(h:G:=by simpa using hx):G:=h
theorem yl(h:G:=by simp only[IntKind.wrap,IntKind.bits,IntKind.signed];simp;omega):G:=h
theorem ym(h:G:=by rw[lX];decide):G:=h
theorem yo(h:G:=by rw[yAa];omega):G:=h
theorem yp(h:G:=by simp at h):G:=h
theorem yq(h:G:=by intro p hp;exact yBE _ hp):G:=h
theorem yu(h:G:=by apply yBK;simp):G:=h
theorem yw(h:G:=by simp[Call.operands];exact yBQ.1 hx):G:=h
theorem yx(h:G:=by simpa using hu):G:=h
theorem yy(h:G:=by rw[show(s[0].toNat).toUInt8=s[0]from by simp];exact hk):G:=h
theorem yz(h:G:=by simpa using ho):G:=h
theorem za(h:G:=by simp[zeroValue,typeInfo,hi,hzv]):G:=h
theorem zb(h:G:=by refine⟨[],0,n5,.full,j5,?_⟩;exact cG (⟨by have:=h5.le;omega,hXM▸l8.start,.inl rfl,.nil,h5⟩)):G:=h
theorem zc(h:G:=by simpa using hd):G:=h
theorem zd(h:G:=by simp[ByteArray.size]):G:=h
theorem ze(h:G:=by rw[yAg eZ];exact hx0):G:=h
theorem zf(h:G:=by simpa using h3):G:=h
theorem zg(h:G:=by rw[yAe];have:=bB.le;omega):G:=h
theorem zh(h:G:=by rw[yAe];have:=h4.le;omega):G:=h
theorem zi(h:G:=by simp only;omega):G:=h
theorem zj(h:G:=by cases mx<;>simp_all):G:=h
theorem zk(h:G:=by simp[aV]at hb;omega):G:=h
theorem zn(h:G:=by rw[hsl];simp only[maxLen]at hmax;omega):G:=h
theorem zo(h:G:=by simp only[PD.fG,PD.dK,yCc];exact cM.eR l):G:=h
theorem zp(h:G:=by rw[hr];rfl):G:=h
theorem zq(h:G:=by cases h;rfl):G:=h
theorem zu(h:G:=by simp only[dD,cJ hx,hr]):G:=h
theorem zw(h:G:=by rw[yAd (Ne.symm hj),yAg (by rw[yAD];exact(yA.1 h).1),yAd (Ne.symm hj)];exact h):G:=h
theorem zx(h:G:=by simp only[maxLen];omega):G:=h
theorem zy(h:G:=by (first|rfl|(simp[hbd];repeat(first|rfl|(apply And.intro)))|(simp[hbd];done))):G:=h
theorem Aa(h:G:=by (first|rfl|(simp[hbc];repeat(first|rfl|(apply And.intro)))|(simp[hbc];done))):G:=h
theorem Ab(h:G:=by (first|rfl|(simp[iU];repeat(first|rfl|(apply And.intro)))|(simp[iU];done))):G:=h
theorem Ac(h:G:=by simp[tX]):G:=h
theorem Ad(h:G:=by simpa using hl):G:=h
theorem Ae(h:G:=by simpa using hi):G:=h
theorem Af(h:G:=by simp only[fA,hu]):G:=h
theorem Ag(h:G:=by simp[Cx.put]):G:=h
theorem Ah(h:G:=by rw[e1];rfl):G:=h
theorem Ai(h:G:=by (first|rfl|(simp[];repeat(first|rfl|(apply And.intro)))|(simp[];done))):G:=h
theorem Aj(h:G:=by simpa using h2):G:=h
theorem Ak(h:G:=by simpa using hk):G:=h
theorem Al(h:G:=by simpa using a):G:=h
theorem Am(h:G:=by simpa using b):G:=h
theorem Ao(h:G:=by simp[PD.strip]):G:=h
theorem Ap(h:G:=by unfold tn at h;exact_mod_cast h):G:=h
theorem Aq(h:G:=by simp only[maxLen]at hmax;omega):G:=h
theorem Ar(h:G:=by rw[yAt];omega):G:=h
theorem As(h:G:=by have:=hzc.1;simp at this;omega):G:=h
theorem At(h:G:=by simp only[dD,cJ hx,cJ hy,hr]):G:=h
theorem Au(h:G:=by simp[kU,aQ,g9,g11,g13,hXN,hEm]):G:=h
theorem Av(h:G:=by simp[PD.flat,PD.E1]):G:=h
theorem Aw(h:G:=by simp[hy]):G:=h
theorem Ax(h:G:=by rw[vT (hs.aW id hd)];exact h):G:=h
theorem Ay(h:G:=by cases hg):G:=h
theorem Az(h:G:=by rw[yAg (yA.1 h1).1];exact h1):G:=h
theorem Ba(h:G:=by cases hx:fn.body<;>simp_all):G:=h
theorem Bb(h:G:=by rw[yAe];have:=cU.le;omega):G:=h
theorem Bc(h:G:=by rw[hpar];simp only;omega):G:=h
theorem Bd(h:G:=by rw[e];exact hd):G:=h
theorem Be(h:G:=by rw[<-yBk,hd];rfl):G:=h
theorem Bf(h:G:=by simpa using hn):G:=h
theorem Bg(h:G:=by rw[q4];exact hm.mono q2):G:=h
theorem Bh(h:G:=by have:=s[0].toNat_lt;omega):G:=h
theorem Bi(h:G:=by simp[hlt]):G:=h
theorem Bj(h:G:=by simp[execOp,r]):G:=h
theorem Bk(h:G:=by simpa using he):G:=h
theorem Bl(h:G:=by rw[hi.size];exact oN ho):G:=h
theorem Bm(h:G:=by have:=hv.1;simp at this):G:=h
theorem Bn(h:G:=by rw[hlx];simp):G:=h
theorem Bo(h:G:=by rw[XJ];decide +kernel):G:=h
theorem Bp(h:G:=by rintro rfl;rw[eL (hs.aW i hd)]at hm;cases hm):G:=h
end
theorem tu:True:=trivial
theorem An {a b:Prop}(h:a)(k:b):a∧b:=⟨h,k⟩
theorem gn {α:Sort _}(e:α):∃x,e=x:=⟨_,rfl⟩
def yA:=@List.getElem?_eq_some_iff
def yAa:=@List.length_append
def yAb:=@Option.some.injEq
def yAc:=@Prod.mk.injEq
def yAd:=@List.getElem?_set_ne
def yAe:=@List.length_map
def yAf:=@List.eq_nil_of_length_eq_zero
def yAg:=@List.getElem?_append_left
def yAh:=@List.getElem?_eq_getElem
def yAi:=@List.append_assoc
def yAj:=@List.getElem?_set_self
def yAk:=@Nat.le_refl
def yAl:=@List.append_nil
def yAm:=@List.getElem_mem
def yAn:=@List.all_eq_true
def yAo:=@List.getElem?_map
def yAp:=@Nat.zero_add
def yAq:=@List.drop_eq_getElem_cons
def yAr:=@Bool.and_eq_true
def yAs:=@List.drop_eq_nil_of_le
def yAt:=@List.length_take
def yAu:=@decide_eq_decide
def yAv:=@List.getElem?_take
def yAw:=@List.mem_map
def yAx:=@Bool.false_eq_true
def yAy:=@List.mem_of_mem_take
def yAz:=@List.take_of_length_le
def yAA:=@List.getD_eq_getElem?_getD
def yAB:=@List.getElem?_concat_length
def yAC:=@Option.map_some
def yAD:=@List.length_set
def yAE:=@List.mem_of_getElem?
def yAF:=@Nat.zero_le
def yAG:=@List.map_congr_left
def yAH:=@List.map_append
def yAI:=@if_neg
def yAJ:=@if_pos
def yAK:=@List.length_cons
def yAL:=@List.length_nil
def yAM:=@if_true
def yAN:=@if_false
def yAO:=@Go.run_underlying
def yAP:=@congrArg
def yAQ:=@List.nil_append
def yAR:=@List.cons_append
def yAS:=@List.mem_cons
def yAT:=@List.set_cons_zero
def yAU:=@List.set_cons_succ
def yAV:=@Go.Sem.run_bind
def yAW:=@and_true
def yAX:=@Go.Result.andThen_ok
def yAY:=@Go.Sem.run_pure
def yAZ:=@List.mem_range
def yB:=@List.map_cons
def yBa:=@List.mem_cons_self
def yBb:=@List.length_singleton
def yBc:=@Ne.symm
def yBd:=@Nat.le_trans
def yBe:=@List.length_drop
def yBf:=@Bool.or_eq_true
def yBg:=@List.flatMap_cons
def yBh:=@List.not_mem_nil
def yBi:=@or_false
def yBj:=@Except.ok.injEq
def yBk:=@List.drop_drop
def yBl:=@Nat.add_mul
def yBm:=@Bool.not_eq_true'
def yBn:=@List.mem_append
def yBo:=@List.map_map
def yBp:=@List.getElem?_eq_none
def yBq:=@Int.toNat_natCast
def yBr:=@Option.some.inj
def yBs:=@List.cons.injEq
def yBt:=@not_true_eq_false
def yBu:=@List.length_pos_iff
def yBv:=@List.getElem?_cons_zero
def yBw:=@Bool.not_true
def yBx:=@decide_eq_true_eq
def yBy:=@Nat.lt_or_ge
def yBz:=@List.take_length
def yBA:=@beq_iff_eq
def yBB:=@Go.heap_alloc_new
def yBC:=@List.getElem?_drop
def yBD:=@Go.Addr.mk.injEq
def yBE:=@List.mem_cons_of_mem
def yBF:=@Go.Calls.mono
def yBG:=@List.all_cons
def yBH:=@Go.Value.slice.injEq
def yBI:=@true_and
def yBJ:=@Except.error.injEq
def yBK:=@Array.ext'
def yBL:=@List.getElem?_cons_succ
def yBM:=@Nat.lt_of_lt_of_le
def yBN:=@List.mem_of_mem_drop
def yBO:=@Nat.mul_le_mul_right
def yBP:=@List.map_nil
def yBQ:=@Array.mem_toList_iff
def yBR:=@Bool.not_false
def yBS:=@Go.CallsIn.mono
def yBT:=@List.ext_getElem?
def yBU:=@Nat.add_zero
def yBV:=@List.take_succ_eq_append_getElem
def yBW:=@Bool.not_eq_true
def yBX:=@Bool.false_or
def yBY:=@Option.getD_some
def yBZ:=@Nat.mod_lt
def yC:=@List.mem_singleton
def yCa:=@List.head?_drop
def yCb:=@Array.length_toList
def yCc:=@Bool.and_true
def yCd:=@Array.getElem?_toList
def yCe:=@Array.getElem?_eq_getElem
def yCf:=@Go.setRow_other
def yCg:=@Go.run_sliceBound
def yCh:=@List.drop_length
def yCi:=@Bool.false_and
def yCj:=@Go.World.cell?_of_block
def yCk:=@Nat.add_comm
def yCl:=@Go.Value.pointer.injEq
def yCm:=@Nat.add_assoc
def yCn:=@Go.World.putObj_heap_other
def yCo:=@not_false_eq_true
def yCp:=@List.getElem?_append_right
def yCq:=@Prod.ext
def yCr:=@Sum.inl.injEq
def yCs:=@List.getElem?_set
def yCt:=@Array.getD_eq_getD_getElem?
def yCu:=@Nat.pos_of_ne_zero
def yCv:=@List.flatMap_append
def yCw:=@Nat.succ_mul
def yCx:=@List.take_append_drop
def yCy:=@List.range'_succ
def yCz:=@Array.toList_append
def yCA:=@List.size_toArray
def yCB:=@List.take_left
def yCC:=@Go.setRow_heap
def yCD:=@List.take_left'
def yCE:=@Nat.le_of_eq
def yCF:=@List.getElem?_of_mem
def yCG:=@List.mem_flatMap
def yCH:=@Nat.div_le_self
def yCI:=@Array.mem_of_getElem?
def yCJ:=@Array.getElem?_modify
def yCK:=@List.set_append_left
def yCL:=@Bool.true_or
def yCM:=@Bool.or_false
def yCN:=@List.flatten_cons
def yCO:=@List.take_succ_cons
def yCP:=@Bool.and_self
def yCQ:=@Go.Oper.semAt_eq
def yCR:=@List.foldl_cons
def yCS:=@Nat.le_of_lt
def yCT:=@Option.bind_some
def yCU:=@Array.toList_map
def yCV:=@Array.toList_range
def yCW:=@Nat.mul_pos
def yCX:=@Go.grownCap_ge
def yCY:=@Go.grownCap_le_maxLen
def yCZ:=@List.length_replicate
def yD:=@List.map_take
def yDa:=@List.getElem?_append
def yDb:=@Nat.mul_one
def yDc:=@Nat.gcd_comm
def yDd:=@List.flatMap_nil
def yDe:=@List.nodup_append
def yDf:=@Bool.true_and
def yDg:=@of_decide_eq_true
def yDh:=@Array.getElem?_eq_some_iff
def yDi:=@List.getElem?_replicate
def yDj:=@Option.map_none
def yDk:=@Nat.not_lt_zero
def yDl:=@Nat.min_eq_left
def yDm:=@Nat.succ_ne_self
def yDn:=@Go.heap_alloc_old
def yDo:=@Go.growslice_fits
def yDp:=@Go.run_storeCells_at
def yDq:=@UInt8.toNat_ofNat'
def yDr:=@List.getD_cons_succ
def yDs:=@Int.tmod_eq_emod_of_nonneg
def yDt:=@Int.eq_ofNat_of_zero_le
def yDu:=@Int.natCast_add
def yDv:=@Int.natCast_one
def yDw:=@List.exists_cons_of_ne_nil
def yDx:=@Go.IntKind.wrap_i64
def yDy:=@List.drop_left'
def yDz:=@List.any_cons
def yDA:=@Bool.or_eq_false_iff
def yDB:=@BitVec.eq_of_toNat_eq
def yDC:=@Go.callsIn_of_wp_marks
def yDD:=@Array.toList_setIfInBounds
def yDE:=@Array.getElem?_replicate
def yDF:=@List.mem_filterMap
def yDG:=@List.mem_append_right
def yDH:=@Nat.eq_zero_or_pos
def yDI:=@List.eq_of_mem_replicate
def yDJ:=@List.length_eq_zero_iff
def yDK:=@Array.eq_empty_of_size_eq_zero
def yDL:=@Nat.eq_zero_of_gcd_eq_zero_right
def yDM:=@Int.tdiv_eq_ediv_of_nonneg
def yDN:=@Bool.true_eq_false
def yDO:=@List.getElem?_toArray
theorem A2 {A B:Prop}(a:A)(b:B):A∧B:=⟨a,b⟩
theorem A3 {A B C:Prop}(a:A)(b:B)(c:C):A∧B∧C:=⟨a,b,c⟩
theorem A4 {A B C D:Prop}(a:A)(b:B)(c:C)(d:D):A∧B∧C∧D:=⟨a,b,c,d⟩
theorem A5 {A B C D E:Prop}(a:A)(b:B)(c:C)(d:D)(e:E):A∧B∧C∧D∧E:=⟨a,b,c,d,e⟩
theorem A6 {A B C D E F:Prop}(a:A)(b:B)(c:C)(d:D)(e:E)(f:F):A∧B∧C∧D∧E∧F:=⟨a,b,c,d,e,f⟩
theorem A7 {A B C D E F G:Prop}(a:A)(b:B)(c:C)(d:D)(e:E)(f:F)(g:G):A∧B∧C∧D∧E∧F∧G:=⟨a,b,c,d,e,f,g⟩
theorem A8 {A B C D E F G H:Prop}(a:A)(b:B)(c:C)(d:D)(e:E)(f:F)(g:G)(h:H):A∧B∧C∧D∧E∧F∧G∧H:=⟨a,b,c,d,e,f,g,h⟩
theorem A9 {A B C D E F G H I:Prop}(a:A)(b:B)(c:C)(d:D)(e:E)(f:F)(g:G)(h:H)(i:I):A∧B∧C∧D∧E∧F∧G∧H∧I:=⟨a,b,c,d,e,f,g,h,i⟩
theorem A10 {A B C D E F G H I J:Prop}(a:A)(b:B)(c:C)(d:D)(e:E)(f:F)(g:G)(h:H)(i:I)(j:J):A∧B∧C∧D∧E∧F∧G∧H∧I∧J:=⟨a,b,c,d,e,f,g,h,i,j⟩
theorem A11 {A B C D E F G H I J K:Prop}(a:A)(b:B)(c:C)(d:D)(e:E)(f:F)(g:G)(h:H)(i:I)(j:J)(k:K):A∧B∧C∧D∧E∧F∧G∧H∧I∧J∧K:=⟨a,b,c,d,e,f,g,h,i,j,k⟩
theorem A12 {A B C D E F G H I J K L:Prop}(a:A)(b:B)(c:C)(d:D)(e:E)(f:F)(g:G)(h:H)(i:I)(j:J)(k:K)(l:L):A∧B∧C∧D∧E∧F∧G∧H∧I∧J∧K∧L:=⟨a,b,c,d,e,f,g,h,i,j,k,l⟩
theorem A13 {A B C D E F G H I J K L M:Prop}(a:A)(b:B)(c:C)(d:D)(e:E)(f:F)(g:G)(h:H)(i:I)(j:J)(k:K)(l:L)(m:M):A∧B∧C∧D∧E∧F∧G∧H∧I∧J∧K∧L∧M:=⟨a,b,c,d,e,f,g,h,i,j,k,l,m⟩
theorem A14 {A B C D E F G H I J K L M N:Prop}(a:A)(b:B)(c:C)(d:D)(e:E)(f:F)(g:G)(h:H)(i:I)(j:J)(k:K)(l:L)(m:M)(n:N):A∧B∧C∧D∧E∧F∧G∧H∧I∧J∧K∧L∧M∧N:=⟨a,b,c,d,e,f,g,h,i,j,k,l,m,n⟩
theorem A15 {A B C D E F G H I J K L M N O:Prop}(a:A)(b:B)(c:C)(d:D)(e:E)(f:F)(g:G)(h:H)(i:I)(j:J)(k:K)(l:L)(m:M)(n:N)(o:O):A∧B∧C∧D∧E∧F∧G∧H∧I∧J∧K∧L∧M∧N∧O:=⟨a,b,c,d,e,f,g,h,i,j,k,l,m,n,o⟩
theorem A16 {A B C D E F G H I J K L M N O P:Prop}(a:A)(b:B)(c:C)(d:D)(e:E)(f:F)(g:G)(h:H)(i:I)(j:J)(k:K)(l:L)(m:M)(n:N)(o:O)(p:P):A∧B∧C∧D∧E∧F∧G∧H∧I∧J∧K∧L∧M∧N∧O∧P:=⟨a,b,c,d,e,f,g,h,i,j,k,l,m,n,o,p⟩
theorem A17 {A B C D E F G H I J K L M N O P Q:Prop}(a:A)(b:B)(c:C)(d:D)(e:E)(f:F)(g:G)(h:H)(i:I)(j:J)(k:K)(l:L)(m:M)(n:N)(o:O)(p:P)(q:Q):A∧B∧C∧D∧E∧F∧G∧H∧I∧J∧K∧L∧M∧N∧O∧P∧Q:=⟨a,b,c,d,e,f,g,h,i,j,k,l,m,n,o,p,q⟩
theorem A18 {A B C D E F G H I J K L M N O P Q R:Prop}(a:A)(b:B)(c:C)(d:D)(e:E)(f:F)(g:G)(h:H)(i:I)(j:J)(k:K)(l:L)(m:M)(n:N)(o:O)(p:P)(q:Q)(r:R):A∧B∧C∧D∧E∧F∧G∧H∧I∧J∧K∧L∧M∧N∧O∧P∧Q∧R:=⟨a,b,c,d,e,f,g,h,i,j,k,l,m,n,o,p,q,r⟩
theorem A19 {A B C D E F G H I J K L M N O P Q R S:Prop}(a:A)(b:B)(c:C)(d:D)(e:E)(f:F)(g:G)(h:H)(i:I)(j:J)(k:K)(l:L)(m:M)(n:N)(o:O)(p:P)(q:Q)(r:R)(s:S):A∧B∧C∧D∧E∧F∧G∧H∧I∧J∧K∧L∧M∧N∧O∧P∧Q∧R∧S:=⟨a,b,c,d,e,f,g,h,i,j,k,l,m,n,o,p,q,r,s⟩
theorem A20 {A B C D E F G H I J K L M N O P Q R S T:Prop}(a:A)(b:B)(c:C)(d:D)(e:E)(f:F)(g:G)(h:H)(i:I)(j:J)(k:K)(l:L)(m:M)(n:N)(o:O)(p:P)(q:Q)(r:R)(s:S)(t:T):A∧B∧C∧D∧E∧F∧G∧H∧I∧J∧K∧L∧M∧N∧O∧P∧Q∧R∧S∧T:=⟨a,b,c,d,e,f,g,h,i,j,k,l,m,n,o,p,q,r,s,t⟩
def HL:Nat->Option (IntKind×List Int):=λg=>if g=1 then some (.u64,[1,10,100,1000,10000,100000,1000000,10000000,100000000,1000000000,10000000000,100000000000,1000000000000,10000000000000,100000000000000,1000000000000000,10000000000000000,100000000000000000,1000000000000000000,10000000000000000000])else if g=4 then some (.u8,[0,1,28,2,29,14,24,3,30,22,20,15,25,17,4,8,31,27,13,23,21,19,16,7,26,12,18,6,11,5,10,9])else if g=5 then some (.u8,[0,1,56,2,57,49,28,3,61,58,42,50,38,29,17,4,62,47,59,36,45,43,51,22,53,39,33,30,24,18,12,5,63,55,48,27,60,41,37,16,46,35,44,21,52,32,23,11,54,26,40,15,34,20,31,10,25,14,19,9,13,8,7,6])else none
def QR:Nat->Option IntKind:=λg=>if g=0 then some .i64 else none
@[simp] def EN:Nat->Bool:=λt=>decide (t=123)||decide (t=125)
@[simp] def NR:Nat->Nat->Bool:=λs d=>decide (s=9)&&decide (d=45)||decide (s=45)&&decide (d=9)
@[simp] def aOu:Nat->Bool:=λf=>f==95||f==87||f==88||f==89||f==91||f==92||f==93||f==133||f==127||f==130||f==131||f==113
@[simp] def aDb:Nat->Bool:=λt=>decide (t=45)
@[simp] def aQu:Nat->Bool:=λt=>decide (t=38)||decide (t=39)||decide (t=40)||decide (t=60)||decide (t=63)||decide (t=127)
@[simp] def aIx:Nat->Nat->Bool:=λt n=>!decide (n=275)||decide (t=40)
@[simp] def pE(t n:Nat):Bool:=aQu t&&!aIx t n
section
open Go.RowKit
inductive Tok where
 |any
 |full
 |nil
 |HX
 |HY
 |own (id:Nat)
inductive PD where
 |bool (b:Bool)
 |int (k:IntKind) (n:Int)
 |str (s:List UInt8)
 |agg (cs:List PD)
 |slice (size:Nat) (xs:List PD) (tok:Tok)
 |ptr (id off:Nat)
 |cP (cs:List PD) (off:Nat)
 |dJ
 |func (f:Nat) (cap:List PD)
 |oR (f:Nat) (first:List PD)
 |yield (id:Nat)
 |kF
 |bL (v:Value)
 |typed (t:TypeId) (cs:List PD)
 |fR (id off n size:Nat)
 |fF (id ver off n size:Nat)
 |gO (id ver off:Nat)
 |gG (id:Nat)
 |iface (t:TypeId) (p:PD)
 |aK (vs:List PD)
instance:Inhabited PD:=⟨.aK []⟩
def PD.cells:PD->List PD
 |.agg cs=>cs
 |.typed _ cs=>cs
 |p=>[p]
inductive RF where
 |ready
 |busy
 |done (jump:Code)
inductive U where
 |none
 |box (p:PD)
 |own (e:TypeId) (size n:Nat)
 |row (e:TypeId) (size ver:Nat) (cs:List PD)
 |map (es:List (PD×PD))
 |mark
 |loop (st:RF) (fr:List PD) (ps:List Tmp) (assign body:Code)
abbrev Bq:=Nat->List PD->List U->Option (PD×List U)
abbrev Bv:=List U
abbrev Bw:=List PD
abbrev Bx:=List UInt8
abbrev Bz:=List Value
abbrev Ca:=Array Value
abbrev Cb:=Array Oper
def RF.fits(r:Loop):RF->Prop
 |.ready=>r.state=.ready/\r.pending=none
 |.busy=>r.state=.busy
 |.done j=>r.state=.done/\r.pending=some j
def pH:Option U->Prop
 |some (.own _ _ _)=>False
 |some (.row _ _ _ _)=>False
 |_=>True
def aV:Value->Option Nat
 |.pointer (some a)=>some a.block
 |.slice (some a) _ _=>some a.block
 |.map r=>r
 |_=>none
def U.aQs(v:Value)(a:Addr):U->Prop
 |.none=>True
 |.box _=>∀b,aV v=some b->a.block≠b
 |.own _ size n=>∀b,aV v=some b->a.block=b->a.off<n*size
 |.row _ _ _ _=>∀b,aV v=some b->a.block≠b
 |.map _=>True
 |.mark=>True
 |.loop _ _ _ _ _=>True
structure Cx where
 w:World
 ρ:Nat->Value
 σ:Bv
 D:Nat->Prop
 X:Addr->Prop
def Cx.av(c:Cx)(a:Addr):Prop:=c.X a/\∀id o,c.D id->c.σ[id]?=some o->o.aQs (c.ρ id) a
def pJ(c:Cx)(size n cap:Nat)(v:Value):Tok->Prop
 |.any=>True
 |.full=>n=cap
 |.nil=>v=.slice none 0 0/\n=0/\cap=0
 |.HX=>∃k m,v=.slice none k m
 |.HY=>∃a k m,v=.slice (some a) k m
 |.own id=>c.D id/\∃e m,c.σ[id]?=some (.own e size m)/\n<=m/\(n=m->c.ρ id=v)
def MD(c:Cx)(id ver:Nat)(Q:Nat->Value->Prop):Prop:=c.D id/\∀e sz fE cs,c.σ[id]?=some (.row e sz fE cs)->ver<=fE/\(ver=fE->Q sz (c.ρ id))
def aDC:Value->Bool
 |.nilIface=>true
 |.map none=>true
 |.chan none=>true
 |.float _ _=>true
 |_=>false
inductive VR (c:Cx):Value->PD->Prop where
 |bool (b:Bool):VR c (.bool b) (.bool b)
 |int (k:IntKind) (n:Int):VR c (.int k n) (.int k n)
 |str (s:List UInt8):VR c (.string ⟨s.toArray⟩) (.str s)
 |agg (cs:List Value) (ds:List PD):cs.length=ds.length->(∀v∈cs,v.oneCell'=true) ->
   (∀(i:Nat) (v:Value) (d:PD),cs[i]?=some v->ds[i]?=some d->VR c v d)->VR c (.agg cs.toArray) (.agg ds)
 |slice (A:Option Addr) (n cap size:Nat) (xs:List PD) (tok:Tok) (fl:List Value) :
   n=xs.length->n<=cap->cap<=maxLen->(∀x∈xs,x.cells.length=size)->fl.length=n*size->(∀v∈fl,v.oneCell'=true) ->
   (∀(j:Nat) (v:Value),fl[j]?=some v->∃ad,A=some ad/\c.w.cell? (ad.add j)=some v/\c.av (ad.add j)) ->
   (∀(j:Nat) (v:Value) (d:PD),fl[j]?=some v->(xs.flatMap PD.cells)[j]?=some d->VR c v d) ->
   pJ c size n cap (.slice A n cap) tok->VR c (.slice A n cap) (.slice size xs tok)
 |ptr (id off b:Nat):c.D id->(∃p,c.σ[id]?=some (.box p))->c.ρ id=.pointer (some ⟨b,0,none⟩)->VR c (.pointer (some ⟨b,off,none⟩)) (.ptr id off)
 |fR (id off n cap size b:Nat):c.D id->(∃p,c.σ[id]?=some (.box p))->c.ρ id=.pointer (some ⟨b,0,none⟩)->n<=cap->cap<=maxLen->VR c (.slice (some ⟨b,off,none⟩) n cap) (.fR id off n size)
 |fF (id ver off n cap size b:Nat):MD c id ver (λsz r=>sz=size/\∃C,r=.slice (some ⟨b,0,none⟩) 0 C/\off+cap*size=C*size)->n<=cap->cap<=maxLen ->
   VR c (.slice (some ⟨b,off,none⟩) n cap) (.fF id ver off n size)
 |gO (id ver off b:Nat):MD c id ver (λ_ r=>∃C,r=.slice (some ⟨b,0,none⟩) 0 C)->VR c (.pointer (some ⟨b,off,none⟩)) (.gO id ver off)
 |gG (id b:Nat):c.D id->pH c.σ[id]?->c.ρ id=.map (some b)->VR c (.map (some b)) (.gG id)
 |iface (t:TypeId) (v:Value) (p:PD):VR c v p->VR c (.iface t v) (.iface t p)
 |cP (ad:Addr) (fl:List Value) (ds:List PD) (off:Nat):fl.length=ds.length->(∀v∈fl,v.oneCell'=true) ->
   (∀(j:Nat) (v:Value),fl[j]?=some v->c.w.cell? (ad.add j)=some v/\c.av (ad.add j)) ->
   (∀(j:Nat) (v:Value) (d:PD),fl[j]?=some v->ds[j]?=some d->VR c v d)->VR c (.pointer (some (ad.add off))) (.cP ds off)
 |dJ:VR c (.pointer none) .dJ
 |func (f:Nat) (cs:List Value) (ds:List PD):cs.length=ds.length ->
   (∀(i:Nat) (v:Value) (d:PD),cs[i]?=some v->ds[i]?=some d->VR c v d)->VR c (.func (.func f) #[] cs.toArray) (.func f ds)
 |oR (f:Nat) (cs:List Value) (ds:List PD):cs.length=ds.length ->
   (∀(i:Nat) (v:Value) (d:PD),cs[i]?=some v->ds[i]?=some d->VR c v d)->VR c (.func (.func f) cs.toArray #[]) (.oR f ds)
 |kF:VR c .nilFunc .kF
 |bL (v:Value):aDC v=true->VR c v (.bL v)
 |yield (id l:Nat):c.D id->pH c.σ[id]?->c.ρ id=.pointer (some ⟨l,0,none⟩)->VR c (.func (.yield l) #[] #[]) (.yield id)
 |aK (cs:List Value) (ds:List PD):cs.length=ds.length ->
   (∀(i:Nat) (v:Value) (d:PD),cs[i]?=some v->ds[i]?=some d->VR c v d)->VR c (.tuple cs.toArray) (.aK ds)
def aJ(c:Cx)(cs:List Value)(ds:List PD):Prop:=cs.length=ds.length/\∀(i:Nat) (v:Value) (d:PD),cs[i]?=some v->ds[i]?=some d->VR c v d
def JT(g:Nat):Option (List PD):=match HL g with
 |some (k,xs)=>some (xs.map (PD.int k))
 |none=>none
def GlV(c:Cx):Prop:=∀g ds,JT g=some ds->VR c (.pointer (some ⟨g,0,none⟩)) (.cP ds 0)
def aGS(g:Nat)(cs:Array Value):Prop:=(∀k zs,HL g=some (k,zs)->cs=(zs.map (Value.int k)).toArray)/\∀k,QR g=some k->∃m,cs=#[.int k m]
def aGT(g:Nat):Bool:=(HL g).isSome||(QR g).isSome
def Gh(c:Cx):Prop:=∀g,aGT g=true->(∃cs T fz,c.w.heap[g]?=some (.cells cs T fz)/\aGS g cs)/\∀id,c.D id->aV (c.ρ id)≠some g
def Gl(c:Cx):Prop:=GlV c/\Gh c
structure Sr (c:Cx):Prop where
 box:∀id p,c.D id->c.σ[id]?=some (.box p)->∃b cs T,c.ρ id=.pointer (some ⟨b,0,none⟩)/\c.w.heap[b]?=some (.cells cs T (0,0)) /\
  aJ c cs.toList p.cells/\(∀v∈cs.toList,v.oneCell'=true)/\∀t ds,p=.typed t ds->T=t
 own:∀id e size n,c.D id->c.σ[id]?=some (.own e size n)->∃xs,c.w.ownsRowF 0 e size (c.ρ id) n xs
 row:∀id e size ver ds,c.D id->c.σ[id]?=some (.row e size ver ds)->∃b C cur,c.ρ id=.slice (some ⟨b,0,none⟩) 0 C/\c.w.heap[b]?=some (.cells cur e (0,0))/\cur.size=C*size/\C<=maxLen/\0<size /\
  ds.length<=cur.size/\aJ c (cur.toList.take ds.length) ds/\∀v∈cur.toList,v.oneCell'=true
 map:∀id es,c.D id->c.σ[id]?=some (.map es)->∃b ents clock,c.ρ id=.map (some b)/\c.w.heap[b]?=some (.map ents clock)/\aJ c (ents.toList.map MapEntry.key) (es.map Prod.fst)/\aJ c (ents.toList.map MapEntry.val) (es.map Prod.snd)
 mark:∀id,c.D id->c.σ[id]?=some .mark->∃b,c.ρ id=.pointer (some ⟨b,0,none⟩)/\c.w.heap[b]?=some (.deferred (some []))
 loop:∀id st fr ps assign body,c.D id->c.σ[id]?=some (.loop st fr ps assign body)->∃b r,c.ρ id=.pointer (some ⟨b,0,none⟩)/\c.w.heap[b]?=some (.loop r) /\
  r.params=ps.toArray/\r.assign=assign/\r.body=body/\aJ c r.tmps.toList fr/\st.fits r
 inj:∀id id' b,c.D id->c.D id'->id≠id'->aV (c.ρ id)=some b->aV (c.ρ id')≠some b
 lt:∀id b,c.D id->aV (c.ρ id)=some b->b<c.w.heap.size
 aW:∀id,c.D id->id<c.σ.length
 fresh:∀a:Addr,c.w.heap.size<=a.block->c.X a
 gU:Gl c
structure Nx (fl:Nat) (c c':Cx):Prop where
 X:c'.X=c.X
 os:c'.w.os=c.w.os
 tape:c'.w.tape=c.w.tape
 output:c'.w.output=c.w.output
 size:c.w.heap.size<=c'.w.heap.size
 len:c.σ.length<=c'.σ.length
 cell:∀a v,c.av a->c.w.cell? a=some v->c'.av a/\c'.w.cell? a=some v
 aW:∀id,c.D id->c'.D id
 new:∀id,c'.D id->c.D id\/c.σ.length<=id
 tM:∀id p,c.D id->c.σ[id]?=some (.box p)->c'.ρ id=c.ρ id/\∃p',c'.σ[id]?=some (.box p')
 lP:∀id,c.D id->pH c.σ[id]?->c'.ρ id=c.ρ id/\pH c'.σ[id]?
 vR:∀id e s n,c.D id->c.σ[id]?=some (.own e s n)->∃n',c'.σ[id]?=some (.own e s n')/\n<=n'/\(n'=n->c'.ρ id=c.ρ id)
 vS:∀id e s v cs,c.D id->c'.σ[id]?=some (.row e s v cs)->∃v0 cs0,c.σ[id]?=some (.row e s v0 cs0)/\v0<=v/\(v0=v->c'.ρ id=c.ρ id)
 back:∀id b,c'.D id->aV (c'.ρ id)=some b->b<c.w.heap.size->c.D id/\aV (c.ρ id)=some b
 frame:∀k,k<c.w.heap.size->(∀id,c.D id->fl<=id->aV (c.ρ id)≠some k)->c'.w.heap[k]?=c.w.heap[k]?
 ro:∀id,id<fl->id<c.σ.length->c'.σ[id]?=c.σ[id]?
 hole:∀id,id<c.σ.length->¬c.D id->c'.σ[id]?=c.σ[id]?
theorem Nx.refl(fl:Nat)(c:Cx):Nx fl c c:=
 ⟨rfl,rfl,rfl,rfl,yAk _,yAk _,λ_ _ h h'=>⟨h,h'⟩,λ_ h=>h,λ_ h=>.inl h,λ_ p _ h=>⟨rfl,p,h⟩,λ_ _ h=>⟨rfl,h⟩,
  λ_ _ _ n _ h=>⟨n,h,yAk _,λ_=>rfl⟩,λ_ _ _ v cs _ h=>⟨v,cs,h,yAk _,λ_=>rfl⟩,λ_ _ h h' _=>⟨h,h'⟩,λ_ _ _=>rfl,λ_ _ _=>rfl,λ_ _ _=>rfl⟩
theorem Nx.trans{fl:Nat}{a b c:Cx}(h:Nx fl a b)(k:Nx fl b c):Nx fl a c where
 X:=k.X.trans h.X
 os:=k.os.trans h.os
 tape:=k.tape.trans h.tape
 output:=k.output.trans h.output
 size:=yBd h.size k.size
 len:=yBd h.len k.len
 cell:=λx v h1 h2=>let ⟨q1,q2⟩:=h.cell x v h1 h2;k.cell x v q1 q2
 aW:=λid hd=>k.aW id (h.aW id hd)
 new:=λid hd=>(k.new id hd).elim (λq=>h.new id q) (λq=>.inr (yBd h.len q))
 tM:=λid p hd hs=>by
  obtain⟨e1,p',hs'⟩:=h.tM id p hd hs;obtain⟨e2,p'',aDD⟩:=k.tM id p' (h.aW id hd) hs';exact⟨e2.trans e1,p'',aDD⟩
 lP:=λid hd hn=>by
  obtain⟨e1,hn'⟩:=h.lP id hd hn;obtain⟨e2,aQt⟩:=k.lP id (h.aW id hd) hn';exact⟨e2.trans e1,aQt⟩
 vR:=λid e s n hd hs=>by
  obtain⟨n',hs',hle,he⟩:=h.vR id e s n hd hs;obtain⟨n'',aDD,hle',he'⟩:=k.vR id e s n' (h.aW id hd) hs';exact⟨n'',aDD,yBd hle hle',λheq=>(he' xb).trans (he xb)⟩
 vS:=λid e s v cs hd hs=>by
  obtain⟨v1,RM,h1,h2,h3⟩:=k.vS id e s v cs (h.aW id hd) hs;obtain⟨v2,cs2,g1,g2,g3⟩:=h.vS id e s v1 RM hd h1;exact⟨v2,cs2,g1,yBd g2 h2,λheq=>(h3 xb).trans (g3 xb)⟩
 back:=λid bk hd hb hlt=>by
  obtain⟨q1,q2⟩:=k.back id bk hd hb (yBM hlt h.size);exact h.back id bk q1 q2 hlt
 frame:=λn hn hx=>by
  rw[k.frame n (yBM hn h.size) (λid hd hfl hb=>?_)]
  .exact h.frame n hn hx
  .obtain⟨q1,q2⟩:=h.back id n hd hb hn;exact hx id q1 hfl q2
 ro:=λid hlt hl=>(k.ro id hlt (yBM hl h.len)).trans (h.ro id hlt hl)
 hole:=λid hl hd=>(k.hole id (yBM hl h.len) (λhb=>(h.new id hb).elim hd (λq=>xb))).trans (h.hole id hl hd)
theorem Nx.weaken{fl bU:Nat}{a b:Cx}(h:Nx fl a b)(hle:bU<=fl):Nx bU a b:=
 { h with frame:=λk hk hx=>h.frame k hk (λid hd hf=>hx id hd (yBd hle hf)),ro:=λid hlt hl=>h.ro id (yBM hlt hle) hl }
structure Nv (c c':Cx):Prop where
 cell:∀a v,c.av a->c.w.cell? a=some v->c'.av a/\c'.w.cell? a=some v
 aW:∀id,c.D id->c'.D id
 tM:∀id p,c.D id->c.σ[id]?=some (.box p)->c'.ρ id=c.ρ id/\∃p',c'.σ[id]?=some (.box p')
 lP:∀id,c.D id->pH c.σ[id]?->c'.ρ id=c.ρ id/\pH c'.σ[id]?
 vR:∀id e s n,c.D id->c.σ[id]?=some (.own e s n)->∃n',c'.σ[id]?=some (.own e s n')/\n<=n'/\(n'=n->c'.ρ id=c.ρ id)
 vS:∀id e s v cs,c.D id->c'.σ[id]?=some (.row e s v cs)->∃v0 cs0,c.σ[id]?=some (.row e s v0 cs0)/\v0<=v/\(v0=v->c'.ρ id=c.ρ id)
theorem Nx.toV{fl:Nat}{c c':Cx}(h:Nx fl c c'):Nv c c':=⟨h.cell,h.aW,h.tM,h.lP,h.vR,h.vS⟩
theorem MD.mJ{c c':Cx}(h:Nv c c'){id ver:Nat}{Q:Nat->Value->Prop}(hp:MD c id ver Q):MD c' id ver Q:=by
 refine⟨h.aW id hp.1,λe sz v cs hs=>?_⟩;obtain⟨v0,cs0,h1,h2,h3⟩:=h.vS id e sz v cs hp.1 hs;obtain⟨h4,h5⟩:=hp.2 e sz v0 cs0 h1;refine⟨yBd h4 h2,λheq=>?_⟩;rw[h3 xb];exact h5 xb
theorem pJ.mJ{c c':Cx}(h:Nv c c'){size n cap:Nat}{v:Value}{t:Tok}(ht:pJ c size n cap v t):pJ c' size n cap v t:=by
 cases t with
 |any=>trivial
 |full=>exact ht
 |nil=>exact ht
 |HX=>exact ht
 |HY=>exact ht
 |own id=>
  obtain⟨hd,e,m,hs,hle,he⟩:=ht;obtain⟨m',hs',hle',he'⟩:=h.vR id e size m hd hs;exact⟨h.aW id hd,e,m',hs',yBd hle hle',λheq=>(he' xb).trans (he xb)⟩
theorem VR.mJ{c c':Cx}(h:Nv c c'){v:Value}{p:PD}(hv:VR c v p):VR c' v p:=by
 induction hv with
 |bool b=>exact .bool b
 |int k n=>exact .int k n
 |str s=>exact .str s
 |agg cs ds hl h1 _ ih=>exact .agg cs ds hl h1 ih
 |slice A n cap size xs tok bU hn hc hm hx hf h1 hcell _ ht ih=>
  refine .slice A n cap size xs tok bU hn hc hm hx hf h1 (λj v hj=>?_) ih (ht.mJ h);obtain⟨ad,e,h2,h3⟩:=hcell j v hj;obtain⟨q1,q2⟩:=h.cell _ _ h3 h2;exact⟨ad,e,q2,q1⟩
 |ptr id off b hd hs hr=>
  obtain⟨p,hs⟩:=hs;obtain⟨e,p',hs'⟩:=h.tM id p hd hs;exact .ptr id off b (h.aW id hd) ⟨p',hs'⟩ (e.trans hr)
 |fR id off n cap size b hd hs hr h1 h2=>
  obtain⟨p,hs⟩:=hs;obtain⟨e,p',hs'⟩:=h.tM id p hd hs;exact .fR id off n cap size b (h.aW id hd) ⟨p',hs'⟩ (e.trans hr) h1 h2
 |fF id ver off n cap size b hp h1 h2=>exact .fF id ver off n cap size b (hp.mJ h) h1 h2
 |gO id ver off b hp=>exact .gO id ver off b (hp.mJ h)
 |gG id b hd hn hr=>
  obtain⟨e,hn'⟩:=h.lP id hd hn;exact .gG id b (h.aW id hd) hn' (e.trans hr)
 |iface t v p _ ih=>exact .iface t v p ih
 |cP ad bU ds off hl h1 hcell _ ih=>
  refine .cP ad bU ds off hl h1 (λj v hj=>?_) ih;obtain⟨h2,h3⟩:=hcell j v hj;obtain⟨q1,q2⟩:=h.cell _ _ h3 h2;exact⟨q2,q1⟩
 |dJ=>exact .dJ
 |func f cs ds hl _ ih=>exact .func f cs ds hl ih
 |oR f cs ds hl _ ih=>exact .oR f cs ds hl ih
 |kF=>exact .kF
 |bL v h=>exact .bL v h
 |yield id l hd hn hr=>
  obtain⟨e,hn'⟩:=h.lP id hd hn;exact .yield id l (h.aW id hd) hn' (e.trans hr)
 |aK cs ds hl _ ih=>exact .aK cs ds hl ih
theorem VR.mono{fl:Nat}{c c':Cx}(h:Nx fl c c'){v:Value}{p:PD}(hv:VR c v p):VR c' v p:=hv.mJ h.toV
theorem aJ.mJ{c c':Cx}(h:Nv c c'){cs:Bz}{ds:Bw}(hv:aJ c cs ds):aJ c' cs ds:=
 ⟨hv.1,λi v d h1 h2=>(hv.2 i v d h1 h2).mJ h⟩
theorem GlV.mJ{c c':Cx}(h:Nv c c')(hg:GlV c):GlV c':=λg ds e=>(hg g ds e).mJ h
theorem Gl.mono{fl:Nat}{c c':Cx}(h:Nx fl c c')(hg:Gl c):Gl c':=by
 refine⟨hg.1.mJ h.toV,λg hh=>?_⟩;obtain⟨⟨cs,T,fz,e1,e2⟩,e3⟩:=hg.2 g hh;have hlt:g<c.w.heap.size:=(yDh.1 e1).1;refine⟨⟨cs,T,fz,?_,e2⟩,λid hd hb=>?_⟩
 .rw[h.frame g hlt (λid hd _=>e3 id hd)];exact e1
 .obtain⟨q1,q2⟩:=h.back id g hd hb hlt;exact e3 id q1 q2
theorem aJ.mono{fl:Nat}{c c':Cx}(h:Nx fl c c'){cs:Bz}{ds:Bw}(hv:aJ c cs ds):aJ c' cs ds:=
 ⟨hv.1,λi v d h1 h2=>(hv.2 i v d h1 h2).mono h⟩
mutual
def PD.strip:PD->PD
 |.agg cs=>.agg (PD.kP cs)
 |.typed t cs=>.typed t (PD.kP cs)
 |.slice _ [] _=>.slice 0 [] .any
 |.slice n (x::xs) _=>.slice n (x.strip::PD.kP xs) .any
 |.aK vs=>.aK (PD.kP vs)
 |p=>p
def PD.kP:List PD->Bw
 | []=>[]
 |x::xs=>x.strip::PD.kP xs
end
mutual
def PD.dK:PD->Bool
 |.agg cs=>PD.fG cs
 |.typed _ cs=>PD.fG cs
 |.slice _ xs tok=>PD.fG xs&&(match tok with|.own _=>false|_=>true)
 |.aK vs=>PD.fG vs
 |.cP cs _=>PD.fG cs
 |.func _ cap=>PD.fG cap
 |.oR _ cap=>PD.fG cap
 |.ptr _ _=>false
 |.fR _ _ _ _=>false
 |.fF _ _ _ _ _=>false
 |.gO _ _ _=>false
 |.gG _=>false
 |.iface _ p=>p.dK
 |.yield _=>false
 |_=>true
def PD.fG:List PD->Bool
 | []=>true
 |x::xs=>x.dK&&PD.fG xs
end
theorem PD.LW:∀xs:List PD,PD.kP xs=xs.map PD.strip
 | []=>by simp[PD.kP]
 |x::xs=>by simp[PD.kP,PD.LW xs]
theorem PD.HR:∀xs:List PD,PD.fG xs=xs.all PD.dK
 | []=>by simp[PD.fG]
 |x::xs=>by simp[PD.fG,PD.HR xs]
theorem PD.aIw(p:PD):p.strip.cells=p.cells.map PD.strip:=by
 cases p with
 |slice n xs tok=>cases xs<;>simp[PD.strip,PD.cells]
 |_=>simp[PD.strip,PD.cells,PD.LW]
theorem PD.nQ(n:Nat)(xs:List PD)(tok:Tok):PD.strip (.slice n xs tok)=.slice (if xs.length=0 then 0 else n) (xs.map PD.strip) .any:=by
 cases xs<;>simp[PD.strip,PD.LW]
theorem VR.strip{c:Cx}{v:Value}{p:PD}(hv:VR c v p):VR c v p.strip:=by
 induction hv with
 |bool b=>simp only[PD.strip];exact .bool b
 |int k n=>simp only[PD.strip];exact .int k n
 |str s=>simp only[PD.strip];exact .str s
 |agg cs ds hl h1 _ ih=>
  simp only[PD.strip,PD.LW];refine .agg cs _ Ad h1 (λi v d hv hd=>?_);exact iw
 |slice A n cap size xs tok fl hn hc hm hx hf h1 hcell _ ht ih=>
  rw[PD.nQ];refine .slice A n cap _ _ .any fl Bf hc hm ?_ ?_ h1 hcell (λj v d hv hd=>?_) trivial
  .intro x hxm;obtain⟨y,hy,rfl⟩:=yAw.1 hxm;rw[PD.aIw,yAe,hx y hy];have:xs.length≠0:=λe=>by rw[yAf e]at hy;cases hy
   rw[yAI this]
  .rw[hf,hn];split
   .rename_i h0;rw[h0];simp
   .rfl
  .rw[List.flatMap_map]at hd;have e:(xs.flatMap λa=>(PD.strip a).cells)=(xs.flatMap PD.cells).map PD.strip:=by
    rw[List.map_flatMap];exact yAP (λf=>xs.flatMap f) (funext PD.aIw)
   rw[e,yAo]at hd;cases hx:(xs.flatMap PD.cells)[j]? with
   |none=>rw[hx]at hd;simp at hd
   |some x=>
    rw[hx]at hd;simp only[yAC,yAb]at hd;subst hd;exact ih j v x hv hx
 |ptr id off b hd hs hr=>simp only[PD.strip];exact .ptr id off b hd hs hr
 |fR id off n cap size b hd hs hr h1 h2=>simp only[PD.strip];exact .fR id off n cap size b hd hs hr h1 h2
 |fF id ver off n cap size b hp h1 h2=>simp only[PD.strip];exact .fF id ver off n cap size b hp h1 h2
 |gO id ver off b hp=>simp only[PD.strip];exact .gO id ver off b hp
 |gG id b hd hn hr=>simp only[PD.strip];exact .gG id b hd hn hr
 |iface t v p h _=>simp only[PD.strip];exact .iface t v p h
 |cP ad fl ds off hl h1 hcell h2 _=>simp only[PD.strip];exact .cP ad fl ds off hl h1 hcell h2
 |dJ=>simp only[PD.strip];exact .dJ
 |func f cs ds hl h _=>simp only[PD.strip];exact .func f cs ds hl h
 |oR f cs ds hl h _=>simp only[PD.strip];exact .oR f cs ds hl h
 |kF=>simp only[PD.strip];exact .kF
 |bL v h=>simp only[PD.strip];exact .bL v h
 |yield id l hd hn hr=>simp only[PD.strip];exact .yield id l hd hn hr
 |aK cs ds hl _ ih=>
  simp only[PD.strip,PD.LW];refine .aK cs _ Ad (λi v d hv hd=>?_);exact iw
theorem VR.free{c c':Cx}(hcell:∀a v,c.av a->c.w.cell? a=some v->c'.av a/\c'.w.cell? a=some v){v:Value}{p:PD}(hv:VR c v p):p.dK=true->VR c' v p:=by
 have at_:∀ {ds:Bw} {i:Nat} {d:PD},PD.fG ds=true->ds[i]?=some d->d.dK=true:=by
  intro ds i d h hd;rw[PD.HR]at h;exact yAn.1 h d (yAE hd)
 induction hv with
 |bool b=>intro _;exact .bool b
 |int k n=>intro _;exact .int k n
 |str s=>intro _;exact .str s
 |agg cs ds hl h1 _ ih=>
  intro hp;simp only[PD.dK]at hp;exact rm
 |slice A n cap size xs tok bU hn hc hm hx hf h1 hcl _ ht ih=>
  intro hp;simp only[PD.dK,yAr]at hp;refine .slice A n cap size xs tok bU hn hc hm hx hf h1 (λj v hj=>?_) (λj v d hv hd=>ih j v d hv hd ?_) ?_
  .obtain⟨ad,e,h2,h3⟩:=hcl j v hj;obtain⟨q1,q2⟩:=hcell _ _ h3 h2;exact⟨ad,e,q2,q1⟩
  .obtain⟨x,hxm,hdm⟩:=yCG.1 (yAE hd);have hxf:x.dK=true:=by
    have:=hp.1;rw[PD.HR]at this;exact yAn.1 this x hxm
   cases x with
   |agg cs=>
    exact ot
   |typed t cs=>
    exact ot
   |_=>simp only[PD.cells,yC]at hdm;rw[hdm];exact hxf
  .cases tok with
   |any=>trivial
   |full=>exact ht
   |nil=>exact ht
   |HX=>exact ht
   |HY=>exact ht
   |own id=>simp at hp
 |ptr id off b hd hs hr=>intro hp;simp[PD.dK]at hp
 |fR id off n cap size b hd hs hr h1 h2=>intro hp;simp[PD.dK]at hp
 |fF id ver off n cap size b hp h1 h2=>intro hp;simp[PD.dK]at hp
 |gO id ver off b hp=>intro hp;simp[PD.dK]at hp
 |gG id b hd hn hr=>intro hp;simp[PD.dK]at hp
 |iface t v p _ ih=>intro hp;simp only[PD.dK]at hp;exact .iface t v p (ih hp)
 |cP ad bU ds off hl h1 hcl _ ih=>
  intro hp;simp only[PD.dK]at hp;refine .cP ad bU ds off hl h1 (λj v hj=>?_) (λj v d hv hd=>ih j v d hv hd (at_ hp hd));obtain⟨h2,h3⟩:=hcl j v hj;obtain⟨q1,q2⟩:=hcell _ _ h3 h2;exact⟨q2,q1⟩
 |dJ=>intro _;exact .dJ
 |func f cs ds hl _ ih=>
  intro hp;simp only[PD.dK]at hp;exact .func f cs ds hl (λi v d hv hd=>ih i v d hv hd (at_ hp hd))
 |oR f cs ds hl _ ih=>
  intro hp;simp only[PD.dK]at hp;exact .oR f cs ds hl (λi v d hv hd=>ih i v d hv hd (at_ hp hd))
 |kF=>intro _;exact .kF
 |bL v h=>intro _;exact .bL v h
 |yield id l hd hn hr=>intro hp;simp[PD.dK]at hp
 |aK cs ds hl _ ih=>
  intro hp;simp only[PD.dK]at hp;exact so
theorem aJ.strip{c:Cx}{cs:Bz}{ds:Bw}(hv:aJ c cs ds):aJ c cs (ds.map PD.strip):=
 ⟨by simpa using hv.1,λi v d h1 h2=>by
  rw[yAo]at h2;cases hx:ds[i]? with
  |none=>rw[hx]at h2;simp at h2
  |some x=>
   rw[hx]at h2;simp only[yAC,yAb]at h2;subst h2;exact(hv.2 i v x h1 hx).strip⟩
theorem aJ.free{c c':Cx}(hcell:∀a v,c.av a->c.w.cell? a=some v->c'.av a/\c'.w.cell? a=some v){cs:Bz}{ds:Bw}(hv:aJ c cs ds)(h:PD.fG ds=true):aJ c' cs ds:=
 ⟨hv.1,λi v d h1 h2=>(hv.2 i v d h1 h2).free hcell (by
  rw[PD.HR]at h;exact yAn.1 h d (yAE h2))⟩
end
def PD.plain:PD->Bool
 |.agg _|.aK _|.typed _ _=>false
 |_=>true
def HP:Value->Option PD
 |.bool b=>some (.bool b)
 |.int k n=>some (.int k n)
 |.string s=>some (.str s.data.toList)
 |.slice none 0 0=>some (.slice 0 [] .full)
 |.pointer none=>some .dJ
 |.nilFunc=>some .kF
 |.nilIface=>some (.bL .nilIface)
 |.map none=>some (.bL (.map none))
 |_=>none
def CN:List Value->Option (List PD)
 | []=>some []
 |v::vs=>match HP v,CN vs with
  |some p,some ps=>some (p::ps)
  |_,_=>none
def ofValue:Value->Option PD
 |.agg cs=>match CN cs.toList with|some ps=>some (.agg ps)|none=>none
 |.tuple vs=>if vs.size=0 then some (.aK [])else none
 |v=>HP v
def dS(P:Program)(t:TypeId):Option PD:=
 match P.info? t with
 |some i=>match i.zero with|some z=>ofValue z|none=>none
 |none=>none
def bS(P:Program)(t:TypeId):Option Nat:=match P.info? t with|some i=>some i.size|none=>none
def fA(P:Program)(t:TypeId):Option Bool:=
 match P.underlying t with
 |some (.struct _)|some (.array _ _)=>some true
 |some _=>some false
 |none=>none
def aT(fr:List PD):Operand->Option PD
 |.tmp t=>some (fr.getD t (.aK []))
 |.const v=>ofValue v
 |.func f=>some (.func f [])
 |.global g=>match JT g with
   |some ds=>some (.cP ds 0)
   |none=>none
def iX(fr:List PD):List Operand->Option (List PD)
 | []=>some []
 |x::xs=>match aT fr x,iX fr xs with
  |some p,some ps=>some (p::ps)
  |_,_=>none
def mC(P:Program)(t:TypeId)(cs:List PD)(off:Nat):Option PD:=
 match fA P t,bS P t with
 |some true,some n=>if off+n<=cs.length then some (.agg ((cs.drop off).take n))else none
 |some false,some _=>cs[off]?
 |_,_=>none
def LX(op:BinOp)(k:IntKind)(x y:Int):Option Int:=
 match op with
 |.and=>some (k.wrap ((BitVec.ofInt k.bits x) &&& (BitVec.ofInt k.bits y)).toNat)
 |.or=>some (k.wrap ((BitVec.ofInt k.bits x) ||| (BitVec.ofInt k.bits y)).toNat)
 |.xor=>some (k.wrap ((BitVec.ofInt k.bits x) ^^^ (BitVec.ofInt k.bits y)).toNat)
 |.andNot=>some (k.wrap ((BitVec.ofInt k.bits x) &&& ~~~(BitVec.ofInt k.bits y)).toNat)
 |_=>none
def fQ(op:BinOp)(k:IntKind)(x y:Int):Option PD:=
 match op with
 |.add=>some (.int k (k.wrap (x+y)))
 |.sub=>some (.int k (k.wrap (x-y)))
 |.mul=>some (.int k (k.wrap (x*y)))
 |.quo=>if y=0 then none else some (.int k (k.wrap (x.tdiv y)))
 |.rem=>if y=0 then none else some (.int k (x.tmod y))
 |.eql=>some (.bool (x==y))
 |.neq=>some (.bool (x != y))
 |.lss=>some (.bool (decide (x<y)))
 |.leq=>some (.bool (decide (x<=y)))
 |.gtr=>some (.bool (decide (x > y)))
 |.geq=>some (.bool (decide (x >= y)))
 |.and|.or|.xor|.andNot=>match LX op k x y with|some z=>some (.int k z)|none=>none
 |_=>none
def VK(op:BinOp)(k:IntKind)(x y:Int):Option PD:=
 if y<0 then none else
 match op with
 |.shl=>some (.int k (k.wrap (x*2^(min y.toNat k.bits))))
 |.shr=>some (.int k (x.fdiv (2^(min y.toNat k.bits))))
 |_=>none
def VJ(op:BinOp)(x y:List UInt8):Option PD:=
 match op with
 |.add=>if x.length+y.length<=maxLen then some (.str (x++y))else none
 |.eql=>some (.bool (x==y))
 |.neq=>some (.bool (!(x==y)))
 |.lss=>some (.bool (Op.bytesLess x y))
 |.leq=>some (.bool (Op.bytesLess x y||x==y))
 |.gtr=>some (.bool (!(Op.bytesLess x y||x==y)))
 |.geq=>some (.bool (!(Op.bytesLess x y)))
 |_=>none
def J2(eq:TypeId->PD->PD->Option Bool)(P:Program)(xs ys:List PD):List Field->Option Bool
 | []=>some true
 |f::fs=>
  if f.name= "_" then J2 eq P xs ys fs
  else match mC P f.type xs f.offset,mC P f.type ys f.offset with
   |some a,some b=>match eq f.type a b with
    |some true=>J2 eq P xs ys fs
    |some false=>some false
    |none=>none
   |_,_=>none
def LS(eq:PD->PD->Option Bool)(P:Program)(e:TypeId)(n:Nat)(xs ys:List PD):Nat->Nat->Option Bool
 |_,0=>some true
 |i,m+1=>match mC P e xs (i*n),mC P e ys (i*n)with
  |some a,some b=>match eq a b with
   |some true=>LS eq P e n xs ys (i+1) m
   |some false=>some false
   |none=>none
  |_,_=>none
def lC(P:Program):Nat->TypeId->PD->PD->Option Bool
 |0,_,_,_=>none
 |d+1,t,x,y=>
  match P.underlying t with
  |some .bool=>match x,y with|.bool a,.bool b=>some (a==b)|_,_=>none
  |some (.int _)=>match x,y with|.int k a,.int k' b=>if k=k' then some (a==b)else none|_,_=>none
  |some .string=>match x,y with|.str a,.str b=>some (a==b)|_,_=>none
  |some (.pointer _)=>match x,y with
   |.dJ,.dJ=>some true
   |.dJ,.ptr _ _=>some false
   |.dJ,.cP _ _=>some false
   |.ptr _ _,.dJ=>some false
   |.cP _ _,.dJ=>some false
   |_,_=>none
  |some (.func ..)=>match x,y with
   |.kF,.kF=>some true
   |.kF,.func _ _=>some false
   |.func _ _,.kF=>some false
   |_,_=>none
  |some (.struct fs)=>match x,y with
   |.agg xs,.agg ys=>if P.stoodInHeld t then none else J2 (lC P d) P xs ys fs.toList
   |_,_=>none
  |some (.array len e)=>match x,y with
   |.agg xs,.agg ys=>match bS P e with
     |some n=>LS (lC P d e) P e n xs ys 0 len
     |none=>none
   |_,_=>none
  |_=>none
def rF(P:Program)(t:TypeId)(x y:PD):Option Bool:=
 match x,y with
 |.agg _,.agg _=>if P.eqGuardType P.depth t then none else lC P 12 t x y
 |_,_=>lC P 12 t x y
def dZ(P:Program)(op:BinOp)(t:TypeId)(x y:PD):Option PD:=
 match x,y with
 |.int k a,.int k' b=>
   match op with
   |.shl|.shr=>VK op k a b
   |_=>if k=k' then fQ op k a b else none
 |.str a,.str b=>VJ op a b
 |_,_=>
  match op with
  |.eql=>match rF P t x y with|some b=>some (.bool b)|none=>none
  |.neq=>match rF P t x y with|some b=>some (.bool (!b))|none=>none
  |_=>none
def QY(op:UnOp)(x:PD):Option PD:=
 match op,x with
 |.neg,.int k n=>some (.int k (k.wrap (0-n)))
 |.xor,.int k n=>match LX .xor k (if k.signed then -1 else k.max) n with|some z=>some (.int k z)|none=>none
 |.not,.bool b=>some (.bool (!b))
 |_,_=>none
def VG(P:Program)(src dst:TypeId)(x:PD):Option PD:=
 match P.underlying src,P.underlying dst,x with
 |some (.int _),some (.int k),.int _ n=>some (.int k (k.wrap n))
 |some .string,some .string,.str s=>some (.str s)
 |_,_,_=>none
def fZ:Option PD->Option Nat
 |some (.int _ i)=>if 0<=i then some i.toNat else none
 |_=>none
def mU(n:Nat)(lo hi:Option (Option PD)):Option (Nat×Nat):=
 match (match hi with|some h=>fZ h|none=>some n),(match lo with|some l=>fZ l|none=>some 0)with
 |some h,some l=>if l<=h/\h<=n then some (l,h)else none
 |_,_=>none
def J4(P:Program)(t:TypeId)(x:PD)(lo hi mx:Option (Option PD)):Option PD:=
 match P.underlying t,x with
 |some .string,.str s=>
  if mx.isSome then none else
  match mU s.length lo hi with
  |some (l,h)=>some (.str ((s.drop l).take (h-l)))
  |none=>none
 |some (.slice e),.slice size xs tok=>
  match bS P e,mU xs.length lo hi with
  |some n,some (l,h)=>
   if xs.length=0\/n=size then
    match mx with
    |none=>some (.slice size ((xs.drop l).take (h-l))
      (if h=xs.length then(match tok with|.full=>.full|.own id=>if l=0 then .own id else .any|_=>.any)else .any))
    |some m=>match hi,fZ m with
     |some _,some m=>if h<=m/\m<=xs.length then some (.slice size ((xs.drop l).take (h-l)) (if m=h then .full else .any))else none
     |_,_=>none
   else none
  |_,_=>none
 |some (.slice e),.fR id off m size=>
  match bS P e,mU m lo hi,mx with
  |some n,some (l,h),none=>if n=size/\(l=0\/l<m)then some (.fR id (off+l*n) (h-l) n)else none
  |_,_,_=>none
 |some (.slice e),.fF id ver off m size=>
  match bS P e,mU m lo hi with
  |some n,some (l,h)=>
   if n=size then
    match mx with
    |none=>if l=0\/l<m then some (.fF id ver (off+l*n) (h-l) n)else some (.slice n [] .any)
    |some mv=>match hi,fZ mv with
     |some _,some k=>if k=h/\l=h then some (.slice n [] .full)else none
     |_,_=>none
   else none
  |_,_=>none
 |some (.array len e),.ptr id off=>
  match bS P e,mU len lo hi,mx with
  |some n,some (l,h),none=>if len<=1000000/\(l=0\/l<len)then some (.fR id (off+l*n) (h-l) n)else none
  |_,_,_=>none
 |_,_=>none
def LU(P:Program)(s:TypeId)(x:PD)(f:Nat):Option PD:=
 match P.underlying s with
 |some (.struct fs)=>match fs[f]? with
  |some fd=>match bS P fd.type with
   |some n=>if n=0 then none else match x with
    |.ptr id off=>some (.ptr id (off+fd.offset))
    |.cP cs off=>some (.cP cs (off+fd.offset))
    |.gO id ver off=>some (.gO id ver (off+fd.offset))
    |_=>none
   |none=>none
  |none=>none
 |_=>none
def QZ(P:Program)(t:TypeId)(x:PD)(f:Nat):Option PD:=
 match P.underlying t,x with
 |some (.struct fs),.agg cs=>match fs[f]? with
  |some fd=>mC P fd.type cs fd.offset
  |none=>none
 |_,_=>none
def NP(P:Program)(t:TypeId)(x:PD)(i:PD):Option PD:=
 match fZ (some i),P.underlying t with
 |some i,some (.array len e)=>match bS P e with
  |some n=>if i<len then(match x with
    |.ptr id off=>some (.ptr id (off+i*n))
    |.cP cs off=>some (.cP cs (off+i*n))
    |.gO id ver off=>some (.gO id ver (off+i*n))
    |_=>none)else none
  |none=>none
 |some i,some (.slice e)=>match x,bS P e with
  |.slice size xs _,some n=>if (xs.length=0\/n=size)/\0<n then(match xs[i]? with
    |some p=>some (.cP p.cells 0)
    |none=>none)else none
  |.fR id off m size,some n=>if n=size/\i<m then some (.ptr id (off+i*n))else none
  |.fF id ver off m size,some n=>if n=size/\i<m then some (.gO id ver (off+i*n))else none
  |_,_=>none
 |_,_=>none
def J5(P:Program)(t:TypeId)(x:PD)(i:PD):Option PD:=
 match fZ (some i),P.underlying t,x with
 |some i,some (.array len e),.agg cs=>match bS P e with
  |some n=>if i<len then mC P e cs (i*n)else none
  |none=>none
 |some i,some .string,.str s=>match s[i]? with|some b=>some (.int .u8 b.toNat)|none=>none
 |_,_,_=>none
def Q4(P:Program):List Field->Option (List (Nat×Nat))
 | []=>some []
 |f::fs=>match bS P f.type,Q4 P fs with
  |some n,some ps=>some ((f.offset,n)::ps)
  |_,_=>none
def iM(cs:List PD)(off:Nat)(new:List PD):List PD:=cs.take off++new++cs.drop (off+new.length)
def HQ(place:Nat->Option (Nat×Nat))(cs:List PD):List (Nat×PD)->Option (List PD)
 | []=>some cs
 |(i,p)::rest=>match place i with
  |none=>none
  |some (off,n)=>if p.cells.length≠n\/off+p.cells.length > cs.length\/p.cells.all PD.plain=false then none else HQ place (iM cs off p.cells) rest
def rE(fr:List PD):List (Nat×Operand)->Option (List (Nat×PD))
 | []=>some []
 |(i,x)::r=>match aT fr x,rE fr r with
  |some p,some ps=>some ((i,p)::ps)
  |_,_=>none
def Q0(P:Program)(t:TypeId)(parts:List (Nat×PD)):Option PD:=
 match dS P t with
 |some (.agg z)=>match P.underlying t with
  |some (.struct fs)=>match Q4 P fs.toList with
   |some pl=>match HQ (pl[·]?) z parts with|some cs=>some (.agg cs)|none=>none
   |none=>none
  |some (.array _ e)=>match bS P e with
   |some n=>match HQ (λi=>some (i*n,n)) z parts with|some cs=>some (.agg cs)|none=>none
   |none=>none
  |_=>none
 |_=>none
def NW(lt:Bool):PD->List PD->Option PD
 |.int k x,[]=>some (.int k x)
 |.int k x,.int _ y::r=>NW lt (.int k (if lt then(if y<x then y else x)else(if y > x then y else x))) r
 |_,_=>none
def J6(P:Program)(b:Builtin)(argTypes:Array TypeId)(args:List PD):Option PD:=
 match b with
 |.len=>match argTypes[0]? with
   |some t=>match P.underlying t,args with
    |some .string,.str s::_=>some (.int .i64 s.length)
    |some (.array n _),_::_=>some (.int .i64 n)
    |some (.slice _),.slice _ xs _::_=>some (.int .i64 xs.length)
    |some (.slice _),.fR _ _ n _::_=>some (.int .i64 n)
    |some (.slice _),.fF _ _ _ n _::_=>some (.int .i64 n)
    |_,_=>none
   |none=>none
 |.min=>match args with|x::r=>NW true x r | []=>none
 |.max=>match args with|x::r=>NW false x r | []=>none
 |.cap=>match argTypes[0]? with
   |some t=>match P.underlying t,args with
    |some (.slice _),.slice _ xs .full::_=>some (.int .i64 xs.length)
    |_,_=>none
   |none=>none
 |_=>none
def EM:PD->Option Bool
 |.slice n xs tok=>if xs.length≠0/\n≠0 then some false else(match tok with
   |.nil=>some true
   |.HX=>some true
   |.HY=>some false
   |_=>none)
 |.fR _ _ _ _=>some false
 |.fF _ _ _ _ _=>some false
 |_=>none
def Q1(P:Program)(op:BinOp)(t:TypeId)(a:PD)(y:Operand):Option PD:=
 match y with
 |.const (.slice none 0 0)=>(match P.underlying t with
   |some (.slice _)=>(match op,EM a with
    |.eql,some b=>some (.bool b)
    |.neq,some b=>some (.bool (!b))
    |_,_=>none)
   |_=>none)
 |.const .nilIface=>(match P.underlying t with
   |some (.interface _)=>(match op,a with
    |.eql,.iface _ _=>some (.bool false)
    |.neq,.iface _ _=>some (.bool true)
    |.eql,.bL .nilIface=>some (.bool true)
    |.neq,.bL .nilIface=>some (.bool false)
    |_,_=>none)
   |_=>none)
 |_=>none
def dD(P:Program)(fr:List PD):Op->Option PD
 |.move x|.assign x=>aT fr x
 |.pick c a b=>match aT fr c with
   |some (.bool true)=>aT fr a
   |some (.bool false)=>aT fr b
   |_=>none
 |.binOp op t x y _=>match aT fr x,aT fr y with
   |some a,some b=>(match dZ P op t a b with|some r=>some r|none=>Q1 P op t a y)
   |_,_=>none
 |.unOp op _ x=>match aT fr x with|some a=>QY op a|none=>none
 |.convert s d x=>if NR s d=true then none else match aT fr x with|some a=>VG P s d a|none=>none
 |.makeFunc (.func f) first captured=>if first.size=0 then(match iX fr captured.toList with|some ps=>some (.func f ps)|none=>none)
   else if captured.size=0 then(match iX fr first.toList with|some ps=>some (.oR f ps)|none=>none)else none
 |.slice t x lo hi mx=>match aT fr x with
   |some a=>J4 P t a (lo.map (aT fr)) (hi.map (aT fr)) (mx.map (aT fr))
   |none=>none
 |.fieldAddr s x f=>match aT fr x with|some a=>LU P s a f|none=>none
 |.field t x f=>match aT fr x with|some a=>QZ P t a f|none=>none
 |.indexAddr t x i=>match aT fr x,aT fr i with
   |some a,some b=>NP P t a b
   |_,_=>none
 |.index t x i=>match aT fr x,aT fr i with
   |some a,some b=>J5 P t a b
   |_,_=>none
 |.extract x i=>match aT fr x with
   |some (.aK vs)=>vs[i]?
   |_=>none
 |.nilCheck x=>match aT fr x with
   |some (.ptr id off)=>some (.ptr id off)
   |some (.cP cs off)=>some (.cP cs off)
   |some (.gO id ver off)=>some (.gO id ver off)
   |_=>none
 |.build t parts=>match rE fr parts.toList with|some ps=>Q0 P t ps|none=>none
 |.call { callee:=.builtin b,args:=args,argTypes:=ts }=>match iX fr args.toList with
   |some ps=>J6 P b ts ps
   |none=>none
 |.typeAssert x _ t true=>match P.underlying t with
   |some (.struct _)=>(match aT fr x with|some (.iface u p)=>if u=t then some (.aK [p,.bool true])else none|_=>none)
   |_=>none
 |.makeInterface t x=>match P.underlying t with
   |some (.struct _)=>(match aT fr x with|some p=>some (.iface t p)|none=>none)
   |_=>none
 |_=>none
def j8(P:Program)(σ:List U)(t:TypeId):PD->Option PD
 |.ptr id off=>match σ[id]? with
   |some (.box p)=>mC P t p.cells off
   |_=>none
 |.cP cs off=>mC P t cs off
 |.gO id ver off=>match σ[id]? with
   |some (.row _ _ fE cs)=>if ver=fE then mC P t cs off else none
   |_=>none
 |_=>none
def EP:PD->PD
 |.slice 0 [] .full=>.slice 0 [] .nil
 |p=>p
def boxed(t:TypeId):PD->PD
 |.agg cs=>if EN t=true then .typed t (cs.map EP)else .agg cs
 |p=>p
def mE(t:TypeId):PD->PD
 |.agg cs=>if EN t=true then .typed t cs else .agg cs
 |p=>p
def PD.setCells(p:PD)(off:Nat)(new:List PD):Option PD:=
 match p with
 |.agg cs=>if off+new.length<=cs.length then some (.agg (iM cs off new))else none
 |.typed t cs=>if off+new.length<=cs.length then some (.typed t (iM cs off new))else none
 |_=>if off=0 then(match new with | [q]=>some q|_=>none)else none
def pC(P:Program)(fl:Nat)(σ:List U)(t:TypeId)(a p:PD):Option (List U):=
 match a with
 |.ptr id off=>if fl<=id then(match σ[id]?,bS P t with
   |some (.box q),some n=>if p.cells.length=n/\p.cells.all PD.plain=true then(match q.setCells off p.cells with
     |some q'=>some (σ.set id (.box q'))
     |none=>none)else none
   |_,_=>none)else none
 |.gO id ver off=>if fl<=id then(match σ[id]?,bS P t with
   |some (.row e sz fE cs),some n=>if ver=fE/\p.cells.length=n/\p.cells.all PD.plain=true/\off+n<=cs.length then some (σ.set id (.row e sz ver (iM cs off p.cells)))else none
   |_,_=>none)else none
 |_=>none
def Q3(i:Nat):List (Nat×PD)->Option (List PD)
 | []=>some []
 |(j,p)::r=>if j=i then(match Q3 (i+1) r with|some ps=>some (p::ps)|none=>none)else none
def HN(P:Program)(t:TypeId)(len:Nat)(parts:List (Nat×PD)):Option PD:=
 match P.underlying t with
 |some (.slice e)=>match bS P e,dS P e,Q3 0 parts with
  |some n,some z,some ps=>
   if ps.length=len/\0<n/\len*n<=16777216/\ps.all (λp=>p.cells.length=n&&p.cells.all PD.plain)=true/\z.cells.length=n/\z.cells.all PD.plain=true then some (.slice n ps .full)else none
  |_,_,_=>none
 |_=>none
def vM(P:Program)(t:TypeId):Bool:=
 match P.underlying t with
 |some (.slice e)=>match P.info? e with
  |some i=>match i.zero with
   |some (.int .u8 0)=>i.size==1&&i.bytes==1
   |_=>false
  |none=>false
 |_=>false
def dV(P:Program)(fl:Nat)(σ:List U)(t:TypeId)(s x:PD):Option (PD×List U):=
 match P.underlying t with
 |some (.slice e)=>match P.info? e with
  |some i=>match i.zero,s,x with
   |some z,.slice sz xs tok,.slice sz' ys _=>
    if (xs.length=0\/sz=i.size)/\(ys.length=0\/sz'=i.size)/\0<i.size/\z.cells.size=i.size/\xs.length+ys.length<=maxLen /\
        (xs.length+ys.length)*i.bytes<=140737488355328 then
     if ys.length=0 then some (s,σ)else
     match tok with
     |.full=>some (.slice i.size (xs++ys) (.own σ.length),σ++[.own e i.size (xs.length+ys.length)])
     |.nil=>some (.slice i.size (xs++ys) (.own σ.length),σ++[.own e i.size (xs.length+ys.length)])
     |.own id=>if fl<=id/\sz=i.size then(match σ[id]? with
       |some (.own e' jX n)=>if e'=e/\jX=i.size/\n=xs.length then
         some (.slice i.size (xs++ys) (.own id),σ.set id (.own e i.size (xs.length+ys.length)))else none
       |_=>none)else none
     |_=>none
    else none
   |_,_,_=>none
  |none=>none
 |_=>none
def CY(z:PD)(n l:Nat):List PD:=(List.range (l*n)).map λk=>z.cells.getD (k%n) (.aK [])
def ET(n:Nat):Nat->List PD->Bw
 |0,_=>[]
 |k+1,cs=>.agg (cs.take n)::ET n k (cs.drop n)
def RJ(σ:List U):PD->Option (Nat×List PD)
 |.slice sz ys _=>some (sz,ys)
 |.fF id ver off n sz=>match σ[id]? with
   |some (.row _ sz' fE cs)=>if ver=fE/\sz'=sz/\off+n*sz<=cs.length then some (sz,ET sz n (cs.drop off))else none
   |_=>none
 |.fR id off n sz=>match σ[id]? with
   |some (.box q)=>if off+n*sz<=q.cells.length then some (sz,ET sz n (q.cells.drop off))else none
   |_=>none
 |_=>none
def Tok.fresh:Tok->Bool
 |.full=>true
 |_=>false
def mD(P:Program)(n:Nat)(fl:Nat)(σ:List U)(t:TypeId)(s x:PD):Option (PD×List U):=
 if pE t n=true then
  match P.underlying t,RJ σ x with
  |some (.slice e),some (sz',ys)=>match P.info? e with
   |some i=>match i.zero with
    |some z=>
     if (ys.length=0\/sz'=i.size)/\0<i.size/\z.cells.size=i.size/\z.cells.toList.all Value.oneCell'=true then
      match s with
      |.slice sz xs tok=>
        if (xs.length=0\/sz=i.size)/\xs.length+ys.length<=maxLen/\(xs.length+ys.length)*i.bytes<=140737488355328/\tok.fresh=true then
         if ys.length=0 then some (s,σ)
         else some (.fF σ.length 0 0 (xs.length+ys.length) i.size,σ++[.row e i.size 0 ((xs++ys).flatMap PD.cells)])
        else none
      |.fF id ver off n sz=>
        if fl<=id/\sz=i.size/\n+ys.length<=maxLen/\(n+ys.length)*i.bytes<=140737488355328 then
         match σ[id]? with
         |some (.row e' jX fE cs)=>
          if e'=e/\jX=i.size/\fE=ver then
           if off+(n+ys.length)*i.size<=cs.length then some (.fF id ver off (n+ys.length) i.size,σ.set id (.row e i.size ver (iM cs (off+n*i.size) (ys.flatMap PD.cells))))
           else if off=0/\n*i.size=cs.length then some (.fF id (ver+1) 0 (n+ys.length) i.size,σ.set id (.row e i.size (ver+1) (cs++ys.flatMap PD.cells)))
           else none
          else none
         |_=>none
        else none
      |_=>none
     else none
    |none=>none
   |none=>none
  |_,_=>none
 else none
def LY(P:Program)(n:Nat)(σ:List U)(t:TypeId)(s:PD)(m:Int):Option (PD×List U):=
 match P.underlying t,s with
 |some (.slice e),.slice _ [] .full=>if vM P t=true/\pE t n=true/\0<m/\m<=1000000000 then some (.fF σ.length 0 0 m.toNat 1,σ++[.row e 1 0 (List.replicate m.toNat (.int .u8 0))])else none
 |_,_=>none
def aDk(P:Program)(fl:Nat)(σ:List U)(t:TypeId)(s:PD):Option (List U):=
 match P.underlying t with
 |some (.slice e)=>match s with
  |.slice _ [] _=>some σ
  |.fF id ver off n sz=>match σ[id]?,bS P e,dS P e with
    |some (.row e' jX fE cs),some m,some z=>
     if fl<=id/\fE=ver/\jX=sz/\m=sz/\z.cells.length=sz/\z.cells.all PD.plain=true/\off+n*sz<=cs.length/\0<sz then some (σ.set id (.row e' jX ver (iM cs off (CY z sz n))))else none
    |_,_,_=>none
  |_=>none
 |_=>none
def aDm(P:Program)(σ:List U)(st:TypeId)(x:PD):Option (Nat×List PD):=
 match x with
 |.str l=>match P.underlying st with
   |some .string=>some (1,l.map λb=>.int .u8 b.toNat)
   |_=>none
 |_=>RJ σ x
def aDo(P:Program)(fl:Nat)(σ:List U)(dt st:TypeId)(d x:PD):Option (PD×List U):=
 match P.underlying dt,aDm P σ st x with
 |some (.slice e),some (sz',ys)=>match bS P e with
  |some sz=>
   if ys.length=0\/sz'=sz then
    match d with
    |.slice _ [] _=>some (.int .i64 0,σ)
    |.fR id off n jX=>if fl<=id/\jX=sz/\((ys.take n).flatMap PD.cells).all PD.plain=true then(match σ[id]? with
      |some (.box q)=>(match q.setCells off ((ys.take n).flatMap PD.cells)with
       |some q'=>some (.int .i64 (Nat.min ys.length n),σ.set id (.box q'))
       |none=>none)
      |_=>none)else none
    |.fF id ver off n jX=>if fl<=id/\jX=sz then(match σ[id]? with
      |some (.row e' J9 fE cs)=>if fE=ver/\J9=sz/\off+((ys.take n).flatMap PD.cells).length<=cs.length then
        some (.int .i64 (Nat.min ys.length n),σ.set id (.row e' J9 ver (iM cs off ((ys.take n).flatMap PD.cells))))else none
      |_=>none)else none
    |_=>none
   else none
  |none=>none
 |_,_=>none
def RN(P:Program)(kt:TypeId)(k:PD):Bool:=
 match P.underlying kt,k with
 |some .string,.str _=>true
 |some (.int k0),.int k1 _=>k0==k1
 |_,_=>false
def OG:PD->PD->Option Bool
 |.str a,.str b=>some (a==b)
 |.int k a,.int k' b=>if k=k' then some (a==b)else none
 |_,_=>none
def EV(k:PD):List (PD×PD)->Nat->Option (Option (Nat×PD))
 | [],_=>some none
 |e::es,i=>match OG k e.1 with
  |some true=>some (some (i,e.2))
  |some false=>EV k es (i+1)
  |none=>none
def RO(P:Program)(σ:List U)(t:TypeId)(x k:PD)(ok:Bool):Option PD:=
 match P.underlying t with
 |some (.map kt e)=>if RN P kt k=true then(match x with
   |.gG id=>(match σ[id]? with
     |some (.map es)=>(match EV k es 0 with
      |some (some (_,v))=>some (if ok then .aK [v,.bool true]else v)
      |some none=>(match dS P e with
       |some z=>some (if ok then .aK [z,.bool false]else z)
       |none=>none)
      |none=>none)
     |_=>none)
   |.bL (.map none)=>(match dS P e with
     |some z=>some (if ok then .aK [z,.bool false]else z)
     |none=>none)
   |_=>none)else none
 |_=>none
def RP(P:Program)(fl:Nat)(σ:List U)(t:TypeId)(x k v:PD):Option (List U):=
 match P.underlying t with
 |some (.map kt _)=>if RN P kt k=true then(match x with
   |.gG id=>if fl<=id then(match σ[id]? with
     |some (.map es)=>(match EV k es 0 with
      |some (some (i,_))=>some (σ.set id (.map (es.set i (k,v))))
      |some none=>some (σ.set id (.map (es++[(k,v)])))
      |none=>none)
     |_=>none)else none
   |_=>none)else none
 |_=>none
def NX:List PD->Option (List UInt8)
 | []=>some []
 |.int .u8 n::r=>match NX r with|some l=>some (UInt8.ofNat n.toNat::l)|none=>none
 |_=>none
def VF(P:Program)(s d:TypeId)(x:PD):Option PD:=
 match P.underlying s,P.underlying d,x with
 |some .string,some (.slice e),.str l=>match P.underlying e with
  |some (.int .u8)=>if l.length<=maxLen then some (.slice 1 (l.map λb=>.int .u8 b.toNat) .any)else none
  |_=>none
 |some (.slice e),some .string,.slice sz xs _=>match P.underlying e with
  |some (.int .u8)=>if xs.length=0\/sz=1 then(match NX xs with|some l=>some (.str l)|none=>none)else none
  |_=>none
 |_,_,_=>none
def CU(σ:List U):PD->Option (List PD)
 |.fR id off n size=>if size=1 then(match σ[id]? with
   |some (.box p)=>if off+n<=p.cells.length then some ((p.cells.drop off).take n)else none
   |_=>none)else none
 |_=>none
def L4(P:Program)(σ:List U)(s d:TypeId)(x:PD):Option PD:=
 match CU σ x,P.underlying s,P.underlying d with
 |some xs,some (.slice e),some .string=>(match P.underlying e,NX xs with
  |some (.int .u8),some l=>some (.str l)
  |_,_=>none)
 |_,_,_=>none
def KG(P:Program)(σ:List U)(t e:TypeId)(l k:Nat):Option (PD×List U):=
 match P.info? e,bS P e,dS P e with
 |some i,some n,some z=>
  if l<=k/\0<n/\z.cells.length=n/\z.cells.all PD.plain=true/\k<=maxLen/\k*i.bytes<=140737488355328 then
   if l=0/\k≠0 then some (.slice n [] (.own σ.length),σ++[.own e n 0])
   else if l=k then
    if aDb t=true then some (.fR σ.length 0 l n,σ++[.box (.agg (CY z n l))])else some (.slice n (List.replicate l z) .full,σ)
   else none
  else none
 |_,_,_=>none
def cK(P:Program)(fl:Nat)(fr:List PD)(σ:List U):Op->Option (PD×List U)
 |.load t x=>match aT fr x with
   |some a=>(match j8 P σ t a with|some p=>some (p,σ)|none=>none)
   |none=>none
 |.store t x y=>match aT fr x,aT fr y with
   |some a,some p=>(match pC P fl σ t a p with|some σ'=>some (.aK [],σ')|none=>none)
   |_,_=>none
 |.alloc t=>match dS P t with
   |some p=>if p.cells.all PD.plain then some (.ptr σ.length 0,σ++[.box (boxed t p)])else none
   |none=>none
 |.box t x=>match aT fr x with
   |some p=>if p.cells.all PD.plain then some (.ptr σ.length 0,σ++[.box (mE t p)])else none
   |none=>none
 |.buildSlice t len parts=>match rE fr parts.toList with
   |some ps=>(match HN P t len (ps.map λq=>(q.1,q.2.strip))with|some p=>some (p,σ)|none=>none)
   |none=>none
 |.convert s d x=>if NR s d=true then(match aT fr x with
   |some a=>(match VF P s d a with|some p=>some (p,σ)|none=>(match L4 P σ s d a with|some p=>some (p,σ)|none=>none))
   |none=>none)else none
 |.makeSlice t l k=>match P.underlying t,fZ (aT fr l),fZ (aT fr k)with
   |some (.slice e),some l,some k=>KG P σ t e l k
   |_,_,_=>none
 |.call { callee:=.builtin .clear,args:=args,argTypes:=ts }=>match iX fr args.toList,ts.toList with
   |some [s],[t]=>(match aDk P fl σ t s with|some σ'=>some (.aK [],σ')|none=>none)
   |_,_=>none
 |.call { callee:=.builtin .copy,args:=args,argTypes:=ts }=>match iX fr args.toList,ts.toList with
   |some [d,x],[t,t']=>aDo P fl σ t t' d x
   |_,_=>none
 |.makeMap t none=>match P.underlying t with
   |some (.map _ _)=>some (.gG σ.length,σ++[.map []])
   |_=>none
 |.lookup t x k ok=>match aT fr x,aT fr k with
   |some m,some k=>(match RO P σ t m k ok with|some p=>some (p,σ)|none=>none)
   |_,_=>none
 |.mapUpdate t x k v=>match aT fr x,aT fr k,aT fr v with
   |some m,some k,some v=>(match RP P fl σ t m k v with|some σ'=>some (.aK [],σ')|none=>none)
   |_,_,_=>none
 |.call { callee:=.builtin .append,args:=args,argTypes:=ts }=>match iX fr args.toList,ts.toList with
   |some [s,x],[t,t']=>if t=t' then(match mD P fr.length fl σ t s x with|some r=>some r|none=>dV P fl σ t s x.strip)else(match P.underlying t',x with
    |some .string,.str l=>if vM P t=true then(match mD P fr.length fl σ t s (.slice (if l.length=0 then 0 else 1) (l.map λb=>.int .u8 b.toNat) .any)with|some r=>some r|none=>dV P fl σ t s (.slice (if l.length=0 then 0 else 1) (l.map λb=>.int .u8 b.toNat) .any))else none
    |some (.int .i64),.int .i64 m=>LY P fr.length σ t s m
    |_,_=>none)
   |_,_=>none
 |_=>none
def pop(P:Program)(fl:Nat)(fr:List PD)(σ:List U)(op:Op):Option (PD×List U):=
 match dD P fr op with
 |some p=>some (p,σ)
 |none=>cK P fl fr σ op
def dI(fr:List PD):Op->Option ((FuncId ⊕ Nat)×List PD)
 |.call { callee:=.value g,args:=args,.. }=>match aT fr g,iX fr args.toList with
   |some (.func f cap),some ps=>some (.inl f,ps++cap)
   |some (.oR f first),some ps=>some (.inl f,first++ps)
   |some (.yield id),some ps=>some (.inr id,ps)
   |_,_=>none
 |_=>none
def aL(fr:List PD)(dst:Option Tmp)(p:PD):List PD:=
 match dst with
 |some d=>fr.set d p
 |none=>fr
def aY(ops:Array Oper)(fr:List PD)(j:Nat):Option Bool:=
 match (ops[j]?).bind (·.dst)with
 |some d=>match fr[d]? with
  |some (.bool b)=>some b
  |_=>none
 |none=>none
section
theorem aDv{c:Cx}{v:Value}{p:PD}(h:HP v=some p):VR c v p/\v.oneCell'=true:=by
 unfold HP at h;split at h<;>simp at h<;>subst h
 .exact⟨.bool _,rfl⟩
 .exact⟨.int _ _,rfl⟩
 .rename_i s;refine⟨?_,rfl⟩;exact qm
 .refine⟨.slice none 0 0 0 [] .full [] rfl (yAk _) (by simp[maxLen]) wz rfl wz wz wz rfl,rfl⟩
 .exact⟨.dJ,rfl⟩
 .exact⟨.kF,rfl⟩
 .exact⟨.bL _ rfl,rfl⟩
 .exact⟨.bL _ rfl,rfl⟩
theorem aIv{c:Cx}:∀ {vs:Bz} {ps:Bw},CN vs=some ps->aJ c vs ps/\∀v∈vs,v.oneCell'=true
 | [],ps,h=>by simp[CN]at h;subst h;exact⟨⟨rfl,wz⟩,wz⟩
 |v::vs,ps,h=>by
  unfold CN at h;cases h1:HP v with
  |none=>simp[h1]at h
  |some p=>
   cases h2:CN vs with
   |none=>simp[h1,h2]at h
   |some qs=>
    simp[h1,h2]at h;subst h;have⟨a1,a2⟩:=aDv (c:=c) h1;have⟨⟨b1,b2⟩,b3⟩:=aIv (c:=c) h2;refine⟨⟨by simp[b1],λi v' d hv hd=>?_⟩,by simp[a2];exact b3⟩;exact jl
theorem aDw{c:Cx}{v:Value}{p:PD}(h:ofValue v=some p):VR c v p:=by
 unfold ofValue at h;split at h
 .rename_i cs;cases h1:CN cs.toList with
  |none=>simp[h1]at h
  |some ps=>
   simp[h1]at h;subst h;have⟨⟨b1,b2⟩,b3⟩:=aIv (c:=c) h1;have:=VR.agg (c:=c) cs.toList ps b1 b3 b2;exact bn
 .rename_i vs;split at h
  .rename_i h0;simp at h;subst h;have:vs=#[]:=yDK h0;subst this;exact VR.aK [] [] rfl wz
  .exact ah
 .exact(aDv h).1
def FR(c:Cx)(a:Act)(fr:List PD):Prop:=aJ c a.tmps.toList fr/\Gl c
theorem FR.mono{fl:Nat}{c c':Cx}(h:Nx fl c c'){a:Act}{fr:Bw}(hf:FR c a fr):FR c' a fr:=⟨aJ.mono h hf.1,hf.2.mono h⟩
theorem V9(c:Cx):VR c undef (.aK []):=VR.aK [] [] rfl wz
theorem FR.tmp{c:Cx}{a:Act}{fr:Bw}(hf:FR c a fr)(t:Nat):VR c (a.tmps.getD t undef) (fr.getD t (.aK [])):=by
 obtain⟨⟨hl,h⟩,_⟩:=hf;rcases yBy t fr.length with hlt|hge
 .have h1:t<a.tmps.size:=by have:=hl;simp at this;omega
  have:=h t a.tmps[t] fr[t] (by simp[h1]) Bi;simpa [h1,hlt]using this
 .have h1:a.tmps.size<=t:=by have:=hl;simp at this;omega
  simp[Array.getElem?_eq_none h1,yBp hge];exact V9 c
theorem cL{c:Cx}{a:Act}{fr:Bw}(hf:FR c a fr){x:Operand}{p:PD}(h:aT fr x=some p):VR c (a.eval x) p:=by
 cases x with
 |tmp t=>simp only[aT,yAb]at h;subst h;exact hf.tmp t
 |const v=>exact aDw h
 |global g=>
  simp only[aT]at h;split at h
  .rename_i ds hg;simp only[yAb]at h;subst h;exact hf.2.1 g ds hg
  .exact ah
 |func f=>simp only[aT,yAb]at h;subst h;exact VR.func f [] [] rfl wz
theorem oK{c:Cx}{a:Act}{fr:Bw}(hf:FR c a fr):∀ {xs:List Operand} {ps:Bw},iX fr xs=some ps->aJ c (xs.map a.eval) ps
 | [],ps,h=>by simp[iX]at h;subst h;exact⟨rfl,wz⟩
 |x::xs,ps,h=>by
  unfold iX at h;cases h1:aT fr x with
  |none=>simp[h1]at h
  |some p=>
   cases h2:iX fr xs with
   |none=>simp[h1,h2]at h
   |some qs=>
    simp[h1,h2]at h;subst h;have a1:=cL hf h1;have⟨b1,b2⟩:=oK hf h2;refine⟨by simpa using b1,λi v d hv hd=>?_⟩;cases i with
    |zero=>simp at hv hd;subst hv;subst hd;exact a1
    |succ i=>exact b2 i v d (by simpa using hv) zc
section inv
variable{c:Cx}{v:Value}
theorem VR.L1{b:Bool}(h:VR c v (.bool b)):v=.bool b:=zq
theorem VR.oP{k:IntKind}{n:Int}(h:VR c v (.int k n)):v=.int k n:=zq
theorem VR.rH{s:Bx}(h:VR c v (.str s)):v=.string ⟨s.toArray⟩:=zq
theorem VR.KJ{ds:Bw}(h:VR c v (.agg ds)):∃cs:List Value,v=.agg cs.toArray/\aJ c cs ds/\∀v∈cs,v.oneCell'=true:=by
 cases h with|agg cs _ h1 h2 h3=>exact⟨cs,rfl,⟨h1,h3⟩,h2⟩
theorem VR.aQm{ds:Bw}(h:VR c v (.aK ds)):∃cs:List Value,v=.tuple cs.toArray/\aJ c cs ds:=by
 cases h with|aK cs _ h1 h2=>exact⟨cs,rfl,⟨h1,h2⟩⟩
theorem VR.RA{f:Nat}{ds:Bw}(h:VR c v (.func f ds)):∃cs:List Value,v=.func (.func f) #[] cs.toArray/\aJ c cs ds:=by
 cases h with|func _ cs _ h1 h2=>exact⟨cs,rfl,⟨h1,h2⟩⟩
theorem VR.aCZ{f:Nat}{ds:Bw}(h:VR c v (.oR f ds)):∃cs:List Value,v=.func (.func f) cs.toArray #[]/\aJ c cs ds:=by
 cases h with|oR _ cs _ h1 h2=>exact⟨cs,rfl,⟨h1,h2⟩⟩
theorem VR.vQ{id off:Nat}(h:VR c v (.ptr id off)):∃b,v=.pointer (some ⟨b,off,none⟩)/\c.D id/\(∃p,c.σ[id]?=some (.box p))/\c.ρ id=.pointer (some ⟨b,0,none⟩):=by
 cases h with|ptr _ _ b h1 h2 h3=>exact⟨b,rfl,h1,h2,h3⟩
theorem VR.KF{id off n size:Nat}(h:VR c v (.fR id off n size)):∃b cap,v=.slice (some ⟨b,off,none⟩) n cap/\c.D id/\(∃p,c.σ[id]?=some (.box p))/\c.ρ id=.pointer (some ⟨b,0,none⟩)/\n<=cap/\cap<=maxLen:=by
 cases h with|fR _ _ _ cap _ b h1 h2 h3 h4 h5=>exact⟨b,cap,rfl,h1,h2,h3,h4,h5⟩
theorem VR.MA{id ver off n size:Nat}(h:VR c v (.fF id ver off n size)):∃b cap,v=.slice (some ⟨b,off,none⟩) n cap/\MD c id ver (λsz r=>sz=size/\∃C,r=.slice (some ⟨b,0,none⟩) 0 C/\off+cap*size=C*size)/\n<=cap/\cap<=maxLen:=by
 cases h with|fF _ _ _ _ cap _ b h1 h2 h3=>exact⟨b,cap,rfl,h1,h2,h3⟩
theorem VR.RH{id ver off:Nat}(h:VR c v (.gO id ver off)):∃b,v=.pointer (some ⟨b,off,none⟩)/\MD c id ver (λ_ r=>∃C,r=.slice (some ⟨b,0,none⟩) 0 C):=by
 cases h with|gO _ _ _ b h1=>exact⟨b,rfl,h1⟩
theorem VR.aPU{id:Nat}(h:VR c v (.gG id)):∃b,v=.map (some b)/\c.D id/\pH c.σ[id]?/\c.ρ id=.map (some b):=by
 cases h with|gG _ b h1 h2 h3=>exact⟨b,rfl,h1,h2,h3⟩
theorem VR.aDy{t:TypeId}{p:PD}(h:VR c v (.iface t p)):∃u,v=.iface t u/\VR c u p:=by
 cases h with|iface _ u _ h1=>exact⟨u,rfl,h1⟩
theorem VR.OI(h:VR c v .dJ):v=.pointer none:=zq
theorem VR.aAA(h:VR c v .kF):v=.nilFunc:=zq
theorem VR.RS{ds:Bw}{off:Nat}(h:VR c v (.cP ds off)):∃(ad:Addr) (fl:List Value),v=.pointer (some (ad.add off))/\aJ c fl ds/\(∀v∈fl,v.oneCell'=true) /\
  ∀(j:Nat) (v:Value),fl[j]?=some v->c.w.cell? (ad.add j)=some v/\c.av (ad.add j):=by
 cases h with|cP ad fl _ _ h1 h2 h3 h4=>exact⟨ad,fl,rfl,⟨h1,h4⟩,h2,h3⟩
theorem VR.nW{size:Nat}{xs:Bw}{tok:Tok}(h:VR c v (.slice size xs tok)):∃(A:Option Addr) (cap:Nat) (fl:List Value),v=.slice A xs.length cap/\xs.length<=cap/\cap<=maxLen /\
  (∀x∈xs,x.cells.length=size)/\fl.length=xs.length*size/\(∀v∈fl,v.oneCell'=true) /\
  (∀(j:Nat) (v:Value),fl[j]?=some v->∃ad,A=some ad/\c.w.cell? (ad.add j)=some v/\c.av (ad.add j)) /\
  (∀(j:Nat) (v:Value) (d:PD),fl[j]?=some v->(xs.flatMap PD.cells)[j]?=some d->VR c v d)/\pJ c size xs.length cap (.slice A xs.length cap) tok:=by
 cases h with|slice A n cap _ _ _ fl h1 h2 h3 h4 h5 h6 h7 h8 h9=>subst h1;exact⟨A,cap,fl,rfl,h2,h3,h4,h5,h6,h7,h8,h9⟩
end inv
theorem VR.cells{c:Cx}{v:Value}{p:PD}(h:VR c v p):aJ c v.cells.toList p.cells:=by
 cases h with
 |agg cs ds h1 h2 h3=>exact⟨by simpa [Value.cells,PD.cells]using h1,by simpa [Value.cells,PD.cells]using h3⟩
 |bL v h=>
  have e:v.cells=#[v]:=by cases v<;>first|rfl|simp[aDC]at h
  rw[e];refine⟨rfl,λi v' d hv hd=>?_⟩;cases i with
  |zero=>
   simp[PD.cells]at hv hd;subst hv;subst hd;exact .bL v h
  |succ i=>simp at hv
 |_=>
  refine⟨by simp[Value.cells,PD.cells],λi v' d hv hd=>?_⟩;cases i with
  |zero=>
   simp[Value.cells,PD.cells]at hv hd;subst hv;subst hd
   constructor<;>assumption
  |succ i=>simp[Value.cells]at hv
theorem VR.plain{c:Cx}{v:Value}{p:PD}(h:VR c v p):p.plain=v.oneCell':=by
 cases h with
 |bL v h=>cases v<;>first|rfl|simp[aDC]at h
 |_=>rfl
theorem aJ.ER{c:Cx}{cs:Bz}{ds:Bw}(h:aJ c cs ds)(hp:ds.all PD.plain=true):∀v∈cs,v.oneCell'=true:=by
 intro v hv;obtain⟨i,hi⟩:=yCF hv;have hlt:i<ds.length:=by rw[<-h.1];exact(yA.1 hi).1
 have h1:=h.2 i v ds[i] hi Bi;rw[<-h1.plain];exact yAn.1 hp _ (yAm hlt)
theorem aJ.take_drop{c:Cx}{cs:Bz}{ds:Bw}(h:aJ c cs ds)(off n:Nat):aJ c ((cs.drop off).take n) ((ds.drop off).take n):=by
 refine⟨by simp[h.1],λi v d hv hd=>?_⟩;rw[yAv]at hv hd;split at hv
 .rename_i hlt;rw[yAJ hlt]at hd;rw[yBC]at hv hd;exact h.2 _ v d hv hd
 .simp at hv
theorem aJ.get{c:Cx}{cs:Bz}{ds:Bw}(h:aJ c cs ds){i:Nat}{d:PD}(hd:ds[i]?=some d):∃v,cs[i]?=some v/\VR c v d:=by
 have hlt:i<cs.length:=by rw[h.1];exact(yA.1 hd).1
 exact⟨cs[i],Bi,h.2 i cs[i] d Bi hd⟩
theorem aAu{P:Program}{t:TypeId}{n:Nat}(h:bS P t=some n):∃i,P.info? t=some i/\i.size=n:=by
 unfold bS at h;split at h<;>simp at h;exact⟨_,‹_›,h⟩
theorem lE{P:Program}{w:World}{t:TypeId}{n:Nat}(h:bS P t=some n):(sizeOf t).run P w=.ok n w:=by
 obtain⟨i,h1,h2⟩:=aAu h;simp[sizeOf,typeInfo,h1,h2]
theorem aAx{P:Program}{w:World}{t:TypeId}{b:Bool}(h:fA P t=some b):(isAgg t).run P w=.ok b w:=by
 unfold fA at h;split at h<;>simp at h<;>subst h
 .rename_i hu;simp[isAgg,yAO hu]
 .rename_i hu;simp[isAgg,yAO hu]
 .rename_i d h1 h2 hu;simp only[isAgg,yAV,yAO hu,yAX];rfl
theorem RT{P:Program}{c:Cx}{cs:Bz}{ds:Bw}(h:aJ c cs ds)(h1:∀v∈cs,v.oneCell'=true){t:TypeId}{off:Nat}{p:PD}(hp:mC P t ds off=some p)(w:World) :
  ∃v,(part t cs.toArray off).run P w=.ok v w/\VR c v p:=by
 unfold mC at hp;split at hp
 .rename_i n ha hs;split at hp
  .simp at hp;subst hp;refine⟨.agg ((cs.drop off).take n).toArray,?_,?_⟩
   .simp[part,aAx ha,lE hs,List.extract_toArray,List.extract_eq_take_drop]
   .have h2:=h.take_drop off n;exact .agg _ _ h2.1 (λv hv=>h1 v (yBN (yAy hv))) h2.2
  .simp at hp
 .rename_i n ha hs;obtain⟨v,hv,hr⟩:=h.get hp;exact⟨v,by simp[part,aAx ha,hv],hr⟩
 .simp at hp
end
section
theorem aIt(l:List UInt8):(ByteArray.mk l.toArray).toList=l:=by rw[ByteArray.toList_eq]
theorem aIs{op:BinOp}{k:IntKind}{x y z:Int}(h:LX op k x y=some z)(P:Program)(w:World):(Op.intBits op k x y).run P w=.ok (.int k z) w:=by
 cases op<;>simp only[LX,yAb,reduceCtorEq]at h<;>subst h<;>rfl
theorem aQp{op:BinOp}{k:IntKind}{x y:Int}{p:PD}(h:fQ op k x y=some p)(hs:op≠.shl/\op≠.shr)(c:Cx)(P:Program)(t:TypeId)(w:World) :
  ∃v,(binOp op t (.int k x) (.int k y)).run P w=.ok v w/\VR c v p:=by
 cases op<;>simp only[fQ]at h<;>first
  |(simp at hs;done)
  |(simp at h;subst h;refine⟨_,?_,VR.int _ _⟩;simp[binOp,Op.intArith];done)
  |(simp at h;subst h;refine⟨_,?_,VR.bool _⟩;simp[binOp,Op.intCmp];done)
  |(split at h
    .exact ah
    .rename_i h0;simp at h;subst h;refine⟨_,?_,VR.int _ _⟩;simp[binOp,Op.intDiv,h0])
  |(split at h
    .rename_i z hz;simp at h;subst h;refine⟨_,?_,VR.int _ _⟩;simp only[binOp,ne_eq,yBt,yAN];exact aIs hz P w
    .simp at h)
theorem aIp{op:BinOp}{k k':IntKind}{x y:Int}{p:PD}(h:VK op k x y=some p)(hs:op=.shl\/op=.shr)(c:Cx)(P:Program)(t:TypeId)(w:World) :
  ∃v,(binOp op t (.int k x) (.int k' y)).run P w=.ok v w/\VR c v p:=by
 unfold VK at h;split at h
 .exact ah
 .rename_i h0;rcases hs with rfl|rfl<;>simp at h<;>subst h<;>refine⟨_,?_,VR.int _ _⟩<;>simp[binOp,Op.shift,h0]
theorem aQr(a b:List UInt8):(ByteArray.mk a.toArray)++(ByteArray.mk b.toArray)=ByteArray.mk (a++b).toArray:=by
 apply ByteArray.ext;simp
theorem aAy(a:List UInt8):(ByteArray.mk a.toArray).size=a.length:=zd
theorem aQq{op:BinOp}{x y:Bx}{p:PD}(h:VJ op x y=some p)(c:Cx)(P:Program)(t:TypeId)(w:World) :
  ∃v,(binOp op t (.string ⟨x.toArray⟩) (.string ⟨y.toArray⟩)).run P w=.ok v w/\VR c v p:=by
 cases op<;>simp only[VJ]at h<;>first
  |(simp at h;done)
  |(split at h
    .rename_i hl;simp at h;subst h;refine⟨_,?_,VR.str _⟩;have:¬((((ByteArray.mk x.toArray).size+(ByteArray.mk y.toArray).size:Nat):Int) > IntKind.i64.max):=by
      rw[aAy,aAy];simp only[maxLen]at hl;simp[IntKind.max,IntKind.signed,IntKind.bits];omega
     simp only[binOp,Op.stringOp,yAI this,yAY,aQr]
    .simp at h)
  |(simp at h;subst h;refine⟨_,?_,VR.bool _⟩;simp[binOp,Op.stringOp])
section eq
variable{P:Program}{c:Cx}
theorem aDB{eq:TypeId->PD->PD->Option Bool}{d:Nat}
  (ih:∀t x y b vx vy (w:World),eq t x y=some b->VR c vx x->VR c vy y->(Op.equalIn d t vx vy).run P w=.ok b w)
  {xs ys:Bz} {px py:Bw} (hx:aJ c xs px) (hx1:∀v∈xs,v.oneCell'=true) (hy:aJ c ys py) (hy1:∀v∈ys,v.oneCell'=true) (w:World) :
  ∀(fs:List Field) (b:Bool),J2 eq P px py fs=some b->(Op.eqFields d xs.toArray ys.toArray fs).run P w=.ok b w
 | [],b,h=>by simp[J2]at h;subst h;rfl
 |f::fs,b,h=>by
  unfold J2 at h;unfold Op.eqFields;split at h
  .rename_i hn;rw[yAI Bf];exact aDB ih hx hx1 hy hy1 w fs b h
  .rename_i hn;rw[yAJ Bf];split at h
   .rename_i a b' ha hb;obtain⟨va,ra,qa⟩:=RT hx hx1 ha w;obtain⟨vb,rb,qb⟩:=RT hy hy1 hb w;split at h
    .rename_i he;have:=ih _ _ _ _ va vb w he qa qb;simp only[yAV,ra,rb,this,yAX];simpa using aDB ih hx hx1 hy hy1 w fs b h
    .rename_i he;simp at h;subst h;have:=ih _ _ _ _ va vb w he qa qb;simp[ra,rb,this]
    .exact ah
   .exact ah
theorem aIu{e:TypeId}{eq:PD->PD->Option Bool}{d n:Nat}(hn:bS P e=some n)
  (ih:∀x y b vx vy (w:World),eq x y=some b->VR c vx x->VR c vy y->(Op.equalIn d e vx vy).run P w=.ok b w)
  {xs ys:Bz} {px py:Bw} (hx:aJ c xs px) (hx1:∀v∈xs,v.oneCell'=true) (hy:aJ c ys py) (hy1:∀v∈ys,v.oneCell'=true) (w:World) :
  ∀(m i:Nat) (b:Bool),LS eq P e n px py i m=some b ->
   (forIn (m:=Sem) (List.range' i m) (none,PUnit.unit) (fun(i:Nat) (_:Option Bool×PUnit)=>do
    if !(<-Op.equalIn d e (<-part e xs.toArray (i*n)) (<-part e ys.toArray (i*n)))then
     pure (ForInStep.done (some false,PUnit.unit))
    else do
     pure PUnit.unit
     pure (ForInStep.yield (none,PUnit.unit)))).run P w=.ok (if b then none else some false,PUnit.unit) w
 |0,i,b,h=>by simp[LS]at h;subst h;rfl
 |m+1,i,b,h=>by
  unfold LS at h;split at h
  .rename_i a b' ha hb;obtain⟨va,ra,qa⟩:=RT hx hx1 ha w;obtain⟨vb,rb,qb⟩:=RT hy hy1 hb w;split at h
   .rename_i he;have:=ih _ _ _ va vb w he qa qb;rw[yCy];have r:=aIu hn ih hx hx1 hy hy1 w m (i+1) b h;simp only[List.forIn_cons,yAV,ra,rb,this,yAX,yBw,yAx,yAN,yAY];exact r
   .rename_i he;simp at h;subst h;have:=ih _ _ _ va vb w he qa qb;rw[yCy];simp[ra,rb,this]
   .exact ah
  .exact ah
theorem aAz:∀(d k:Nat) (t:TypeId) (x y:PD) (b:Bool) (vx vy:Value) (w:World),lC P d t x y=some b->VR c vx x->VR c vy y ->
  (Op.equalIn (d+k) t vx vy).run P w=.ok b w
 |0,_,_,_,_,_,_,_,_,h,_,_=>by simp[lC]at h
 |d+1,k,t,x,y,b,vx,vy,w,h,hx,hy=>by
  rw[show d+1+k=(d+k)+1 by omega];unfold lC at h;split at h
  .rename_i hu;split at h<;>simp at h
   subst h;rw[hx.L1,hy.L1];exact run_equalIn_bool' w _ t _ _ hu
  .rename_i kk hu;split at h<;>simp at h
   obtain⟨rfl,rfl⟩:=h;rw[hx.oP,hy.oP];exact run_equalIn_int w _ t _ kk _ _ hu
  .rename_i hu;split at h<;>simp at h
   subst h;rw[hx.rH,hy.rH,run_equalIn_string w _ t _ _ hu,aIt,aIt]
  .rename_i e hu;split at h<;>simp at h<;>subst h
   .rw[hx.OI,hy.OI];simp[Op.equalIn,yAO hu]
   .obtain⟨b,e2,_⟩:=hy.vQ;rw[hx.OI,e2];simp[Op.equalIn,yAO hu]
   .obtain⟨ad,fl,e2,_⟩:=hy.RS;rw[hx.OI,e2];simp[Op.equalIn,yAO hu]
   .obtain⟨b,e2,_⟩:=hx.vQ;rw[hy.OI,e2];simp[Op.equalIn,yAO hu]
   .obtain⟨ad,fl,e2,_⟩:=hx.RS;rw[hy.OI,e2];simp[Op.equalIn,yAO hu]
  .rename_i hu;split at h<;>simp at h<;>subst h
   .rw[hx.aAA,hy.aAA];simp[Op.equalIn,yAO hu]
   .obtain⟨_,e2,_⟩:=hy.RA;rw[hx.aAA,e2];simp[Op.equalIn,yAO hu]
   .obtain⟨_,e2,_⟩:=hx.RA;rw[hy.aAA,e2];simp[Op.equalIn,yAO hu]
  .rename_i fs hu;split at h
   .rename_i px py;split at h
    .exact ah
    .rename_i hst;obtain⟨xs,rfl,hxs,hx1⟩:=hx.KJ;obtain⟨ys,rfl,hys,hy1⟩:=hy.KJ;have hfo:P.fieldsOf t=fs:=by simp[Program.fieldsOf,hu]
     rw[run_equalIn_struct w _ t _ _ (by rw[hfo];exact hu) (by simpa using hst),hfo];exact aDB (λt x y b vx vy w h hx hy=>aAz d k t x y b vx vy w h hx hy) hxs hx1 hys hy1 w fs.toList b h
   .exact ah
  .rename_i len e hu;split at h
   .rename_i px py;split at h
    .rename_i n hn;obtain⟨xs,rfl,hxs,hx1⟩:=hx.KJ;obtain⟨ys,rfl,hys,hy1⟩:=hy.KJ;have r:=aIu (P:=P) (d:=d+k) hn (λx y b vx vy w h hx hy=>aAz d k e x y b vx vy w h hx hy) hxs hx1 hys hy1 w len 0 b h;simp only[Op.equalIn,yAV,yAO hu,lE hn,yAX];rw[Std.Legacy.Range.forIn_eq_forIn_range'];simp only[Std.Legacy.Range.size];rw[show(len-0+1-1)/1=len by simp];refine Eq.trans (yAP (λz=>Result.andThen z _) r) ?_;cases b<;>rfl
    .exact ah
   .exact ah
  .exact ah
end eq
end
section
section
variable{P:Program}{c:Cx}
theorem aIm{d:Nat}{t:TypeId}{x y:PD}{b:Bool}(h:lC P d t x y=some b):(∀v,x≠.bL v)/\∀v,y≠.bL v:=by
 cases d with
 |zero=>cases h
 |succ d=>
  unfold lC at h
  constructor
  .rintro v rfl
   split at h<;>cases h
  .rintro v rfl
   split at h<;>(first|(cases h;done)|(split at h<;>first|(cases h;done)|(rename_i h' ;cases h';done)|contradiction))
theorem aIn{t:TypeId}{x y:PD}{b:Bool}(h:rF P t x y=some b):(∀v,x≠.bL v)/\∀v,y≠.bL v:=by
 unfold rF at h;split at h
 .exact⟨λv e=>xx,λv e=>xx⟩
 .exact aIm h
theorem aIo{t:TypeId}{x y:PD}{b:Bool}(h:rF P t x y=some b){vx vy:Value}(hx:VR c vx x)(hy:VR c vy y)(w:World)(op:BinOp)(ox oy:Operand) :
  (Op.equal t vx vy).run P w=.ok b w/\(eqGuard op t ox oy vx vy).run P w=.ok () w:=by
 unfold rF at h;split at h
 .rename_i px py;split at h
  .exact ah
  .rename_i hg;refine⟨aAz 12 9988 t _ _ b vx vy w h hx hy,?_⟩;obtain⟨xs,rfl,_⟩:=hx.KJ;obtain⟨ys,rfl,_⟩:=hy.KJ;exact run_eqGuard_agg w op t ox oy _ _ (by simpa using hg)
 .rename_i hne;refine⟨aAz 12 9988 t _ _ b vx vy w h hx hy,?_⟩;obtain⟨q1,q2⟩:=aIm h;cases hx<;>cases hy<;>first
   |exact(hne _ _ rfl rfl).elim
   |exact absurd rfl (q1 _)
   |exact absurd rfl (q2 _)
   |(cases op<;>rfl)
theorem aQd{op:BinOp}{t:TypeId}{x y p:PD}(h:dZ P op t x y=some p){vx vy:Value}(hx:VR c vx x)(hy:VR c vy y)(w:World)(ox oy:Operand) :
  ∃v,(do eqGuard op t ox oy vx vy;binOp op t vx vy:Sem Value).run P w=.ok v w/\VR c v p:=by
 unfold dZ at h;split at h
 .rename_i k a k' b;have e1:=hx.oP;have e2:=hy.oP;subst e1;subst e2;have hg:(eqGuard op t ox oy (.int k a) (.int k' b)).run P w=.ok () w:=by cases op<;>rfl
  split at h
  .obtain⟨v,r,q⟩:=aIp (k':=k') h (.inl rfl) c P t w;exact oe
  .obtain⟨v,r,q⟩:=aIp (k':=k') h (.inr rfl) c P t w;exact oe
  .rename_i n1 n2;split at h
   .rename_i hk;subst hk;obtain⟨v,r,q⟩:=aQp h ⟨by rintro rfl;exact n1 rfl,by rintro rfl;exact n2 rfl⟩ c P t w;exact oe
   .exact ah
 .rename_i a b;have e1:=hx.rH;have e2:=hy.rH;subst e1;subst e2;have hg:(eqGuard op t ox oy (.string ⟨a.toArray⟩) (.string ⟨b.toArray⟩)).run P w=.ok () w:=by cases op<;>rfl
  obtain⟨v,r,q⟩:=aQq h c P t w;exact oe
 .rename_i n1 n2;split at h
  .split at h
   .rename_i b hb;simp at h;subst h;obtain⟨r1,r2⟩:=aIo hb hx hy w .eql ox oy;refine⟨.bool b,?_,.bool b⟩;simp only[yAV,r2,yAX];have:(binOp .eql t vx vy)=(do pure (.bool (<-Op.equal t vx vy)):Sem Value):=by
     exact fm
    rw[this];simp[r1]
   .exact ah
  .split at h
   .rename_i b hb;simp at h;subst h;obtain⟨r1,r2⟩:=aIo hb hx hy w .neq ox oy;refine⟨.bool (!b),?_,.bool _⟩;simp only[yAV,r2,yAX];have:(binOp .neq t vx vy)=(do pure (.bool (!(<-Op.equal t vx vy))):Sem Value):=by
     exact fm
    rw[this];simp[r1]
   .exact ah
  .exact ah
theorem aIq{v:Value}{a:PD}{b:Bool}(hv:VR c v a)(h:EM a=some b):∃A n cap,v=.slice A n cap/\b=A.isNone:=by
 unfold EM at h;split at h
 .rename_i n xs tok;obtain⟨A,cap,fl,rfl,h1,h2,h3,h4,h5,h6,h7,h8⟩:=hv.nW;refine⟨A,xs.length,cap,rfl,?_⟩;split at h
  .rename_i hc;simp only[yAb]at h;subst h;have:0<fl.length:=by rw[h4];exact yCW (yCu hc.1) (yCu hc.2)
   obtain⟨ad,rfl,_⟩:=h6 0 fl[0] (by simp[this]);rfl
  .split at h
   .simp only[yAb]at h;subst h;obtain⟨e,_⟩:=h8;exact qe
   .simp only[yAb]at h;subst h;obtain⟨k,m,e⟩:=h8;exact qe
   .simp only[yAb]at h;subst h;obtain⟨a',k,m,e⟩:=h8;exact qe
   .cases h
 .obtain⟨b,cap,rfl,_⟩:=hv.KF;simp only[yAb]at h;subst h;exact⟨_,_,_,rfl,rfl⟩
 .obtain⟨b,cap,rfl,_⟩:=hv.MA;simp only[yAb]at h;subst h;exact⟨_,_,_,rfl,rfl⟩
 .cases h
theorem aIr{t e:TypeId}(hu:P.underlying t=some (.slice e))(A:Option Addr)(n cap:Nat)(w:World):(Op.equal t (.slice A n cap) (.slice none 0 0)).run P w=.ok A.isNone w:=by
 show(Op.equalIn (9999+1) t (.slice A n cap) (.slice none 0 0)).run P w=_
 unfold Op.equalIn;cases A<;>simp[yAO hu]
theorem aQe{op:BinOp}{t:TypeId}{a p:PD}{y:Operand}(h:Q1 P op t a y=some p){ac:Act}{vx:Value}(hx:VR c vx a)(w:World)(ox:Operand) :
  ∃v,(do eqGuard op t ox y vx (ac.eval y);binOp op t vx (ac.eval y):Sem Value).run P w=.ok v w/\VR c v p:=by
 unfold Q1 at h;split at h
 .split at h
  .rename_i e hu;split at h
   .rename_i b hb;simp only[yAb]at h;subst h;obtain⟨A,n,cap,rfl,rfl⟩:=aIq hx hb;refine⟨.bool A.isNone,?_,.bool _⟩;have hg:(eqGuard .eql t ox (.const (.slice none 0 0)) (.slice A n cap) (.slice none 0 0)).run P w=.ok () w:=rfl;have hb:(binOp .eql t (.slice A n cap) (.slice none 0 0))=(do pure (.bool (<-Op.equal t (.slice A n cap) (.slice none 0 0))):Sem Value):=rfl;simp only[Act.eval,yAV,hg,hb,yAX,aIr hu,yAY]
   .rename_i b hb;simp only[yAb]at h;subst h;obtain⟨A,n,cap,rfl,rfl⟩:=aIq hx hb;refine⟨.bool (!A.isNone),?_,.bool _⟩;have hg:(eqGuard .neq t ox (.const (.slice none 0 0)) (.slice A n cap) (.slice none 0 0)).run P w=.ok () w:=rfl;have hb:(binOp .neq t (.slice A n cap) (.slice none 0 0))=(do pure (.bool (!(<-Op.equal t (.slice A n cap) (.slice none 0 0)))):Sem Value):=rfl;simp only[Act.eval,yAV,hg,hb,yAX,aIr hu,yAY]
   .cases h
  .cases h
 .split at h
  .rename_i mm hu;have r1:∀(tx:TypeId) (u:Value),(Op.equal t (.iface tx u) .nilIface).run P w=.ok false w:=λtx u=>by
    show(Op.equalIn (9999+1) t (.iface tx u) .nilIface).run P w=_
    unfold Op.equalIn;simp[yAO hu]
   have r2:(Op.equal t .nilIface .nilIface).run P w=.ok true w:=by
    show(Op.equalIn (9999+1) t .nilIface .nilIface).run P w=_
    unfold Op.equalIn;simp[yAO hu]
   split at h
   .rename_i tx q;simp only[yAb]at h;subst h;obtain⟨u,rfl,_⟩:=hx.aDy;have hg:(eqGuard .eql t ox (.const .nilIface) (.iface tx u) .nilIface).run P w=.ok () w:=rfl;have hb:(binOp .eql t (.iface tx u) .nilIface)=(do pure (.bool (<-Op.equal t (.iface tx u) .nilIface)):Sem Value):=rfl;refine⟨.bool false,?_,.bool _⟩;simp only[Act.eval,yAV,hg,hb,yAX,r1,yAY]
   .rename_i tx q;simp only[yAb]at h;subst h;obtain⟨u,rfl,_⟩:=hx.aDy;have hg:(eqGuard .neq t ox (.const .nilIface) (.iface tx u) .nilIface).run P w=.ok () w:=rfl;have hb:(binOp .neq t (.iface tx u) .nilIface)=(do pure (.bool (!(<-Op.equal t (.iface tx u) .nilIface))):Sem Value):=rfl;refine⟨.bool true,?_,.bool _⟩;simp only[Act.eval,yAV,hg,hb,yAX,r1,yAY,yBR]
   .simp only[yAb]at h;subst h;have hv:vx=.nilIface:=by cases hx;rfl
    subst hv;have hg:(eqGuard .eql t ox (.const .nilIface) .nilIface .nilIface).run P w=.ok () w:=by
     simp only[eqGuard];cases ox<;>rfl
    have hb:(binOp .eql t .nilIface .nilIface)=(do pure (.bool (<-Op.equal t .nilIface .nilIface)):Sem Value):=rfl;refine⟨.bool true,?_,.bool _⟩;simp only[Act.eval,yAV,hg,hb,yAX,r2,yAY]
   .simp only[yAb]at h;subst h;have hv:vx=.nilIface:=by cases hx;rfl
    subst hv;have hg:(eqGuard .neq t ox (.const .nilIface) .nilIface .nilIface).run P w=.ok () w:=by
     simp only[eqGuard];cases ox<;>rfl
    have hb:(binOp .neq t .nilIface .nilIface)=(do pure (.bool (!(<-Op.equal t .nilIface .nilIface))):Sem Value):=rfl;refine⟨.bool false,?_,.bool _⟩;simp only[Act.eval,yAV,hg,hb,yAX,r2,yAY,yBw]
   .cases h
  .cases h
 .cases h
theorem aQf{op:UnOp}{x p:PD}(h:QY op x=some p){vx:Value}(hx:VR c vx x)(w:World):∃v,(Op.unary op vx).run P w=.ok v w/\VR c v p:=by
 unfold QY at h;split at h
 .simp only[yAb]at h;subst h;rw[hx.oP];exact⟨_,rfl,.int _ _⟩
 .rw[hx.oP];split at h
  .rename_i z hz;simp at h;subst h;exact⟨_,aIs hz P w,.int _ _⟩
  .exact ah
 .simp at h;subst h;rw[hx.L1];exact⟨_,rfl,.bool _⟩
 .exact ah
theorem aQg{s d:TypeId}{x p:PD}(h:VG P s d x=some p){vx:Value}(hx:VR c vx x)(w:World):∃v,(convert s d vx).run P w=.ok v w/\VR c v p:=by
 unfold VG at h;split at h
 .rename_i hs hd;simp at h;subst h;rw[hx.oP];exact⟨_,by simp[convert,yAO hs,yAO hd,Conv.intToInt],.int _ _⟩
 .rename_i hs hd;simp at h;subst h;rw[hx.rH];exact⟨_,by simp[convert,yAO hs,yAO hd],.str _⟩
 .exact ah
theorem N9{x:PD}{i:Nat}(h:fZ (some x)=some i){v:Value}(hx:VR c v x):∃k z,v=.int k z/\0<=z/\z.toNat=i:=by
 unfold fZ at h;split at h
 .rename_i k z e;simp at e;subst e;split at h
  .simp at h;exact⟨k,z,hx.oP,‹_›,h⟩
  .exact ah
 .exact ah
theorem NN(a:Addr)(i j:Nat):(a.add i).add j=a.add (i+j):=by
 unfold Addr.add
 by_cases hi:i=0<;>by_cases hj:j=0<;>simp[hi,hj,yCm]
theorem aDA{s:TypeId}{fs:Array Field}{fd:Field}{f n:Nat}(hu:P.underlying s=some (.struct fs))(hf:fs[f]?=some fd)(hn:bS P fd.type=some n)(h0:n≠0)(a:Addr)(w:World) :
  (Instr.fieldAt s (.pointer (some a)) f).run P w=.ok (.pointer (some (a.add fd.offset))) w:=by
 simp[Instr.fieldAt,yAO hu,hf,Instr.sureAddr,fieldPlace,lE hn,h0]
theorem aQi{s:TypeId}{x p:PD}{f:Nat}(h:LU P s x f=some p){vx:Value}(hx:VR c vx x)(w:World):∃v,(Instr.fieldAt s vx f).run P w=.ok v w/\VR c v p:=by
 unfold LU at h;split at h
 .rename_i fs hu;split at h
  .rename_i fd hf;split at h
   .rename_i n hn;split at h
    .exact ah
    .rename_i h0;split at h
     .rename_i id off;simp at h;subst h;obtain⟨b,rfl,h1,h2,h3⟩:=hx.vQ;refine⟨_,aDA hu hf hn h0 _ w,?_⟩;have:(⟨b,off,none⟩:Addr).add fd.offset=⟨b,off+fd.offset,none⟩:=xq;rw[this];exact .ptr _ _ b h1 h2 h3
     .rename_i cs off;simp at h;subst h;obtain⟨ad,fl,rfl,h1,h2,h3⟩:=hx.RS;refine⟨_,aDA hu hf hn h0 _ w,?_⟩;rw[NN];exact .cP ad fl cs _ h1.1 h2 h3 h1.2
     .rename_i id ver off;simp at h;subst h;obtain⟨b,rfl,h1⟩:=hx.RH;refine⟨_,aDA hu hf hn h0 _ w,?_⟩;have:(⟨b,off,none⟩:Addr).add fd.offset=⟨b,off+fd.offset,none⟩:=xq;rw[this];exact .gO _ _ _ b h1
     .exact ah
   .exact ah
  .exact ah
 .exact ah
theorem aQj{t:TypeId}{x p:PD}{f:Nat}(h:QZ P t x f=some p){vx:Value}(hx:VR c vx x)(w:World):∃v,(Instr.field t vx f).run P w=.ok v w/\VR c v p:=by
 unfold QZ at h;split at h
 .rename_i fs ds hu;split at h
  .rename_i fd hf;obtain⟨cs,rfl,h1,h2⟩:=hx.KJ;obtain⟨v,r,q⟩:=RT h1 h2 h w;exact⟨v,by simp[Instr.field,yAO hu,hf,asAgg,r],q⟩
  .exact ah
 .exact ah
theorem aDq(size:Nat):∀(xs:List PD),(∀x∈xs,x.cells.length=size)->∀(i:Nat) (p:PD),xs[i]?=some p->∀j,j<size->(xs.flatMap PD.cells)[i*size+j]?=p.cells[j]?
 | [],_,i,p,h,_,_=>yp
 |x::xs,hx,0,p,h,j,hj=>by
  simp at h;subst h;have:=hx x wz;simp[yBg,yDa,this,hj]
 |x::xs,hx,i+1,p,h,j,hj=>by
  have hl:=hx x wz;have r:=aDq size xs (λy hy=>hx y Aw) i p yf j hj;rw[yBg,yCp (by rw[hl,yBl];omega),hl];rw[show(i+1)*size+j-size=i*size+j by rw[yBl];omega];exact r
theorem aQk{t:TypeId}{x i p:PD}(h:NP P t x i=some p){vx vi:Value}(hx:VR c vx x)(hi:VR c vi i)(w:World):∃v,(Instr.indexAt t vx vi).run P w=.ok v w/\VR c v p:=by
 unfold NP at h;split at h
 .rename_i m len e hm hu;obtain⟨k,z,rfl,h0,rfl⟩:=N9 hm hi;split at h
  .rename_i n hn;split at h
   .rename_i hlt;split at h
    .rename_i id off;simp at h;subst h;obtain⟨b,rfl,h1,h2,h3⟩:=hx.vQ;refine⟨.pointer (some ⟨b,off+z.toNat*n,none⟩),?_,.ptr _ _ b h1 h2 h3⟩;exact dz
    .rename_i cs off;simp at h;subst h;obtain⟨ad,fl,rfl,h1,h2,h3⟩:=hx.RS;have hz:z<(len:Int):=xb;refine⟨.pointer (some (ad.add (off+z.toNat*n))),?_,.cP ad fl cs _ h1.1 h2 h3 h1.2⟩;simp[Instr.indexAt,asIntOf,yAO hu,Instr.sureAddr,h0,hz,lE hn,NN]
    .rename_i id ver off;simp at h;subst h;obtain⟨b,rfl,h1⟩:=hx.RH;refine⟨.pointer (some ⟨b,off+z.toNat*n,none⟩),?_,.gO _ _ _ b h1⟩;exact dz
    .exact ah
   .exact ah
  .exact ah
 .rename_i m e hm hu;obtain⟨k,z,rfl,h0,rfl⟩:=N9 hm hi;split at h
  .rename_i size xs tok n hn;split at h
   .rename_i hsz;obtain⟨hsz,hn0⟩:=hsz;split at h
    .rename_i q hq;simp at h;subst h;have hsz:n=size:=hsz.resolve_left (λe=>by rw[yAf e]at hq;simp at hq);subst hsz;obtain⟨A,cap,fl,rfl,h1,h2,h3,h4,h5,h6,h7,h8⟩:=hx.nW;have hlt:z.toNat<xs.length:=(yA.1 hq).1;have hz:z<(xs.length:Int):=xb;have hql:=h3 q (yAE hq);have hin:z.toNat*n<fl.length:=by
      rw[h4];exact Nat.mul_lt_mul_of_pos_right hlt hn0
     obtain⟨ad,rfl,_,_⟩:=h6 (z.toNat*n) fl[z.toNat*n] (by simp[hin]);refine⟨.pointer (some ((ad.add (z.toNat*n)).add 0)),?_,?_⟩
     .simp[Instr.indexAt,asIntOf,yAO hu,h0,hz,lE hn,Addr.add]
     .have hle:z.toNat*n+n<=fl.length:=by
       rw[h4,<-yCw];exact yBO _ hlt
      refine .cP (ad.add (z.toNat*n)) ((fl.drop (z.toNat*n)).take n) q.cells 0 (by simp[hql];omega) (λv hv=>h5 v (yBN (yAy hv))) ?_ ?_
      .intro j v hv;rw[yAv]at hv;split at hv
       .rw[yBC]at hv;obtain⟨V2,e',h9,h10⟩:=h6 _ v hv;cases e';rw[NN];exact⟨h9,h10⟩
       .simp at hv
      .intro j v d hv hd;rw[yAv]at hv;split at hv
       .rename_i hj;rw[yBC]at hv;exact h7 _ v d hv (by rw[aDq n xs h3 _ _ hq j hj];exact hd)
       .simp at hv
    .exact ah
   .exact ah
  .rename_i id off m' size n hn;split at h
   .rename_i hc;obtain⟨rfl,hlt⟩:=hc;simp at h;subst h;obtain⟨b,cap,rfl,h1,h2,h3,_,_⟩:=hx.KF;refine⟨.pointer (some ⟨b,off+z.toNat*n,none⟩),?_,.ptr _ _ b h1 h2 h3⟩;exact eu
   .exact ah
  .rename_i id ver off m' size n hn;split at h
   .rename_i hc;obtain⟨rfl,hlt⟩:=hc;simp at h;subst h;obtain⟨b,cap,rfl,h1,_,_⟩:=hx.MA;refine⟨.pointer (some ⟨b,off+z.toNat*n,none⟩),?_,.gO _ _ _ b ⟨h1.1,λe sz v' cs hs=>⟨(h1.2 e sz v' cs hs).1,λhv=>by
     obtain⟨_,C,hr,_⟩:=(h1.2 e sz v' cs hs).2 hv;exact⟨C,hr⟩⟩⟩⟩
    exact eu
   .exact ah
  .exact ah
 .exact ah
end
end
section
theorem aH3(s:List UInt8)(l h:Nat):(ByteArray.mk s.toArray).extract l h=⟨((s.drop l).take (h-l)).toArray⟩:=by
 apply ByteArray.ext;simp[ByteArray.data_extract,List.extract_toArray,List.extract_eq_take_drop]
theorem OB{size:Nat}:∀(xs:List PD),(∀x∈xs,x.cells.length=size)->(xs.flatMap PD.cells).length=xs.length*size
 | [],_=>wz
 |x::xs,h=>by
  rw[yBg,yAa,h x wz,OB xs (λy hy=>h y Aw),yAK,yBl];omega
theorem aIj{size:Nat}:∀(xs:List PD) (l:Nat),(∀x∈xs,x.cells.length=size)->(xs.drop l).flatMap PD.cells=(xs.flatMap PD.cells).drop (l*size)
 |xs,0,_=>wz
 | [],l+1,_=>wz
 |x::xs,l+1,h=>by
  have hx:=h x wz;have e1:x.cells.drop ((l+1)*size)=[]:=yAs (by rw[hx,yBl];omega);have e2:(l+1)*size-size=l*size:=by rw[yBl];omega
  rw[List.drop_succ_cons,aIj xs l (λy hy=>h y Aw),yBg,List.drop_append,hx,e1,e2,yAQ]
theorem aDn{size:Nat}:∀(xs:List PD) (k:Nat),(∀x∈xs,x.cells.length=size)->(xs.take k).flatMap PD.cells=(xs.flatMap PD.cells).take (k*size)
 |xs,0,_=>wz
 | [],k+1,_=>wz
 |x::xs,k+1,h=>by
  have hx:=h x wz;have e1:x.cells.take ((k+1)*size)=x.cells:=yAz (by rw[hx,yBl];omega);have e2:(k+1)*size-size=k*size:=by rw[yBl];omega
  rw[yCO,yBg,aDn xs k (λy hy=>h y Aw),yBg,List.take_append,hx,e1,e2]
section
variable{P:Program}{c:Cx}
theorem aQl{t:TypeId}{x i p:PD}(h:J5 P t x i=some p){vx vi:Value}(hx:VR c vx x)(hi:VR c vi i)(w:World):∃v,(Instr.index t vx vi).run P w=.ok v w/\VR c v p:=by
 unfold J5 at h;split at h
 .rename_i m len e ds hm hu;obtain⟨k,z,rfl,h0,rfl⟩:=N9 hm hi;split at h
  .rename_i n hn;split at h
   .rename_i hlt;obtain⟨cs,rfl,h1,h2⟩:=hx.KJ;obtain⟨v,r,q⟩:=RT h1 h2 h w;have hz:z<(len:Int):=xb;exact⟨v,by simp[Instr.index,asIntOf,yAO hu,h0,hz,lE hn,r],q⟩
   .exact ah
  .exact ah
 .rename_i m s hm hu;obtain⟨k,z,rfl,h0,rfl⟩:=N9 hm hi;split at h
  .rename_i b hb;simp only[yAb]at h;subst h;rw[hx.rH];refine⟨.int .u8 b.toNat,?_,.int _ _⟩;have hlt:z.toNat<s.length:=(yA.1 hb).1;have:(ByteArray.mk s.toArray)[z.toNat]?=some b:=by
    rw[getElem?_pos _ _ (by simpa [ByteArray.size]using hlt)];have hg:s[z.toNat]=b:=(yA.1 hb).2;simp only[ByteArray.getElem_eq_getElem_data,yAb];simpa using hg
   simp[Instr.index,asIntOf,yAO hu,h0,this]
  .exact ah
 .exact ah
theorem RU{a:Act}{fr:Bw}(hf:FR c a fr){x:Operand}{m:Nat}(h:fZ (aT fr x)=some m):∃k z,a.eval x=.int k z/\0<=z/\z.toNat=m:=by
 cases he:aT fr x with
 |none=>simp[he,fZ]at h
 |some p=>
  rw[he]at h;exact N9 h (cL hf he)
theorem WD{a:Act}{fr:Bw}(hf:FR c a fr){n cap l h:Nat}{lo hi:Option Operand}(hb:mU n (lo.map (aT fr)) (hi.map (aT fr))=some (l,h))(hc:n<=cap)(isS:Bool)(w:World) :
  l<=h/\h<=n/\(Instr.sliceBounds isS n cap (lo.map a.eval) (hi.map a.eval) none).run P w=.ok (l,h,cap) w:=by
 unfold mU at hb;split at hb
 .rename_i h' l' h1 h2;split at hb
  .rename_i hle;simp only[yAb,yAc]at hb;obtain⟨rfl,rfl⟩:=hb;refine⟨hle.1,hle.2,?_⟩;cases hi with
   |none=>
    simp at h1;subst h1;cases lo with
    |none=>simp at h2;subst h2;simp[Instr.sliceBounds]
    |some lo=>
     obtain⟨k,z,e,h0,rfl⟩:=RU hf Aj;have hz:z<=(n:Int):=xb;simp[Instr.sliceBounds,e,yCg (P:=P) (w:=w) k z _ _ h0 hz]
   |some hi=>
    obtain⟨k',z',e',h0',rfl⟩:=RU hf yb;have OH:z'<=(cap:Int):=xb;cases lo with
    |none=>simp at h2;subst h2;simp[Instr.sliceBounds,e',yCg (P:=P) (w:=w) k' z' _ _ h0' OH]
    |some lo=>
     obtain⟨k,z,e,h0,rfl⟩:=RU hf Aj;have hz:z<=(z'.toNat:Int):=xb;simp[Instr.sliceBounds,e,e',yCg (P:=P) (w:=w) k' z' _ _ h0' OH,yCg (P:=P) (w:=w) k z _ _ h0 hz]
  .simp at hb
 .simp at hb
theorem aIk{a:Act}{fr:Bw}(hf:FR c a fr){n cap l h m:Nat}{lo:Option Operand}{hi mx:Operand}(hb:mU n (lo.map (aT fr)) ((some hi).map (aT fr))=some (l,h))(hm:fZ (aT fr mx)=some m)
  (h1:h<=m) (h2:m<=n) (hc:n<=cap) (isS:Bool) (w:World) :
  l<=h/\h<=n/\(Instr.sliceBounds isS n cap (lo.map a.eval) (some (a.eval hi)) (some (a.eval mx))).run P w=.ok (l,h,m) w:=by
 obtain⟨km,zm,em,hm0,rfl⟩:=RU hf hm;unfold mU at hb;split at hb
 .rename_i h' l' h3 h4;split at hb
  .rename_i hle;simp only[yAb,yAc]at hb;obtain⟨rfl,rfl⟩:=hb;refine⟨hle.1,hle.2,?_⟩;obtain⟨k',z',e',h0',rfl⟩:=RU hf zf;have hzm:zm<=(cap:Int):=xb;have OH:z'<=(zm.toNat:Int):=xb;cases lo with
   |none=>simp at h4;subst h4;simp[Instr.sliceBounds,e',em,yCg (P:=P) (w:=w) km zm _ _ hm0 hzm,yCg (P:=P) (w:=w) k' z' _ _ h0' OH]
   |some lo=>
    obtain⟨k,z,e,h0,rfl⟩:=RU hf (by simpa using h4);have fU:z<=(z'.toNat:Int):=xb;simp[Instr.sliceBounds,e,e',em,yCg (P:=P) (w:=w) km zm _ _ hm0 hzm,yCg (P:=P) (w:=w) k' z' _ _ h0' OH,yCg (P:=P) (w:=w) k z _ _ h0 fU]
  .simp at hb
 .simp at hb
theorem aIl{A:Option Addr}{cap size n l h m:Nat}{xs:Bw}{fl:Bz}{tok:Tok}(hn:xs.length=0\/n=size)(hlh:l<=h)(hhx:h<=xs.length)(hhm:h<=m)(hmc:m<=cap)(hcm:cap<=maxLen)
  (h3:∀x∈xs,x.cells.length=size) (h4:fl.length=xs.length*size) (h5:∀v∈fl,v.oneCell'=true)
  (h6:∀(j:Nat) (v:Value),fl[j]?=some v->∃ad,A=some ad/\c.w.cell? (ad.add j)=some v/\c.av (ad.add j))
  (h7:∀(j:Nat) (v:Value) (d:PD),fl[j]?=some v->(xs.flatMap PD.cells)[j]?=some d->VR c v d)
  (ht:pJ c size (h-l) (m-l) (.slice (if m=l then A else A.map (·.add (l*n))) (h-l) (m-l)) tok) :
  VR c (.slice (if m=l then A else A.map (·.add (l*n))) (h-l) (m-l)) (.slice size ((xs.drop l).take (h-l)) tok):=by
 have hxs:∀x∈(xs.drop l).take (h-l),x.cells.length=size:=λx hx=>h3 x (yBN (yAy hx))
 have hlen:((xs.drop l).take (h-l)).length=h-l:=xw;have hdl:∀x∈xs.drop l,x.cells.length=size:=λx hx=>h3 x (yBN hx)
 have hfl:((fl.drop (l*size)).take ((h-l)*size)).length=(h-l)*size:=by
  have:l*size+(h-l)*size<=fl.length:=by
   rw[h4,<-yBl];exact yBO _ xb
  simp;omega
 refine .slice _ _ _ size _ tok ((fl.drop (l*size)).take ((h-l)*size)) hlen.symm xb xb hxs hfl
  (λv hv=>h5 v (yBN (yAy hv))) ?_ ?_ ht
 .intro j v hv;have hj:j<(h-l)*size:=by rw[<-hfl];exact(yA.1 hv).1
  rw[yAv,yAJ hj,yBC]at hv;obtain⟨ad,rfl,h9,h10⟩:=h6 _ v hv;have hpos:0<h-l:=by
   rcases yDH (h-l)with e|e
   .rw[e]at hj;simp at hj
   .exact e
  have hne:¬m=l:=xb;have hns:n=size:=hn.resolve_left xb;subst hns;rw[yAI hne];exact⟨_,rfl,by rw[NN];exact h9,by rw[NN];exact h10⟩
 .intro j v d hv hd;have hj:j<(h-l)*size:=by rw[<-hfl];exact(yA.1 hv).1
  rw[yAv,yAJ hj,yBC]at hv;rw[aDn _ _ hdl,aIj _ _ h3,yAv,yAJ hj,yBC]at hd;exact h7 _ v d hv hd
theorem aQh{a:Act}{fr:Bw}(hf:FR c a fr){t:TypeId}{x p:PD}{lo hi mx:Option Operand}
  (h:J4 P t x (lo.map (aT fr)) (hi.map (aT fr)) (mx.map (aT fr))=some p) {vx:Value} (hx:VR c vx x) (w:World) :
  ∃v,(Instr.sliceAt t vx (lo.map a.eval) (hi.map a.eval) (mx.map a.eval)).run P w=.ok v w/\VR c v p:=by
 unfold J4 at h;split at h
 .rename_i s hu;split at h
  .exact ah
  .rename_i hmx;have KK:mx=none:=zj;subst KK;split at h
   .rename_i l hh hb;simp only[yAb]at h;subst h;rw[hx.rH];have hz:(ByteArray.mk s.toArray).size=s.length:=aAy s;obtain⟨h1,h2,h3⟩:=WD (P:=P) hf hb (yAk _) false w;refine⟨.string ⟨((s.drop l).take (hh-l)).toArray⟩,?_,.str _⟩;simp[Instr.sliceAt,Instr.slice,yAO hu,hz,h3,aH3]
   .exact ah
 .rename_i e size xs tok hu;split at h
  .rename_i n l hh hn hb;split at h
   .rename_i hsz;obtain⟨A,cap,fl,rfl,h1,h2,h3,h4,h5,h6,h7,h8⟩:=hx.nW;split at h
    ·
     rename_i hmx;have KK:mx=none:=zj;subst KK;simp only[yAb]at h;subst h;obtain⟨b1,b2,b3⟩:=WD (P:=P) hf hb h1 true w;refine⟨_,?_,aIl (n:=n) (m:=cap) hsz b1 b2 xb (yAk _) h2 h3 h4 h5 h6 h7 ?_⟩
     .exact nw
     .by_cases hhe:hh=xs.length
      .rw[yAJ hhe];cases tok with
       |any=>trivial
       |full=>simp only[pJ]at h8 ⊢;omega
       |nil=>trivial
       |HX=>trivial
       |HY=>trivial
       |own id=>
        by_cases hl0:l=0
        .subst hl0;simp only[↓reduceIte];have:(if cap=0 then A else A.map (·.add (0*n)))=A:=by
          split
          .rfl
          .cases A<;>simp[Addr.add]
         rw[this,hhe];simpa using h8
        .simp only[hl0,yAN];trivial
      .rw[yAI hhe];trivial
    .rename_i m hmx;split at h
     .rename_i hi0 m' hhi hm;split at h
      .rename_i hle;simp only[yAb]at h;subst h;cases mx with
       |none=>simp at hmx
       |some mx=>
        cases hi with
        |none=>simp at hhi
        |some hi=>
         simp at hmx;subst hmx;obtain⟨b1,b2,b3⟩:=aIk (P:=P) hf hb hm hle.1 hle.2 h1 true w;refine⟨_,?_,aIl (n:=n) (m:=m') hsz b1 b2 hle.1 xb h2 h3 h4 h5 h6 h7 ?_⟩
         .exact nw
         .by_cases hme:m'=hh
          .rw[yAJ hme];simp only[pJ];omega
          .rw[yAI hme];trivial
      .exact ah
     .exact ah
   .exact ah
  .exact ah
 .rename_i e id off m size hu;split at h
  .rename_i n l hh hn hb hmx;split at h
   .rename_i hc;obtain⟨rfl,hl⟩:=hc;simp only[yAb]at h;subst h;obtain⟨b,cap,rfl,hd,hp,hr,h1,h2⟩:=hx.KF;have KK:mx=none:=zj;subst KK;obtain⟨b1,b2,b3⟩:=WD (P:=P) hf hb h1 true w;refine⟨.slice (some ⟨b,off+l*n,none⟩) (hh-l) (cap-l),?_,.fR _ _ _ _ _ b hd hp hr xb xb⟩;exact bu
   .exact ah
  .exact ah
 .rename_i e id ver off m size hu;split at h
  .rename_i n l hh hn hb;split at h
   .rename_i hc;subst hc;obtain⟨b,cap,rfl,hp,h1,h2⟩:=hx.MA;split at h
    .rename_i hmx;have KK:mx=none:=zj;subst KK;obtain⟨b1,b2,b3⟩:=WD (P:=P) hf hb h1 true w;split at h
     .rename_i hl;simp only[yAb]at h;subst h;refine⟨.slice (some ⟨b,off+l*n,none⟩) (hh-l) (cap-l),?_,.fF _ _ _ _ _ _ b ⟨hp.1,λe sz v' cs hs=>⟨(hp.2 e sz v' cs hs).1,λhv=>?_⟩⟩ xb xb⟩
      .exact bu
      .obtain⟨q1,C,q2,q3⟩:=(hp.2 e sz v' cs hs).2 hv;refine⟨q1,C,q2,?_⟩;rw[<-q3,Nat.sub_mul,yCm]
       congr 1
       have:l*n<=cap*n:=yBO _ xb;omega
     .rename_i hl;simp only[yAb]at h;subst h;have hlh:hh-l=0:=xb;refine⟨.slice (if cap=l then(some ⟨b,off,none⟩:Option Addr)else(some ⟨b,off,none⟩:Option Addr).map (·.add (l*n))) (hh-l) (cap-l),?_,?_⟩
      .simp only[Instr.sliceAt,Instr.slice,yAV,yAO hu,yAX,yDj,b3,lE hn,yAY]
      .rw[hlh];exact .slice _ 0 _ n [] .any [] rfl (yAF _) xb wz wz wz wz wz trivial
    .rename_i mv hmx;split at h
     .rename_i hi0 k hhi hk;split at h
      .rename_i hc;obtain⟨rfl,rfl⟩:=hc;simp only[yAb]at h;subst h;cases mx with
       |none=>simp at hmx
       |some mx=>
        cases hi with
        |none=>simp at hhi
        |some hi=>
         simp at hmx;subst hmx;have hlm:l<=m:=by
          unfold mU at hb;split at hb
          .split at hb
           .simp only[yAb,yAc]at hb;omega
           .cases hb
          .cases hb
         obtain⟨b1,b2,b3⟩:=aIk (P:=P) hf hb hk (yAk _) hlm h1 true w;refine⟨.slice (some ⟨b,off,none⟩) (l-l) (l-l),?_,?_⟩
         .exact nw
         .rw[Nat.sub_self];exact .slice _ 0 0 n [] .full [] rfl (yAF _) (yAF _) wz wz wz wz wz rfl
      .exact ah
     .exact ah
   .exact ah
  .exact ah
 .rename_i len e id off hu;split at h
  .rename_i n l hh hn hb hmx;split at h
   .rename_i hc;obtain⟨hlen,hl⟩:=hc;simp only[yAb]at h;subst h;obtain⟨b,rfl,hd,hp,hr⟩:=hx.vQ;have KK:mx=none:=zj;subst KK;obtain⟨b1,b2,b3⟩:=WD (P:=P) hf hb (yAk _) false w;have hml:len<=maxLen:=yBd hlen (by unfold maxLen;decide);refine⟨.slice (some ⟨b,off+l*n,none⟩) (hh-l) (len-l),?_,.fR _ _ _ _ _ b hd hp hr xb xb⟩;have:(if len=l then(⟨b,off,none⟩:Addr)else(⟨b,off,none⟩:Addr).add (l*n))=⟨b,off+l*n,none⟩:=by
     split
     .have:l=0:=by omega
      subst this;simp
     .simp[Addr.add]
    simp[Instr.sliceAt,Instr.sureAddr,yAO hu,b3,lE hn,this]
   .exact ah
  .exact ah
 .exact ah
end
end
section
section
variable{P:Program}{c:Cx}
theorem aIh(off:Nat):∀(l:List Value) (k:Nat) (cells:Array Value),off+k+l.length<=cells.size ->
  ((l.zipIdx k).foldl (fun(cs:Array Value) (x:Value×Nat)=>cs.setIfInBounds (off+x.2) x.1) cells).toList=cells.toList.take (off+k)++l++cells.toList.drop (off+k+l.length)
 | [],k,cells,_=>wz
 |v::l,k,cells,h=>by
  simp only[yAK]at h;rw[List.zipIdx_cons,yCR,aIh off l (k+1) _ xw];simp only[yDD,yAK];have e1:(cells.toList.set (off+k) v).take (off+(k+1))=cells.toList.take (off+k)++[v]:=by
   have hlt:off+k<cells.toList.length:=xw;rw[show off+(k+1)=(off+k)+1 by omega,yBV (by simpa using hlt)]
   congr 1
   .rw[List.take_set];rw[List.set_eq_of_length_le xw]
   .simp
  have e2:(cells.toList.set (off+k) v).drop (off+(k+1)+l.length)=cells.toList.drop (off+k+(l.length+1)):=by
   rw[List.drop_set_of_lt xb]
   congr 1
   omega
  rw[e1,e2];simp
theorem aDx{cells:Bz}{z:Bw}(hz:aJ c cells z){v:Value}{p:PD}(hv:VR c v p)(off:Nat)(hle:off+p.cells.length<=z.length) :
  aJ c (cells.take off++v.cells.toList++cells.drop (off+v.cells.toList.length)) (iM z off p.cells):=by
 have hc:=hv.cells;have hl:v.cells.toList.length=p.cells.length:=hc.1;have h0:cells.length=z.length:=hz.1;refine⟨by simp[iM,hl,h0],λi u d hu hd=>?_⟩;unfold iM at hd;rw[yAi]at hu hd;rw[yDa]at hu hd;simp only[yAt]at hu hd
 by_cases h1:i<min off cells.length
 .rw[yAJ h1]at hu;rw[yAJ xb]at hd;rw[yAv,yAJ xb]at hu hd;exact hz.2 i u d hu hd
 .rw[yAI h1]at hu;rw[yAI xb]at hd;rw[yDa]at hu hd;have hm:min off cells.length=off:=xb;have hm':min off z.length=off:=xb;rw[hm]at hu;rw[hm']at hd
  by_cases h2:i-off<p.cells.length
  .rw[yAJ xb]at hu;rw[yAJ h2]at hd;exact hc.2 _ u d hu hd
  .rw[yAI xb]at hu;rw[yAI h2]at hd;rw[yBC]at hu hd;rw[hl]at hu;exact hz.2 _ u d hu hd
theorem V3{cells:Bz}(h:∀v∈cells,v.oneCell'=true){new:Bz}(hn:∀v∈new,v.oneCell'=true)(off n:Nat):∀v∈cells.take off++new++cells.drop n,v.oneCell'=true:=by
 intro v hv;simp only[yBn]at hv;rcases hv with(h1|h1)|h1
 .exact h v (yAy h1)
 .exact hn v h1
 .exact h v (yBN h1)
theorem aAv{place:Nat->Option (Nat×Nat)}:∀(parts:List (Nat×PD)) (vparts:List (Nat×Value)) (z:List PD) (cells:Array Value) (cs:List PD),
  vparts.length=parts.length->(∀(i:Nat) (jv:Nat×Value) (jp:Nat×PD),vparts[i]?=some jv->parts[i]?=some jp->jv.1=jp.1/\VR c jv.2 jp.2) ->
  aJ c cells.toList z->(∀v∈cells.toList,v.oneCell'=true)->HQ place z parts=some cs ->
  ∃cells',Instr.fill place cells vparts=some cells'/\aJ c cells'.toList cs/\∀v∈cells'.toList,v.oneCell'=true
 | [],[],z,cells,cs,_,_,hz,h1,h=>by simp[HQ]at h;subst h;exact⟨cells,rfl,hz,h1⟩
 | [],_::_,_,_,_,hl,_,_,_,_=>by simp at hl
 |_::_,[],_,_,_,hl,_,_,_,_=>by simp at hl
 |(i,p)::parts,(i',v)::vparts,z,cells,cs,hl,hp,hz,h1,h=>by
  obtain⟨e,hv⟩:=hp 0 (i',v) (i,p) rfl rfl;simp only at e hv;subst e;unfold HQ at h;unfold Instr.fill;cases hpl:place i' with
  |none=>simp[hpl]at h
  |some on=>
   obtain⟨off,n⟩:=on;simp only[hpl]at h ⊢;have hcl:v.cells.size=p.cells.length:=by have:=hv.cells.1;simpa using this
   have hzl:cells.size=z.length:=by have:=hz.1;simpa using this
   split at h
   .exact ah
   .rename_i hn;have QX:¬p.cells.length≠n:=λq=>hn (.inl q)
    have hn2:¬off+p.cells.length > z.length:=λq=>hn (.inr (.inl q))
    have hn3:p.cells.all PD.plain=true:=by
     cases hq:p.cells.all PD.plain with
     |true=>rfl
     |false=>exact(hn (.inr (.inr hq))).elim
    have kQ:=aJ.ER hv.cells hn3;have hcond:¬(decide (v.cells.size≠n)||decide (off+v.cells.size > cells.size))=true:=by
     rw[hcl,hzl];simp only[yBf,yBx]
     rintro(q|q)
     .exact QX q
     .exact hn2 q
    rw[yAI hcond];have hle:off+p.cells.length<=z.length:=xb;have hfold:(v.cells.zipIdx.foldl (λcs (c,j)=>cs.setIfInBounds (off+j) c) cells).toList=cells.toList.take off++v.cells.toList++cells.toList.drop (off+v.cells.toList.length):=by
     rw[<-Array.foldl_toList,Array.toList_zipIdx];have:=aIh off v.cells.toList 0 cells xw;exact bn
    refine aAv parts vparts _ _ cs Ad (λi jv jp a b=>hp (i+1) jv jp Al Am) ?_ ?_ h
    .rw[hfold];exact aDx hz hv off hle
    .rw[hfold];exact V3 h1 kQ off _
theorem L5{t:TypeId}{p:PD}(h:dS P t=some p):∃v i,P.info? t=some i/\i.zero=some v/\VR c v p:=by
 unfold dS at h;split at h
 .rename_i i hi;split at h
  .rename_i z hz;exact⟨z,i,hi,hz,aDw h⟩
  .exact ah
 .exact ah
theorem aIi:∀ {fs:List Field} {pl:List (Nat×Nat)},Q4 P fs=some pl->fs.mapM (λf=>(P.info? f.type).map λi=>(f.offset,i.size))=some pl
 | [],pl,h=>by simp[Q4]at h;subst h;rfl
 |f::fs,pl,h=>by
  unfold Q4 at h;split at h
  .rename_i n ps hn hp;simp only[yAb]at h;subst h;obtain⟨i,hi,hs⟩:=aAu hn;simp[List.mapM_cons,aIi hp,hi,hs]
  .exact ah
theorem aQn{t:TypeId}{parts:List (Nat×PD)}{vparts:List (Nat×Value)}{p:PD}(h:Q0 P t parts=some p)(hl:vparts.length=parts.length)
  (hp:∀(i:Nat) (jv:Nat×Value) (jp:Nat×PD),vparts[i]?=some jv->parts[i]?=some jp->jv.1=jp.1/\VR c jv.2 jp.2) (w:World) :
  ∃v,(Instr.build t vparts.toArray).run P w=.ok v w/\VR c v p:=by
 unfold Q0 at h;split at h
 .rename_i z hz;obtain⟨zv,i,hi,hzv,hzr⟩:=L5 (c:=c) hz;obtain⟨cs,rfl,hcs,CX⟩:=hzr.KJ;split at h
  .rename_i fs hu;split at h
   .rename_i pl hpl;split at h
    .rename_i out ho;simp only[yAb]at h;subst h;obtain⟨cells',h1,h2,h3⟩:=aAv parts vparts z cs.toArray out hl hp (by simpa using hcs) (by simpa using CX) ho;refine⟨.agg cells',run_build w t _ cells' ?_,?_⟩
     .simp only[Program.built,hi,hu,hzv,aIi hpl,Value.cells];simpa using h1
     .exact vc
    .exact ah
   .exact ah
  .rename_i k e hu;split at h
   .rename_i n hn;split at h
    .rename_i out ho;simp only[yAb]at h;subst h;obtain⟨cells',h1,h2,h3⟩:=aAv parts vparts z cs.toArray out hl hp (by simpa using hcs) (by simpa using CX) ho;obtain⟨ie,hie,hsz⟩:=aAu hn;subst hsz;refine⟨.agg cells',run_build w t _ cells' ?_,?_⟩
     .simp only[Program.built,hi,hu,hzv,hie,Value.cells];simpa using h1
     .exact vc
    .exact ah
   .exact ah
  .exact ah
 .exact ah
theorem aAr{a:Act}{fr:Bw}(hf:FR c a fr):∀ {parts:List (Nat×Operand)} {ps:List (Nat×PD)},rE fr parts=some ps ->
  (parts.map λq=>(q.1,a.eval q.2)).length=ps.length/\∀(i:Nat) (jv:Nat×Value) (jp:Nat×PD),(parts.map λq=>(q.1,a.eval q.2))[i]?=some jv->ps[i]?=some jp->jv.1=jp.1/\VR c jv.2 jp.2
 | [],ps,h=>by simp[rE]at h;subst h;simp
 |(j,x)::parts,ps,h=>by
  unfold rE at h;split at h
  .rename_i p qs h1 h2;simp only[yAb]at h;subst h;obtain⟨a1,a2⟩:=aAr hf h2;refine⟨by simpa using a1,λi jv jp hv hp=>?_⟩;cases i with
   |zero=>simp at hv hp;subst hv;subst hp;exact⟨rfl,cL hf h1⟩
   |succ i=>exact a2 i jv jp (by simpa using hv) (by simpa using hp)
  .exact ah
theorem aDz(lt:Bool)(w:World):∀(vs:List Value) (x:PD) (r:List PD) (p:PD) (vx:Value),NW lt x r=some p->VR c vx x->aJ c vs r ->
  ∃v,((vs.foldlM (if lt then Builtin.min2 else Builtin.max2) vx).run P w=.ok v w)/\VR c v p
 | [],x,[],p,vx,h,hx,_=>by
   unfold NW at h;split at h
   .simp only[yAb]at h;subst h;exact⟨vx,wz,hx⟩
   .rename_i e;simp at e
   .exact ah
 | [],_,_::_,_,_,_,_,hl=>by have:=hl.1;simp at this
 |_::_,_,[],_,_,_,_,hl=>by have:=hl.1;simp at this
 |v::vs,x,y::r,p,vx,h,hx,hl=>by
  unfold NW at h;split at h
  .rename_i e;simp at e
  .rename_i k z k' z' r' e;simp at e;obtain⟨e1,e2⟩:=e;subst e1;subst e2;have hv:=hl.2 0 v _ rfl rfl;have h0:=hx.oP;have h1:=hv.oP;subst h0;subst h1;have htl:aJ c vs r:=⟨by have:=hl.1;simpa using this,λi u d a b=>hl.2 (i+1) u d Al Am⟩;obtain⟨v,q1,q2⟩:=aDz lt w vs _ r p _ h (VR.int _ _) htl;refine⟨v,?_,q2⟩;cases lt<;>simpa [List.foldlM_cons,Builtin.min2,Builtin.max2]using q1
  .exact ah
theorem aQo{b:Builtin}{ts:Array TypeId}{args:Bw}{vargs:Bz}{p:PD}(h:J6 P b ts args=some p)(ha:aJ c vargs args)(ty:TypeId)(cs:Array Bool)(w:World) :
  ∃v,(builtin b ts ty cs vargs.toArray).run P w=.ok (.value v) w/\VR c v p:=by
 unfold J6 at h;split at h
 .split at h
  .rename_i t ht;split at h
   .rename_i s r hu;simp only[yAb]at h;subst h;obtain⟨v,hv,hr⟩:=ha.get (i:=0) (d:=.str s) rfl;rw[hr.rH]at hv;refine⟨.int .i64 s.length,?_,.int _ _⟩;simp[builtin,Builtin.len_,ht,hv,yAO hu,goInt,aAy]
   .rename_i n e p0 r hu;simp only[yAb]at h;subst h;obtain⟨v,hv,hr⟩:=ha.get (i:=0) (d:=p0) rfl;exact fy
   .rename_i e sz xs tok r hu;simp only[yAb]at h;subst h;obtain⟨v,hv,hr⟩:=ha.get (i:=0) (d:=.slice sz xs tok) rfl;obtain⟨A,cap,fl,rfl,_⟩:=hr.nW;refine⟨.int .i64 xs.length,?_,.int _ _⟩;simp[builtin,Builtin.len_,ht,hv,yAO hu,goInt]
   .rename_i e id off n size r hu;simp only[yAb]at h;subst h;obtain⟨v,hv,hr⟩:=ha.get (i:=0) (d:=.fR id off n size) rfl;obtain⟨b,cap,rfl,_⟩:=hr.KF;exact fy
   .rename_i e id ver off n size r hu;simp only[yAb]at h;subst h;obtain⟨v,hv,hr⟩:=ha.get (i:=0) (d:=.fF id ver off n size) rfl;obtain⟨b,cap,rfl,_⟩:=hr.MA;exact fy
   .exact ah
  .exact ah
 .split at h
  .rename_i x r;cases vargs with
   |nil=>have:=ha.1;simp at this
   |cons v vs=>
    have htl:aJ c vs r:=⟨by have:=ha.1;simpa using this,λi u d a b=>ha.2 (i+1) u d Al Am⟩;obtain⟨v',q1,q2⟩:=aDz (P:=P) true w vs x r p v h (ha.2 0 v x rfl rfl) htl;exact⟨v',by simp at q1;simp[builtin,Builtin.min_,q1],q2⟩
  .exact ah
 .split at h
  .rename_i x r;cases vargs with
   |nil=>have:=ha.1;simp at this
   |cons v vs=>
    have htl:aJ c vs r:=⟨by have:=ha.1;simpa using this,λi u d a b=>ha.2 (i+1) u d Al Am⟩;obtain⟨v',q1,q2⟩:=aDz (P:=P) false w vs x r p v h (ha.2 0 v x rfl rfl) htl;exact⟨v',by simp at q1;simp[builtin,Builtin.max_,q1],q2⟩
  .exact ah
 .split at h
  .rename_i t ht;split at h
   .rename_i e sz xs r hu;simp only[yAb]at h;subst h;obtain⟨v,hv,hr⟩:=ha.get (i:=0) (d:=.slice sz xs .full) rfl;obtain⟨A,cap,fl,rfl,a1,a2,a3,a4,a5,a6,a7,a8⟩:=hr.nW;have hc:xs.length=cap:=by simp only[pJ]at a8;omega
    refine⟨.int .i64 xs.length,?_,.int _ _⟩;simp[builtin,Builtin.cap_,ht,hv,yAO hu,goInt,hc]
   .exact ah
  .exact ah
 .exact ah
end
end
section
section
variable{P:Program}{c:Cx}
theorem aJ.append{c:Cx}{a b:Bz}{x y:Bw}(h:aJ c a x)(k:aJ c b y):aJ c (a++b) (x++y):=by
 refine⟨by simp[h.1,k.1],λi v d hv hd=>?_⟩;rw[yDa]at hv hd
 by_cases h1:i<a.length
 .rw[yAJ h1]at hv;rw[yAJ (by rw[<-h.1];exact h1)]at hd;exact h.2 i v d hv hd
 .rw[yAI h1]at hv;rw[yAI (by rw[<-h.1];exact h1)]at hd;rw[<-h.1]at hd;exact k.2 _ v d hv hd
theorem aPL{a:Act}{fr:Bw}(hf:FR c a fr){o:Oper}{p:PD}(h:dD P fr o.op=some p)(w:World) :
  ∃v,(execOp a.eval o).run P w=.ok (.value v) w/\VR c v p:=by
 obtain⟨dst,op,ty,pos,after,guard⟩:=o;simp only at h;unfold dD at h;split at h
 .exact⟨_,by simp[execOp],cL hf h⟩
 .exact⟨_,by simp[execOp],cL hf h⟩
 .rename_i x y z;split at h
  .exact pe
  .exact pe
  .exact ah
 .rename_i bop t x y yt;split at h
  .rename_i pa pb h1 h2;have hc:∃v,(do eqGuard bop t x y (a.eval x) (a.eval y);binOp bop t (a.eval x) (a.eval y):Sem Value).run P w=.ok v w/\VR c v p:=by
    split at h
    .rename_i r hr;simp only[yAb]at h;subst h;exact aQd hr (cL hf h1) (cL hf h2) w x y
    .exact aQe h (cL hf h1) w x
   obtain⟨v,r,q⟩:=hc;refine⟨v,?_,q⟩;have e:execOp a.eval ⟨dst,.binOp bop t x y yt,ty,pos,after,guard⟩=((do eqGuard bop t x y (a.eval x) (a.eval y);binOp bop t (a.eval x) (a.eval y):Sem Value) >>= λz=>pure (.value z)):=rfl;rw[e,yAV,r];rfl
  .exact ah
 .rename_i uop t x;split at h
  .rename_i pa h1;obtain⟨v,r,q⟩:=aQf (P:=P) h (cL hf h1) w;exact ei
  .exact ah
 .rename_i s d x;split at h
  .exact ah
  .split at h
   .rename_i pa h1;obtain⟨v,r,q⟩:=aQg h (cL hf h1) w;exact ei
   .exact ah
 .rename_i f first captured;split at h
  .rename_i h0;split at h
   .rename_i ps hps;simp only[yAb]at h;subst h;have hv:=oK hf hps;have e:first=#[]:=yDK h0;subst e;refine⟨.func (.func f) #[] (captured.toList.map a.eval).toArray,?_,.func f _ ps hv.1 hv.2⟩;have e2:captured.map a.eval=(captured.toList.map a.eval).toArray:=yu;simp[execOp,Instr.makeFunc,e2]
   .exact ah
  .split at h
   .rename_i h0;split at h
    .rename_i ps hps;simp only[yAb]at h;subst h;have hv:=oK hf hps;have e:captured=#[]:=yDK h0;subst e;refine⟨.func (.func f) (first.toList.map a.eval).toArray #[],?_,.oR f _ ps hv.1 hv.2⟩;have e2:first.map a.eval=(first.toList.map a.eval).toArray:=yu;simp[execOp,Instr.makeFunc,e2]
    .exact ah
   .exact ah
 .rename_i t x lo hi mx;split at h
  .rename_i pa h1;obtain⟨v,r,q⟩:=aQh hf h (cL hf h1) w;exact ei
  .exact ah
 .rename_i s x f;split at h
  .rename_i pa h1;obtain⟨v,r,q⟩:=aQi h (cL hf h1) w;exact ei
  .exact ah
 .rename_i t x f;split at h
  .rename_i pa h1;obtain⟨v,r,q⟩:=aQj h (cL hf h1) w;exact ei
  .exact ah
 .rename_i t x i;split at h
  .rename_i pa pb h1 h2;obtain⟨v,r,q⟩:=aQk h (cL hf h1) (cL hf h2) w;exact ei
  .exact ah
 .rename_i t x i;split at h
  .rename_i pa pb h1 h2;obtain⟨v,r,q⟩:=aQl h (cL hf h1) (cL hf h2) w;exact ei
  .exact ah
 .rename_i x i;split at h
  .rename_i vs h1;obtain⟨cs,e,hcs⟩:=(cL hf h1).aQm;obtain⟨v,hv,q⟩:=hcs.get h;exact⟨v,by simp[execOp,e,Instr.extract,hv],q⟩
  .exact ah
 .rename_i x;split at h
  .rename_i id off h1;simp only[yAb]at h;subst h;have hv:=cL hf h1;obtain⟨b,e,_⟩:=hv.vQ;exact qf
  .rename_i cs off h1;simp only[yAb]at h;subst h;have hv:=cL hf h1;obtain⟨ad,fl,e,_⟩:=hv.RS;exact⟨.pointer (some (ad.add off)),by simp[execOp,e],by rw[<-e];exact hv⟩
  .rename_i id ver off h1;simp only[yAb]at h;subst h;have hv:=cL hf h1;obtain⟨b,e,_⟩:=hv.RH;exact qf
  .exact ah
 .rename_i t parts;split at h
  .rename_i ps h1;obtain⟨a1,a2⟩:=aAr hf h1;obtain⟨v,r,q⟩:=aQn h a1 a2 w;refine⟨v,?_,q⟩;have e:(parts.map fun(x:Nat×Operand)=>(x.1,a.eval x.2))=(parts.toList.map λq=>(q.1,a.eval q.2)).toArray:=yu;simp only[execOp,yAV];rw[show(Array.map (λx=>match x with|(i,x)=>(i,a.eval x)) parts)=(parts.toList.map λq=>(q.1,a.eval q.2)).toArray from by simpa using e,r];simp
  .exact ah
 .rename_i b args ts;split at h
  .rename_i ps h1;have hv:=oK hf h1;obtain⟨v,r,q⟩:=aQo h hv ty (args.map λ|.const _=>true|_=>false) w;refine⟨v,?_,q⟩;simp only[execOp,resolve,invoke,yAV,yAY,yAX];rw[show args.map a.eval=(args.toList.map a.eval).toArray from by apply yBK;simp];exact r
  .exact ah
 .rename_i x xt t;split at h
  .rename_i fs hu;split at h
   .rename_i u q h1;split at h
    .rename_i e;subst e;simp only[yAb]at h;subst h;obtain⟨v,e2,hv⟩:=(cL hf h1).aDy;refine⟨.tuple #[v,.bool true],?_,.aK [v,.bool true] _ rfl (λi a b h2 h3=>?_)⟩
     .simp[execOp,Instr.typeAssert,yAO hu,e2]
     .match i,h2,h3 with
      |0,h2,h3=>simp at h2 h3;subst h2 h3;exact hv
      |1,h2,h3=>simp at h2 h3;subst h2 h3;exact .bool true
    .exact ah
   .exact ah
  .exact ah
 .rename_i t x;split at h
  .rename_i fs hu;split at h
   .rename_i q h1;simp only[yAb]at h;subst h;refine⟨.iface t (a.eval x),?_,.iface t _ _ (cL hf h1)⟩;simp[execOp,Instr.makeInterface,yAO hu]
   .exact ah
  .exact ah
 .exact ah
end
end
section
open Go.RowKit
section
variable{c:Cx}{fl:Nat}
theorem fM{w:World}{b:Nat}{o:Obj}(h:w.heap[b]?=some o):b<w.heap.size:=(yDh.1 h).1
theorem KH{w:World}{a:Addr}{v:Value}(h:w.cell? a=some v):a.block<w.heap.size:=World.block_lt_of_cell? w a h
def Cx.at(c:Cx)(w:World):Cx:={ c with w:=w }
theorem Nx.grow{w':World}(_hs:Sr c)(h:c.w.grownBy w' none):Nx fl c (c.at w') where
 X:=rfl
 os:=h.os
 tape:=h.tape
 output:=h.output
 size:=h.size
 len:=yAk _
 cell:=λa v ha hv=>⟨ha,by
  show w'.cell? a=some v
  rw[yCj (h.block a.block (KH hv) wz)];exact hv⟩
 aW:=λ_ h=>h
 new:=λ_ h=>.inl h
 tM:=λ_ p _ h=>⟨rfl,p,h⟩
 lP:=λ_ _ h=>⟨rfl,h⟩
 vR:=λ_ _ _ n _ h=>⟨n,h,yAk _,λ_=>rfl⟩
 vS:=λ_ _ _ v cs _ h=>⟨v,cs,h,yAk _,λ_=>rfl⟩
 back:=λ_ _ h h' _=>⟨h,h'⟩
 frame:=λk hk _=>h.block k hk wz
 ro:=λ_ _ _=>rfl
 hole:=λ_ _ _=>rfl
theorem L9{w w':World}{e:TypeId}{size n:Nat}{v:Value}{xs:Bz}(h:w.ownsRowF 0 e size v n xs)(hb:∀g,aV v=some g->w'.heap[g]?=w.heap[g]?):w'.ownsRowF 0 e size v n xs:=by
 refine⟨h.1,?_⟩;rcases h.2 with hn | ⟨g,cap,cur,fz,rfl,hb0,hg,rest⟩
 .exact .inl hn
 .exact .inr ⟨g,cap,cur,fz,rfl,hb0,by rw[hb g rfl];exact hg,rest⟩
theorem Sr.grow{w':World}(hs:Sr c)(h:c.w.grownBy w' none):Sr (c.at w') where
 box:=λid p hd hp=>by
  obtain⟨b,cs,T,e1,e2,e3,e4⟩:=hs.box id p hd hp;exact⟨b,cs,T,e1,by show w'.heap[b]?=_;rw[h.block b (fM e2) wz];exact e2,e3.mono (Nx.grow (fl:=0) hs h),e4⟩
 own:=λid e size n hd ho=>by
  obtain⟨xs,hx⟩:=hs.own id e size n hd ho;exact qz
 mark:=λid hd hm=>by
  obtain⟨b,e1,e2⟩:=hs.mark id hd hm;exact⟨b,e1,by show w'.heap[b]?=_;rw[h.block b (fM e2) wz];exact e2⟩
 row:=λid e sz ver ds hd ho=>by
  obtain⟨b,C,cur,e1,e2,e3,e4,e5,e6,e7,e8⟩:=hs.row id e sz ver ds hd ho;exact⟨b,C,cur,e1,by show w'.heap[b]?=_;rw[h.block b (fM e2) wz];exact e2,e3,e4,e5,e6,e7.mono (Nx.grow (fl:=0) hs h),e8⟩
 map:=λid es hd ho=>by
  obtain⟨b,ents,clock,e1,e2,e3,e4⟩:=hs.map id es hd ho;exact⟨b,ents,clock,e1,by show w'.heap[b]?=_;rw[h.block b (fM e2) wz];exact e2,e3.mono (Nx.grow (fl:=0) hs h),e4.mono (Nx.grow (fl:=0) hs h)⟩
 loop:=λid st fr ps asg bd hd hl=>by
  obtain⟨b,r,e1,e2,e3,e4,e5,e6,e7⟩:=hs.loop id st fr ps asg bd hd hl;exact⟨b,r,e1,by show w'.heap[b]?=_;rw[h.block b (fM e2) wz];exact e2,e3,e4,e5,e6.mono (Nx.grow (fl:=0) hs h),e7⟩
 inj:=hs.inj
 lt:=λid b hd hb=>yBM (hs.lt id b hd hb) h.size
 aW:=hs.aW
 fresh:=λa ha=>hs.fresh a (yBd h.size ha)
 gU:=hs.gU.mono (Nx.grow (fl:=0) hs h)
theorem aC3(w:World):w.grownBy w.drew none:=⟨rfl,rfl,rfl,yAk _,λ_ _ _=>rfl⟩
def Cx.push(c:Cx)(w:World)(v:Value)(o:U):Cx:=
 { w:=w,ρ:=λi=>if i=c.σ.length then v else c.ρ i,σ:=c.σ++[o],D:=λi=>c.D i\/i=c.σ.length,X:=c.X }
theorem aQb{id:Nat}(hs:Sr c)(hd:c.D id):id≠c.σ.length:=Nat.ne_of_lt (hs.aW id hd)
theorem nS{w:World}{v:Value}{o:U}{id:Nat}(hs:Sr c)(hd:c.D id):(c.push w v o).ρ id=c.ρ id:=by simp[Cx.push,aQb hs hd]
theorem CR{w:World}{v:Value}{o:U}{id:Nat}(hs:Sr c)(hd:c.D id):(c.push w v o).σ[id]?=c.σ[id]?:=by
 simp[Cx.push,yAg (hs.aW id hd)]
theorem fB{w:World}{v:Value}{o:U}:(c.push w v o).σ[c.σ.length]?=some o/\(c.push w v o).ρ c.σ.length=v/\(c.push w v o).D c.σ.length:=by simp[Cx.push]
theorem Nx.push{w':World}{v:Value}{o:U}(hs:Sr c)(h:c.w.grownBy w' none)(hv:∀b,aV v=some b->c.w.heap.size<=b):Nx fl c (c.push w' v o) where
 X:=rfl
 os:=h.os
 tape:=h.tape
 output:=h.output
 size:=h.size
 len:=by simp[Cx.push]
 cell:=λa u ha hu=>by
  have hlt:=KH hu;refine⟨⟨ha.1,λid o' hd ho=>?_⟩,by show w'.cell? a=some u;rw[yCj (h.block a.block hlt wz)];exact hu⟩;rcases hd with hd|rfl
  .rw[CR hs hd]at ho;rw[nS hs hd];exact ha.2 id o' hd ho
  .obtain⟨e1,e2,_⟩:=fB (c:=c) (w:=w') (v:=v) (o:=o);rw[e1]at ho;rw[e2];simp only[yAb]at ho;subst ho;cases o with
   |none=>trivial
   |box p=>intro b hb e;have:=hv b hb;omega
   |own e size n=>intro b hb e;have:=hv b hb;omega
   |row e size ver ds=>intro b hb e;have:=hv b hb;omega
   |map es=>trivial
   |mark=>trivial
   |loop st fr ps asg bd=>trivial
 aW:=λ_ h=>.inl h
 new:=λid hd=>by rcases hd with hd|rfl;exact .inl hd;exact .inr (yAk _)
 tM:=λid p hd hp=>⟨nS hs hd,p,by rw[CR hs hd];exact hp⟩
 lP:=λid hd hn=>⟨nS hs hd,by rw[CR hs hd];exact hn⟩
 vR:=λid e s n hd ho=>⟨n,by rw[CR hs hd];exact ho,yAk _,λ_=>nS hs hd⟩
 vS:=λid e s v' cs hd ho=>⟨v',cs,by rw[CR hs hd]at ho;exact ho,yAk _,λ_=>nS hs hd⟩
 back:=λid b hd hb hlt=>by
  rcases hd with hd|rfl
  .rw[nS hs hd]at hb;exact⟨hd,hb⟩
  .rw[(fB (c:=c) (w:=w') (v:=v) (o:=o)).2.1]at hb;have:=hv b hb;omega
 frame:=λk hk _=>h.block k hk wz
 ro:=λid _ hl=>by simp[Cx.push,yAg hl]
 hole:=λid hl _=>by simp[Cx.push,yAg hl]
theorem Sr.push{w':World}{v:Value}{o:U}(hs:Sr c)(h:c.w.grownBy w' none)(hv:∀b,aV v=some b->c.w.heap.size<=b/\b<w'.heap.size)
  (ho:match o with
   |.none=>True
   |.box p=>∃b cs T,v=.pointer (some ⟨b,0,none⟩)/\w'.heap[b]?=some (.cells cs T (0,0))/\aJ c cs.toList p.cells/\(∀v∈cs.toList,v.oneCell'=true)/\∀t ds,p=.typed t ds->T=t
   |.own e size n=>∃xs,w'.ownsRowF 0 e size v n xs
   |.row e size _ ds=>∃b C cur,v=.slice (some ⟨b,0,none⟩) 0 C/\w'.heap[b]?=some (.cells cur e (0,0))/\cur.size=C*size/\C<=maxLen/\0<size /\
     ds.length<=cur.size/\aJ c (cur.toList.take ds.length) ds/\∀v∈cur.toList,v.oneCell'=true
   |.map es=>∃b ents clock,v=.map (some b)/\w'.heap[b]?=some (.map ents clock)/\aJ c (ents.toList.map MapEntry.key) (es.map Prod.fst)/\aJ c (ents.toList.map MapEntry.val) (es.map Prod.snd)
   |.mark=>∃b,v=.pointer (some ⟨b,0,none⟩)/\w'.heap[b]?=some (.deferred (some []))
   |.loop st fr ps assign body=>∃b r,v=.pointer (some ⟨b,0,none⟩)/\w'.heap[b]?=some (.loop r)/\r.params=ps.toArray/\r.assign=assign/\r.body=body/\aJ c r.tmps.toList fr/\st.fits r):Sr (c.push w' v o):=by
 have nx:Nx 0 c (c.push w' v o):=Nx.push hs h (λb hb=>(hv b hb).1);refine⟨?_,?_,?_,?_,?_,?_,?_,?_,?_,?_,hs.gU.mono nx⟩
 .intro id p hd hp;rcases hd with hd|rfl
  .rw[CR hs hd]at hp;obtain⟨b,cs,T,e1,e2,e3,e4⟩:=hs.box id p hd hp;exact⟨b,cs,T,(nS hs hd).trans e1,by show w'.heap[b]?=_;rw[h.block b (fM e2) wz];exact e2,e3.mono nx,e4⟩
  .rw[fB.1]at hp;simp only[yAb]at hp;subst hp;obtain⟨b,cs,T,e1,e2,e3,e4⟩:=ho;exact⟨b,cs,T,fB.2.1.trans e1,e2,e3.mono nx,e4⟩
 .intro id e size n hd hp;rcases hd with hd|rfl
  .rw[CR hs hd]at hp;obtain⟨xs,hx⟩:=hs.own id e size n hd hp;rw[nS hs hd];exact qz
  .rw[fB.1]at hp;simp only[yAb]at hp;subst hp;rw[fB.2.1];exact ho
 .intro id e size ver ds hd hp;rcases hd with hd|rfl
  .rw[CR hs hd]at hp;obtain⟨b,C,cur,e1,e2,e3,e4,e5,e6,e7,e8⟩:=hs.row id e size ver ds hd hp;exact⟨b,C,cur,(nS hs hd).trans e1,by show w'.heap[b]?=_;rw[h.block b (fM e2) wz];exact e2,e3,e4,e5,e6,e7.mono nx,e8⟩
  .rw[fB.1]at hp;simp only[yAb]at hp;subst hp;obtain⟨b,C,cur,e1,e2,e3,e4,e5,e6,e7,e8⟩:=ho;exact⟨b,C,cur,fB.2.1.trans e1,e2,e3,e4,e5,e6,e7.mono nx,e8⟩
 .intro id es hd hp;rcases hd with hd|rfl
  .rw[CR hs hd]at hp;obtain⟨b,ents,clock,e1,e2,e3,e4⟩:=hs.map id es hd hp;exact⟨b,ents,clock,(nS hs hd).trans e1,by show w'.heap[b]?=_;rw[h.block b (fM e2) wz];exact e2,e3.mono nx,e4.mono nx⟩
  .rw[fB.1]at hp;simp only[yAb]at hp;subst hp;obtain⟨b,ents,clock,e1,e2,e3,e4⟩:=ho;exact⟨b,ents,clock,fB.2.1.trans e1,e2,e3.mono nx,e4.mono nx⟩
 .intro id hd hm;rcases hd with hd|rfl
  .rw[CR hs hd]at hm;obtain⟨b,e1,e2⟩:=hs.mark id hd hm;exact⟨b,(nS hs hd).trans e1,by show w'.heap[b]?=_;rw[h.block b (fM e2) wz];exact e2⟩
  .rw[fB.1]at hm;simp only[yAb]at hm;subst hm;obtain⟨b,e1,e2⟩:=ho;exact⟨b,fB.2.1.trans e1,e2⟩
 .intro id st fr ps asg bd hd hm;rcases hd with hd|rfl
  .rw[CR hs hd]at hm;obtain⟨b,r,e1,e2,e3,e4,e5,e6,e7⟩:=hs.loop id st fr ps asg bd hd hm;exact⟨b,r,(nS hs hd).trans e1,by show w'.heap[b]?=_;rw[h.block b (fM e2) wz];exact e2,e3,e4,e5,e6.mono nx,e7⟩
  .rw[fB.1]at hm;simp only[yAb]at hm;subst hm;obtain⟨b,r,e1,e2,e3,e4,e5,e6,e7⟩:=ho;exact⟨b,r,fB.2.1.trans e1,e2,e3,e4,e5,e6.mono nx,e7⟩
 .intro id id' b hd hd' hne hb hb';rcases hd with hd|rfl
  .rw[nS hs hd]at hb;rcases hd' with hd' | rfl
   .rw[nS hs hd']at hb';exact hs.inj id id' b hd hd' hne hb hb'
   .rw[fB.2.1]at hb';have:=(hv b hb').1;have:=hs.lt id b hd hb;omega
  .rw[fB.2.1]at hb;rcases hd' with hd' | rfl
   .rw[nS hs hd']at hb';have:=(hv b hb).1;have:=hs.lt id' b hd' hb';omega
   .exact hne rfl
 .intro id b hd hb;rcases hd with hd|rfl
  .rw[nS hs hd]at hb;exact yBM (hs.lt id b hd hb) h.size
  .rw[fB.2.1]at hb;exact(hv b hb).2
 .intro id hd;rcases hd with hd|rfl
  .have:=hs.aW id hd;simp[Cx.push];omega
  .simp[Cx.push]
 .exact λa ha=>hs.fresh a (yBd h.size ha)
def Cx.put(c:Cx)(w:World)(id:Nat)(v:Value)(o:U):Cx:=
 { c with w:=w,ρ:=λi=>if i=id then v else c.ρ i,σ:=c.σ.set id o }
theorem cS{w:World}{v:Value}{o:U}{id i:Nat}(h:i≠id):(c.put w id v o).σ[i]?=c.σ[i]?:=by simp[Cx.put,yAd (yBc h)]
theorem eW{w:World}{v:Value}{o:U}{id i:Nat}(h:i≠id):(c.put w id v o).ρ i=c.ρ i:=by simp[Cx.put,h]
theorem eL{w:World}{v:Value}{o:U}{id:Nat}(h:id<c.σ.length):(c.put w id v o).σ[id]?=some o:=by simp[Cx.put,h]
theorem mK{w:World}{v:Value}{o:U}{id:Nat}:(c.put w id v o).ρ id=v:=Ag
theorem Nx.MC{w':World}{id b:Nat}{q q':PD}(hs:Sr c)(hd:c.D id)(hq:c.σ[id]?=some (.box q))(hr:c.ρ id=.pointer (some ⟨b,0,none⟩))(hfl:fl<=id)
  (h0:w'.os=c.w.os/\w'.tape=c.w.tape/\w'.output=c.w.output/\w'.heap.size=c.w.heap.size) (h1:∀k,k≠b->w'.heap[k]?=c.w.heap[k]?) :
  Nx fl c (c.put w' id (c.ρ id) (.box q')):=by
 have hρ:∀i,(c.put w' id (c.ρ id) (.box q')).ρ i=c.ρ i:=λi=>by
  exact iu
 have hb:aV (c.ρ id)=some b:=zp;refine⟨rfl,h0.1,h0.2.1,h0.2.2.1,yCE h0.2.2.2.symm,Ag,?_,λ_ h=>h,λ_ h=>.inl h,?_,?_,?_,?_,?_,?_,?_,λi _ hi=>cS (λe=>hi Bd)⟩
 .intro a u ha hu;have hne:a.block≠b:=ha.2 id _ hd hq b hb;refine⟨⟨ha.1,λi o hi ho=>?_⟩,by show w'.cell? a=some u;rw[yCj (h1 a.block hne)];exact hu⟩;rw[hρ]
  by_cases e:i=id
  .subst e;rw[eL (hs.aW i hd)]at ho;simp only[yAb]at ho;subst ho;exact λb' hb'=>ha.2 i _ hd hq b' hb'
  .rw[cS e]at ho;exact ha.2 i o hi ho
 .intro i p hi hp;refine⟨hρ i,?_⟩
  by_cases e:i=id
  .subst e;exact⟨q',eL (hs.aW i hd)⟩
  .exact⟨p,by rw[cS e];exact hp⟩
 .intro i hi hn;refine⟨hρ i,?_⟩
  by_cases e:i=id
  .subst e;rw[eL (hs.aW i hd)];trivial
  .rw[cS e];exact hn
 .intro i e' s n hi ho;have e:i≠id:=by rintro rfl;rw[hq]at ho;cases ho
  exact⟨n,by rw[cS e];exact ho,yAk _,λ_=>hρ i⟩
 .intro i e' s v cs hi ho;have e:i≠id:=xy;exact⟨v,cs,by rw[cS e]at ho;exact ho,yAk _,λ_=>hρ i⟩
 .intro i b' hi hb' _;rw[hρ]at hb';exact⟨hi,hb'⟩
 .intro k _ hk;exact h1 k (λe=>hk id hd hfl (by rw[e];exact hb))
 .exact mq
theorem Sr.MC{w':World}{id b:Nat}{q q':PD}{cs:Ca}{T:TypeId}(hs:Sr c)(hd:c.D id)(hq:c.σ[id]?=some (.box q))(hr:c.ρ id=.pointer (some ⟨b,0,none⟩))
  (h0:w'.os=c.w.os/\w'.tape=c.w.tape/\w'.output=c.w.output/\w'.heap.size=c.w.heap.size) (h1:∀k,k≠b->w'.heap[k]?=c.w.heap[k]?)
  (h2:w'.heap[b]?=some (.cells cs T (0,0))) (h3:aJ c cs.toList q'.cells) (h4:(∀v∈cs.toList,v.oneCell'=true)/\∀t ds,q'=.typed t ds->T=t):Sr (c.put w' id (c.ρ id) (.box q')):=by
 have nx:Nx 0 c (c.put w' id (c.ρ id) (.box q')):=Nx.MC hs hd hq hr (yAF _) h0 h1;have hρ:∀i,(c.put w' id (c.ρ id) (.box q')).ρ i=c.ρ i:=λi=>by
  exact iu
 have hb:aV (c.ρ id)=some b:=zp;refine⟨?_,?_,?_,?_,?_,?_,?_,?_,?_,?_,hs.gU.mono nx⟩
 .intro i p hi hp
  by_cases e:i=id
  .subst e;rw[eL (hs.aW i hd)]at hp;simp only[yAb,U.box.injEq]at hp;subst hp;exact⟨b,cs,T,(hρ i).trans hr,h2,h3.mono nx,h4⟩
  .rw[cS e]at hp;obtain⟨b',cs',T',e1,e2,e3,e4⟩:=hs.box i p hi hp;refine⟨b',cs',T',(hρ i).trans e1,?_,e3.mono nx,e4⟩;exact bl
 .intro i e' s n hi ho;have e:i≠id:=xy;rw[cS e]at ho;obtain⟨xs,hx⟩:=hs.own i e' s n hi ho;rw[hρ];exact⟨xs,L9 hx (λg hg=>h1 g (λe''=>hs.inj i id g hi hd e hg (by rw[e''];exact hb)))⟩
 .intro i e' size ver ds hi ho;have e:i≠id:=xy;rw[cS e]at ho;obtain⟨b',C,cur,e1,e2,e3,e4,e5,e6,e7,e8⟩:=hs.row i e' size ver ds hi ho;refine⟨b',C,cur,(hρ i).trans e1,?_,e3,e4,e5,e6,e7.mono nx,e8⟩;exact bl
 .intro i es hi ho;have e:i≠id:=xy;rw[cS e]at ho;obtain⟨b',ents,clock,e1,e2,e3,e4⟩:=hs.map i es hi ho;refine⟨b',ents,clock,(hρ i).trans e1,?_,e3.mono nx,e4.mono nx⟩;exact bl
 .intro i hi hm;have e:i≠id:=Bp;rw[cS e]at hm;obtain⟨b',e1,e2⟩:=hs.mark i hi hm;refine⟨b',(hρ i).trans e1,?_⟩;exact bl
 .intro i st fr ps asg bd hi hm;have e:i≠id:=Bp;rw[cS e]at hm;obtain⟨b',r,e1,e2,e3,e4,e5,e6,e7⟩:=hs.loop i st fr ps asg bd hi hm;refine⟨b',r,(hρ i).trans e1,?_,e3,e4,e5,e6.mono nx,e7⟩;exact bl
 .exact qd
 .intro i b' hi h5;rw[hρ]at h5;show b'<w'.heap.size
  rw[h0.2.2.2];exact hs.lt i b' hi h5
 .exact ij
 .intro a ha;exact hs.fresh a (by show c.w.heap.size<=a.block;rw[<-h0.2.2.2];exact ha)
theorem Nx.WC{w':World}{id n n' size:Nat}{e:TypeId}{v':Value}(hs:Sr c)(hd:c.D id)(hq:c.σ[id]?=some (.own e size n))(hfl:fl<=id)(hn:n<n')
  (h0:w'.os=c.w.os/\w'.tape=c.w.tape/\w'.output=c.w.output/\c.w.heap.size<=w'.heap.size)
  (h1:∀k,k<c.w.heap.size->aV (c.ρ id)≠some k->w'.heap[k]?=c.w.heap[k]?)
  (h2:∀(a:Addr) (u:Value),(∀b,aV (c.ρ id)=some b->a.block=b->a.off<n*size)->c.w.cell? a=some u->w'.cell? a=some u)
  (h3:aV v'=aV (c.ρ id)\/∀b,aV v'=some b->c.w.heap.size<=b) :
  Nx fl c (c.put w' id v' (.own e size n')):=by
 refine⟨rfl,h0.1,h0.2.1,h0.2.2.1,h0.2.2.2,Ag,?_,λ_ h=>h,λ_ h=>.inl h,?_,?_,?_,?_,?_,?_,?_,λi _ hi=>cS (λe=>hi Bd)⟩
 .intro a u ha hu;have hav:∀b,aV (c.ρ id)=some b->a.block=b->a.off<n*size:=ha.2 id _ hd hq;refine⟨⟨ha.1,λi o hi ho=>?_⟩,h2 a u hav hu⟩
  by_cases e':i=id
  .subst e';rw[eL (hs.aW i hd)]at ho;simp only[yAb]at ho;subst ho;rw[mK];intro b hb hab;rcases h3 with h3|h3
   .have:=hav b (by rw[<-h3];exact hb) hab;exact yBM this (yBO _ (yCS hn))
   .have:=h3 b hb;have:=KH hu;omega
  .rw[cS e']at ho;rw[eW e'];exact ha.2 i o hi ho
 .exact kZ
 .exact mb
 .intro i e0 s m hi ho
  by_cases e':i=id
  .subst e';rw[hq]at ho;simp only[yAb,U.own.injEq]at ho;obtain⟨rfl,rfl,rfl⟩:=ho;exact⟨n',eL (hs.aW i hd),yCS hn,λh=>xb⟩
  .exact⟨m,by rw[cS e'];exact ho,yAk _,λ_=>eW e'⟩
 .intro i e0 s v cs hi ho;have e':i≠id:=xy;exact⟨v,cs,by rw[cS e']at ho;exact ho,yAk _,λ_=>eW e'⟩
 .exact fh
 .intro k hk hx;exact h1 k hk (hx id hd hfl)
 .exact mq
theorem Sr.WC{w':World}{id n n' size:Nat}{e:TypeId}{v':Value}{xs:Bz}(hs:Sr c)(hd:c.D id)(hq:c.σ[id]?=some (.own e size n))(hn:n<n')
  (h0:w'.os=c.w.os/\w'.tape=c.w.tape/\w'.output=c.w.output/\c.w.heap.size<=w'.heap.size)
  (h1:∀k,k<c.w.heap.size->aV (c.ρ id)≠some k->w'.heap[k]?=c.w.heap[k]?)
  (h2:∀(a:Addr) (u:Value),(∀b,aV (c.ρ id)=some b->a.block=b->a.off<n*size)->c.w.cell? a=some u->w'.cell? a=some u)
  (h3:aV v'=aV (c.ρ id)\/∀b,aV v'=some b->c.w.heap.size<=b) (h4:w'.ownsRowF 0 e size v' n' xs) (h5:∀b,aV v'=some b->b<w'.heap.size) :
  Sr (c.put w' id v' (.own e size n')):=by
 have nx:Nx 0 c (c.put w' id v' (.own e size n')):=Nx.WC hs hd hq (yAF _) hn h0 h1 h2 h3;have hoth:∀i b,c.D i->i≠id->aV (c.ρ i)=some b->aV v'≠some b:=λi b hi hne hb hb'=>by
  exact jn
 refine⟨?_,?_,?_,?_,?_,?_,?_,?_,?_,?_,hs.gU.mono nx⟩
 .exact ud
 .intro i e0 s m hi ho
  by_cases e':i=id
  .subst e';rw[eL (hs.aW i hd)]at ho;simp only[yAb,U.own.injEq]at ho;obtain⟨rfl,rfl,rfl⟩:=ho;rw[mK];exact⟨xs,h4⟩
  .rw[cS e']at ho;obtain⟨ys,hy⟩:=hs.own i e0 s m hi ho;rw[eW e'];exact⟨ys,L9 hy (λg hg=>h1 g (hs.lt i g hi hg) (λh=>hs.inj i id g hi hd e' hg h))⟩
 .intro i e0 size' ver ds hi ho;have e':i≠id:=xy;rw[cS e']at ho;obtain⟨b',C,cur,e1,e2,e3,e4,e5,e6,e7,e8⟩:=hs.row i e0 size' ver ds hi ho;exact uy
 .exact uc
 .exact uf
 .exact tj
 .exact cc
 .exact ju
 .exact ij
 .intro a ha;exact hs.fresh a (yBd h0.2.2.2 ha)
def U.nc:U->Prop
 |.box _=>False
 |.own _ _ _=>False
 |.row _ _ _ _=>False
 |_=>True
theorem Nx.CT{id b:Nat}{o o':U}{x x':Obj}(hs:Sr c)(hd:c.D id)(ho:c.σ[id]?=some o)(hn:o.nc)(hn':o'.nc)(hb:aV (c.ρ id)=some b)(hfl:fl<=id)
  (hx:c.w.heap[b]?=some x) (hxc:∀cs T fz,x≠.cells cs T fz) :
  Nx fl c (c.put (c.w.putObj b x') id (c.ρ id) o'):=by
 have hρ:∀i,(c.put (c.w.putObj b x') id (c.ρ id) o').ρ i=c.ρ i:=λi=>by
  exact iu
 refine⟨rfl,rfl,rfl,rfl,Ag,Ag,?_,λ_ h=>h,λ_ h=>.inl h,?_,?_,?_,?_,?_,?_,?_,λi _ hi=>cS (λe=>hi Bd)⟩
 .intro a u ha hu;have hne:a.block≠b:=by
   intro e;unfold World.cell? at hu;rw[e,hx]at hu;cases x<;>first|exact hxc _ _ _ rfl|(simp at hu)
  refine⟨⟨ha.1,λi oo hi hoo=>?_⟩,by show(c.w.putObj b x').cell? a=some u;rw[yCj (yCn hne)];exact hu⟩;rw[hρ]
  by_cases e:i=id
  .subst e;rw[eL (hs.aW i hd)]at hoo;simp only[yAb]at hoo;subst hoo;cases o'<;>first|exact hn'.elim|trivial
  .rw[cS e]at hoo;exact ha.2 i oo hi hoo
 .intro i p hi hp;have e:i≠id:=by rintro rfl;rw[ho]at hp;simp only[yAb]at hp;subst hp;exact hn
  exact⟨hρ i,p,by rw[cS e];exact hp⟩
 .intro i hi hni;refine⟨hρ i,?_⟩
  by_cases e:i=id
  .subst e;rw[eL (hs.aW i hd)];cases o'<;>first|exact hn'.elim|trivial
  .rw[cS e];exact hni
 .intro i e0 s n hi hi';have e:i≠id:=by rintro rfl;rw[ho]at hi';simp only[yAb]at hi';subst hi';exact hn
  exact⟨n,by rw[cS e];exact hi',yAk _,λ_=>hρ i⟩
 .intro i e0 s v cs hi hi';have e:i≠id:=by rintro rfl;rw[eL (hs.aW i hd)]at hi';simp only[yAb]at hi';subst hi';exact hn'
  exact⟨v,cs,by rw[cS e]at hi';exact hi',yAk _,λ_=>hρ i⟩
 .intro i b' hi hb' _;rw[hρ]at hb';exact⟨hi,hb'⟩
 .intro k _ hk;exact yCn (λe=>hk id hd hfl (by rw[e];exact hb))
 .exact mq
theorem Sr.CT{id b:Nat}{o o':U}{x x':Obj}(hs:Sr c)(hd:c.D id)(ho:c.σ[id]?=some o)(hn:o.nc)(hn':o'.nc)(hb:aV (c.ρ id)=some b)
  (hx:c.w.heap[b]?=some x) (hxc:∀cs T fz,x≠.cells cs T fz)
  (hfit:match o' with
   |.mark=>x'=.deferred (some [])/\c.ρ id=.pointer (some ⟨b,0,none⟩)
   |.map es=>(∃ents clock,x'=.map ents clock/\aJ c (ents.toList.map MapEntry.key) (es.map Prod.fst)/\aJ c (ents.toList.map MapEntry.val) (es.map Prod.snd))/\c.ρ id=.map (some b)
   |.loop st fr ps assign body=>c.ρ id=.pointer (some ⟨b,0,none⟩)/\∃r,x'=.loop r/\r.params=ps.toArray/\r.assign=assign/\r.body=body/\aJ c r.tmps.toList fr/\st.fits r
   |_=>True):Sr (c.put (c.w.putObj b x') id (c.ρ id) o'):=by
 have nx:Nx 0 c (c.put (c.w.putObj b x') id (c.ρ id) o'):=Nx.CT hs hd ho hn hn' hb (yAF _) hx hxc;have hρ:∀i,(c.put (c.w.putObj b x') id (c.ρ id) o').ρ i=c.ρ i:=λi=>by
  exact iu
 have hlt:b<c.w.heap.size:=fM hx;have hnew:(c.w.putObj b x').heap[b]?=some x':=World.putObj_heap_same hlt;refine⟨?_,?_,?_,?_,?_,?_,?_,?_,?_,?_,hs.gU.mono nx⟩
 .intro i p hi hp;have e:i≠id:=by
   rintro rfl
   rw[eL (hs.aW i hd)]at hp;simp only[yAb]at hp;subst hp;exact hn'
  rw[cS e]at hp;obtain⟨b',cs',T',e1,e2,e3,e4⟩:=hs.box i p hi hp;refine⟨b',cs',T',(hρ i).trans e1,?_,e3.mono nx,e4⟩;exact bf
 .intro i e0 s n hi hi';have e:i≠id:=by
   exact pg
  rw[cS e]at hi';obtain⟨xs,hx'⟩:=hs.own i e0 s n hi hi';rw[hρ];exact⟨xs,L9 hx' (λg hg=>yCn (λe''=>hs.inj i id g hi hd e hg (by rw[e''];exact hb)))⟩
 .intro i e0 size ver ds hi hi';have e:i≠id:=by
   exact pg
  rw[cS e]at hi';obtain⟨b',C,cur,e1,e2,e3,e4,e5,e6,e7,e8⟩:=hs.row i e0 size ver ds hi hi';refine⟨b',C,cur,(hρ i).trans e1,?_,e3,e4,e5,e6,e7.mono nx,e8⟩;exact bf
 .intro i es hi hm
  by_cases e:i=id
  .subst e;rw[eL (hs.aW i hd)]at hm;simp only[yAb]at hm;subst hm;obtain⟨⟨ents,clock,e2,e3,e4⟩,e1⟩:=hfit;subst e2;exact⟨b,ents,clock,(hρ i).trans e1,hnew,e3.mono nx,e4.mono nx⟩
  .rw[cS e]at hm;obtain⟨b',ents,clock,e1,e2,e3,e4⟩:=hs.map i es hi hm;refine⟨b',ents,clock,(hρ i).trans e1,?_,e3.mono nx,e4.mono nx⟩;exact bf
 .intro i hi hm
  by_cases e:i=id
  .subst e;rw[eL (hs.aW i hd)]at hm;simp only[yAb]at hm;subst hm;obtain⟨hfit,hr⟩:=hfit;subst hfit;exact⟨b,(hρ i).trans hr,hnew⟩
  .rw[cS e]at hm;obtain⟨b',e1,e2⟩:=hs.mark i hi hm;refine⟨b',(hρ i).trans e1,?_⟩;exact bf
 .intro i st fr ps asg bd hi hm
  by_cases e:i=id
  .subst e;rw[eL (hs.aW i hd)]at hm;simp only[yAb]at hm;subst hm;obtain⟨hr,r,e2,e3,e4,e5,e6,e7⟩:=hfit;subst e2;exact⟨b,r,(hρ i).trans hr,hnew,e3,e4,e5,e6.mono nx,e7⟩
  .rw[cS e]at hm;obtain⟨b',r,e1,e2,e3,e4,e5,e6,e7⟩:=hs.loop i st fr ps asg bd hi hm;refine⟨b',r,(hρ i).trans e1,?_,e3,e4,e5,e6.mono nx,e7⟩;exact bf
 .exact qd
 .intro i b' hi h5;rw[hρ]at h5;show b'<(c.w.putObj b x').heap.size
  simpa using hs.lt i b' hi h5
 .exact ij
 .intro a ha;exact hs.fresh a (by simpa [Cx.put]using ha)
theorem Nx.putRow{w':World}{id size ver fE:Nat}{e:TypeId}{v':Value}{ds ds':Bw}(hs:Sr c)(hd:c.D id)(hq:c.σ[id]?=some (.row e size ver ds))(hfl:fl<=id)(hver:ver<=fE)(hsame:ver=fE->v'=c.ρ id)
  (h0:w'.os=c.w.os/\w'.tape=c.w.tape/\w'.output=c.w.output/\c.w.heap.size<=w'.heap.size)
  (h1:∀k,k<c.w.heap.size->aV (c.ρ id)≠some k->w'.heap[k]?=c.w.heap[k]?)
  (h3:aV v'=aV (c.ρ id)\/∀b,aV v'=some b->c.w.heap.size<=b) :
  Nx fl c (c.put w' id v' (.row e size fE ds')):=by
 refine⟨rfl,h0.1,h0.2.1,h0.2.2.1,h0.2.2.2,Ag,?_,λ_ h=>h,λ_ h=>.inl h,?_,?_,?_,?_,?_,?_,?_,λi _ hi=>cS (λe=>hi Bd)⟩
 .intro a u ha hu;have hne:∀b,aV (c.ρ id)=some b->a.block≠b:=ha.2 id _ hd hq;refine⟨⟨ha.1,λi o hi ho=>?_⟩,by
   show w'.cell? a=some u
   rw[yCj (h1 a.block (KH hu) (λh=>hne _ h rfl))];exact hu⟩
  by_cases e':i=id
  .subst e';rw[eL (hs.aW i hd)]at ho;simp only[yAb]at ho;subst ho;rw[mK];intro b hb hab;rcases h3 with h3|h3
   .exact hne b (by rw[<-h3];exact hb) hab
   .have:=h3 b hb;have:=KH hu;omega
  .rw[cS e']at ho;rw[eW e'];exact ha.2 i o hi ho
 .exact kZ
 .exact mb
 .intro i e0 s m hi ho;have e':i≠id:=by rintro rfl;rw[hq]at ho;cases ho
  exact⟨m,by rw[cS e'];exact ho,yAk _,λ_=>eW e'⟩
 .intro i e0 s v cs hi ho
  by_cases e':i=id
  .subst e';rw[eL (hs.aW i hd)]at ho;simp only[yAb,U.row.injEq]at ho;obtain⟨rfl,rfl,rfl,rfl⟩:=ho;exact⟨ver,ds,hq,hver,λh=>by rw[mK];exact hsame h⟩
  .exact⟨v,cs,by rw[cS e']at ho;exact ho,yAk _,λ_=>eW e'⟩
 .exact fh
 .intro k hk hx;exact h1 k hk (hx id hd hfl)
 .exact mq
theorem Sr.putRow{w':World}{id size ver fE:Nat}{e:TypeId}{v':Value}{ds ds':Bw}(hs:Sr c)(hd:c.D id)(hq:c.σ[id]?=some (.row e size ver ds))(hver:ver<=fE)(hsame:ver=fE->v'=c.ρ id)
  (h0:w'.os=c.w.os/\w'.tape=c.w.tape/\w'.output=c.w.output/\c.w.heap.size<=w'.heap.size)
  (h1:∀k,k<c.w.heap.size->aV (c.ρ id)≠some k->w'.heap[k]?=c.w.heap[k]?)
  (h3:aV v'=aV (c.ρ id)\/∀b,aV v'=some b->c.w.heap.size<=b)
  (h4:∃b C cur,v'=.slice (some ⟨b,0,none⟩) 0 C/\w'.heap[b]?=some (.cells cur e (0,0))/\cur.size=C*size/\C<=maxLen/\0<size/\ds'.length<=cur.size/\aJ c (cur.toList.take ds'.length) ds'/\∀v∈cur.toList,v.oneCell'=true) :
  Sr (c.put w' id v' (.row e size fE ds')):=by
 have nx:Nx 0 c (c.put w' id v' (.row e size fE ds')):=Nx.putRow hs hd hq (yAF _) hver hsame h0 h1 h3;have h5:∀b,aV v'=some b->b<w'.heap.size:=λb hb=>by
  obtain⟨b',C,cur,rfl,h6,_⟩:=h4;simp only[aV,yAb]at hb;subst hb;exact fM h6
 have hoth:∀i b,c.D i->i≠id->aV (c.ρ i)=some b->aV v'≠some b:=λi b hi hne hb hb'=>by
  exact jn
 refine⟨?_,?_,?_,?_,?_,?_,?_,?_,?_,?_,hs.gU.mono nx⟩
 .exact ud
 .intro i e0 s n hi ho;have e':i≠id:=xy;rw[cS e']at ho;obtain⟨xs,hx⟩:=hs.own i e0 s n hi ho;rw[eW e'];exact⟨xs,L9 hx (λg hg=>h1 g (hs.lt i g hi hg) (λh=>hs.inj i id g hi hd e' hg h))⟩
 .intro i e0 size' aQc ds0 hi ho
  by_cases e':i=id
  .subst e';rw[eL (hs.aW i hd)]at ho;simp only[yAb,U.row.injEq]at ho;obtain⟨rfl,rfl,rfl,rfl⟩:=ho;obtain⟨b',C,cur,e1,e2,e3,e4,e5,e6,e7,e8⟩:=h4;exact⟨b',C,cur,mK.trans e1,e2,e3,e4,e5,e6,e7.mono nx,e8⟩
  .rw[cS e']at ho;obtain⟨b',C,cur,e1,e2,e3,e4,e5,e6,e7,e8⟩:=hs.row i e0 size' aQc ds0 hi ho;exact uy
 .exact uc
 .exact uf
 .exact tj
 .exact cc
 .exact ju
 .exact ij
 .intro a ha;exact hs.fresh a (yBd h0.2.2.2 ha)
end
end
section
open Go.RowKit
section
variable{P:Program}{c:Cx}{fl:Nat}
theorem MB(b off j:Nat):(⟨b,off,none⟩:Addr).add j=⟨b,off+j,none⟩:=xq
theorem aQa{α:Type}(l vs:List α)(off dl:Nat)(h1:off+vs.length<=dl)(h2:dl<=l.length) :
  (l.take off++vs++l.drop (off+vs.length)).take dl=(l.take dl).take off++vs++(l.take dl).drop (off+vs.length):=by
 have e1:(l.take dl).take off=l.take off:=by rw[List.take_take];congr 1;omega
 have e2:(l.take off++vs).length=off+vs.length:=xw;rw[e1,List.take_append,e2,yAz (by rw[e2];omega),List.drop_take]
theorem aJ.fill{cells vs:Bz}{z ws:Bw}(hz:aJ c cells z)(hv:aJ c vs ws)(h1:∀v∈vs,v.oneCell'=true)(off:Nat)(hle:off+ws.length<=z.length) :
  aJ c (cells.take off++vs++cells.drop (off+vs.length)) (iM z off ws):=by
 have:=aDx hz (v:=.agg vs.toArray) (p:=.agg ws) (.agg vs ws hv.1 h1 hv.2) off hle;simpa [Value.cells,PD.cells]using this
theorem aAs(hs:Sr c){id e size ver:Nat}{ds:Bw}(hd:c.D id)(hq:c.σ[id]?=some (.row e size ver ds)){b C:Nat}(hr:c.ρ id=.slice (some ⟨b,0,none⟩) 0 C){vs:Bz}{ws:Bw}(hv:aJ c vs ws)
  (h1:∀v∈vs,v.oneCell'=true) {off:Nat} (hle:off+ws.length<=ds.length) (hfl:fl<=id) :
  ∃w',(storeCells ⟨b,off,none⟩ vs).run P c.w=.ok () w'/\Sr (c.put w' id (c.ρ id) (.row e size ver (iM ds off ws)))/\Nx fl c (c.put w' id (c.ρ id) (.row e size ver (iM ds off ws))):=by
 obtain⟨b',C',cur,e1,e2,e3,e4,e5,e6,e7,e8⟩:=hs.row id e size ver ds hd hq;rw[hr]at e1;simp only[yBH,yAb,yBD,yAW,yBI]at e1;obtain⟨rfl,rfl⟩:=e1;have hvl:vs.length=ws.length:=hv.1;have hst:=yDp (P:=P) b off e vs 0 cur c.w e2 xb h1;simp only[yBU]at hst;refine⟨_,hst,?_,?_⟩
 .refine Sr.putRow hs hd hq (yAk _) (λ_=>rfl) ⟨rfl,rfl,rfl,wz⟩ (λk _ hk=>yCf _ _ _ _ (λh=>hk (by rw[hr,h];rfl))) (.inl rfl)
   ⟨b,C,_,hr,yCC _ _ cur _ e (0,0) e2,?_,e4,e5,?_,?_,?_⟩
  .simp;omega
  .simp[iM];omega
  .have hpl:(iM ds off ws).length=ds.length:=by simp[iM];omega
   rw[hpl];show aJ c (List.take ds.length (cur.toList.take off++vs++cur.toList.drop (off+vs.length))) _
   rw[aQa _ _ _ _ xb (by simpa using e6)];exact e7.fill hv h1 off hle
  .exact V3 e8 h1 off (off+vs.length)
 .exact Nx.putRow hs hd hq hfl (yAk _) (λ_=>rfl) ⟨rfl,rfl,rfl,wz⟩ (λk _ hk=>yCf _ _ _ _ (λh=>hk (by rw[hr,h];rfl))) (.inl rfl)
end
end
section
open Go.RowKit
section
variable{P:Program}{c:Cx}{fl:Nat}
def Leaves(fl:Nat)(c:Cx)(p:PD)(σ':List U)(v:Value)(w':World):Prop:=
 ∃c',c'.w=w'/\c'.σ=σ'/\Sr c'/\Nx fl c c'/\VR c' v p/\∀id,c'.D id->c.D id\/(c.σ.length<=id/\id<σ'.length)
theorem RL{w:World}{a:Addr}{cs:Bz}{n:Nat}(hn:cs.length=n)(h:∀(j:Nat) (v:Value),cs[j]?=some v->w.cell? (a.add j)=some v) :
  (loadCells a n).run P w=.ok cs.toArray w:=by
 subst hn;exact run_loadCells_list w a cs h
theorem aDu{w:World}{ad:Addr}{bU:Bz}{ds:Bw}(hl:aJ c bU ds)(h1:∀v∈bU,v.oneCell'=true)(hc:∀(j:Nat) (v:Value),bU[j]?=some v->w.cell? (ad.add j)=some v)
  {t:TypeId} {off:Nat} {p:PD} (h:mC P t ds off=some p):∃v,(loadVar t (ad.add off)).run P w=.ok v w/\VR c v p:=by
 unfold mC at h;split at h
 .rename_i n ha hs;split at h
  .rename_i hle;simp only[yAb]at h;subst h;have hlen:((bU.drop off).take n).length=n:=by have:=hl.1;simp;omega
   refine⟨.agg ((bU.drop off).take n).toArray,?_,?_⟩
   .have:=RL (P:=P) (w:=w) (a:=ad.add off) hlen (λj v hv=>by
     rw[yAv]at hv;split at hv
     .rw[yBC]at hv;rw[NN];exact hc _ v hv
     .simp at hv)
    simp[loadVar,aAx ha,lE hs,this]
   .have h2:=hl.take_drop off n;exact .agg _ _ h2.1 (λv hv=>h1 v (yBN (yAy hv))) h2.2
  .exact ah
 .rename_i n ha hs;obtain⟨v,hv,hr⟩:=hl.get h;exact⟨v,by simp[loadVar,aAx ha,hc _ v hv],hr⟩
 .exact ah
theorem aHA(hs:Sr c){t:TypeId}{a p:PD}(h:j8 P c.σ t a=some p){va:Value}(ha:VR c va a):∃v,(Instr.loadAt t va).run P c.w=.ok v c.w/\VR c v p:=by
 unfold j8 at h;split at h
 .rename_i id off;split at h
  .rename_i q hq;obtain⟨b,rfl,hd,_,hr⟩:=ha.vQ;obtain⟨b',cs,T,e1,e2,e3,e4⟩:=hs.box id q hd hq;rw[hr]at e1;simp only[yCl,yAb,yBD,yAW]at e1;subst e1;have hadd:∀j,(⟨b,0,none⟩:Addr).add j=⟨b,j,none⟩:=λj=>xq
   obtain⟨v,r,q⟩:=aDu (P:=P) (w:=c.w) (ad:=⟨b,0,none⟩) e3 e4.1 (λj v hv=>by
    rw[hadd];simp only[World.cell?,e2];simpa using hv) h
   rw[hadd]at r;exact ld
  .exact ah
 .rename_i cs off;obtain⟨ad,bU,rfl,h1,h2,h3⟩:=ha.RS;obtain⟨v,r,q⟩:=aDu (P:=P) (w:=c.w) h1 h2 (λj v hv=>(h3 j v hv).1) h;exact ld
 .rename_i id ver off;split at h
  .rename_i e sz fE cs hq;split at h
   .rename_i hver;subst hver;obtain⟨b,rfl,hp⟩:=ha.RH;obtain⟨C,hr⟩:=(hp.2 e sz _ cs hq).2 rfl;obtain⟨b',C',cur,e1,e2,e3,e4,e5,e6,e7,e8⟩:=hs.row id e sz _ cs hp.1 hq;rw[hr]at e1;simp only[yBH,yAb,yBD,yAW,yBI]at e1;obtain⟨rfl,rfl⟩:=e1;obtain⟨v,r,q⟩:=aDu (P:=P) (w:=c.w) (ad:=⟨b,0,none⟩) e7 (λv hv=>e8 v (yAy hv)) (λj v hv=>by
     rw[MB];simp only[World.cell?,e2];rw[yAv]at hv;split at hv
     .simpa using hv
     .cases hv) h
    rw[MB]at r;simp only[yAp]at r;exact ld
   .cases h
  .cases h
 .exact ah
theorem HT(w:World)(o:Obj):w.grownBy (w.alloc o) none:=World.grownBy_alloc w o none
theorem aP7{c:Cx}{v:Value}{p:PD}(h:HP v=some p):VR c v (EP p):=by
 by_cases hp:p=.slice 0 [] .full
 .subst hp;have hv:v=.slice none 0 0:=by
   unfold HP at h;split at h<;>first|rfl|(simp at h;done)
  subst hv;exact .slice none 0 0 0 [] .nil [] rfl (yAk _) (by simp[maxLen]) wz rfl wz wz wz ⟨rfl,rfl,rfl⟩
 .have:EP p=p:=by
   unfold EP;split
   .exact absurd rfl hp
   .rfl
  rw[this];exact(aDv h).1
theorem aIg{c:Cx}:∀ {vs:Bz} {ps:Bw},CN vs=some ps->aJ c vs (ps.map EP)
 | [],ps,h=>by simp[CN]at h;subst h;exact⟨rfl,wz⟩
 |v::vs,ps,h=>by
  unfold CN at h;cases h1:HP v with
  |none=>simp[h1]at h
  |some p=>
   cases h2:CN vs with
   |none=>simp[h1,h2]at h
   |some qs=>
    simp[h1,h2]at h;subst h;have a1:=aP7 (c:=c) h1;obtain⟨b1,b2⟩:=aIg (c:=c) h2;refine⟨by simpa using b1,λi v' d hv hd=>?_⟩;exact jl
theorem aP8{c:Cx}{v:Value}{p:PD}(t:TypeId)(h:ofValue v=some p):aJ c v.cells.toList (boxed t p).cells:=by
 have h0:=(aDw (c:=c) h).cells;cases p with
 |agg cs=>
  show aJ c _ (if EN t=true then PD.typed t (cs.map EP)else PD.agg cs).cells
  by_cases ht:EN t=true
  .rw[yAJ ht];unfold ofValue at h;split at h
   .split at h
    .rename_i ps hps;simp only[yAb,PD.agg.injEq]at h;subst h;exact aIg hps
    .exact ah
   .split at h<;>simp at h
   .unfold HP at h;split at h<;>simp at h
  .rw[yAI ht];exact h0
 |_=>exact h0
theorem aAk{t:TypeId}{p:PD}(h:dS P t=some p){v:Value}{i:TypeInfo}(hi:P.info? t=some i)(hz:i.zero=some v)(t':TypeId):aJ c v.cells.toList (boxed t' p).cells:=by
 unfold dS at h;rw[hi]at h;simp only[hz]at h;exact aP8 t' h
theorem aAl{c:Cx}{T t:TypeId}{p:PD}{v:Value}{ds:Bw}(hv:VR c v p)(h:boxed T p=.typed t ds):T=t:=by
 unfold boxed at h;exact ni
theorem aPv(t:TypeId)(p:PD):(mE t p).cells=p.cells:=by
 unfold mE;split
 .split<;>rfl
 .rfl
theorem aPw{c:Cx}{T t:TypeId}{p:PD}{v:Value}{ds:Bw}(hv:VR c v p)(h:mE T p=.typed t ds):T=t:=by
 unfold mE at h;exact ni
theorem aC8(hs:Sr c){p:PD}{v:Value}(hcv:aJ c v.cells.toList p.cells)(h1:∀u∈v.cells.toList,u.oneCell'=true)(T:TypeId)(hT:∀t ds,p=.typed t ds->T=t) :
  (newVar T v).run P c.w=.ok ⟨c.w.heap.size,0,none⟩ (c.w.alloc (.cells v.cells T)) /\
  Leaves fl c (.ptr c.σ.length 0) (c.σ++[.box p]) (.pointer (some ⟨c.w.heap.size,0,none⟩)) (c.w.alloc (.cells v.cells T)):=by
 refine⟨by simp[newVar,newRow],c.push (c.w.alloc (.cells v.cells T)) (.pointer (some ⟨c.w.heap.size,0,none⟩)) (.box p),rfl,rfl,?_,?_,?_,?_⟩
 .refine Sr.push hs (HT _ _) (λb hb=>?_) ⟨_,v.cells,T,rfl,yBB _ _,hcv,h1,hT⟩;simp[aV]at hb;subst hb;simp
 .refine Nx.push hs (HT _ _) (λb hb=>?_);simp[aV]at hb;subst hb;exact yAk _
 .exact .ptr _ _ _ (.inr rfl) ⟨p,fB.1⟩ fB.2.1
 .exact ay
theorem aH1{q q':PD}{off:Nat}{new:Bw}(h:q.setCells off new=some q')(hn:new.all PD.plain=true):off+new.length<=q.cells.length/\q'.cells=iM q.cells off new:=by
 unfold PD.setCells at h;split at h
 .split at h
  .exact su
  .exact ah
 .split at h
  .exact su
  .exact ah
 .rename_i hne aP9;split at h
  .rename_i h0;subst h0;split at h
   .rename_i r;simp only[yAb]at h;subst h;have hq:q.cells=[q]:=by cases q<;>first|rfl|(exact(hne _ rfl).elim)|(exact(aP9 _ _ rfl).elim)
    have hr:r.cells=[r]:=by
     have:r.plain=true:=Bf;cases r<;>first|rfl|(simp[PD.plain]at this)
    rw[hq,hr];exact⟨wz,by simp[iM]⟩
   .exact ah
  .exact ah
theorem aH2{q q':PD}{off:Nat}{new:Bw}(h:q.setCells off new=some q')(hn:new.all PD.plain=true){t:TypeId}{ds:Bw}(e:q'=.typed t ds):∃ds',q=.typed t ds':=by
 subst e;unfold PD.setCells at h;split at h
 .split at h<;>simp at h
 .split at h
  .simp only[yAb,PD.typed.injEq]at h;obtain⟨rfl,_⟩:=h;exact⟨_,rfl⟩
  .exact ah
 .split at h
  .split at h
   .simp only[yAb]at h;subst h;simp[PD.plain]at hn
   .exact ah
  .exact ah
theorem aPu(hs:Sr c){t:TypeId}{a p:PD}{σ':Bv}(h:pC P fl c.σ t a p=some σ'){va v:Value}(ha:VR c va a)(hv:VR c v p) :
  ∃w',(Instr.storeAt t va v).run P c.w=.ok () w'/\Leaves fl c (.aK []) σ' undef w':=by
 unfold pC at h;split at h
 .rename_i id off;split at h
  .rename_i hfl;split at h
   .rename_i q n hq hn;split at h
    .rename_i hp;split at h
     .rename_i q' mY;simp only[yAb]at h;subst h;obtain⟨b,rfl,hd,_,hr⟩:=ha.vQ;obtain⟨b',cs,T,e1,e2,e3,e4⟩:=hs.box id q hd hq;rw[hr]at e1;simp only[yCl,yAb,yBD,yAW]at e1;subst e1;obtain⟨hle,hcq⟩:=aH1 mY hp.2;have hvc:=hv.cells;have kQ:=aJ.ER hvc hp.2;have hvl:v.cells.toList.length=n:=by rw[hvc.1];exact hp.1
      have hcl:cs.toList.length=q.cells.length:=e3.1;have hst:=yDp (P:=P) b off T v.cells.toList 0 cs c.w e2 (by have:=hvc.1;simp at hcl ⊢;simp at this;omega) kQ;simp only[yBU]at hst;refine⟨_,?_,c.put (c.w.setRow b (cs.toList.take off++v.cells.toList++cs.toList.drop (off+v.cells.toList.length)).toArray) id (c.ρ id) (.box q'),rfl,rfl,?_,?_,V9 _,λi hi=>.inl hi⟩
      .have hsz:v.cells.size=n:=by simpa using hvl
       exact mc
      .refine Sr.MC (T:=T) hs hd hq hr ⟨rfl,rfl,rfl,wz⟩ (λk hk=>yCf _ _ _ _ hk) (yCC _ _ cs _ T (0,0) e2) ?_ ?_
       .rw[hcq];have:=aDx e3 hv off (by rw[hvc.1]at hvl;omega);exact bn
       .refine⟨by have:=V3 e4.1 kQ off (off+v.cells.toList.length);simpa using this,λt ds e=>?_⟩;exact e4.2 t _ (aH2 mY hp.2 e).choose_spec
      .exact qn
     .exact ah
    .exact ah
   .exact ah
  .exact ah
 .rename_i id ver off;split at h
  .rename_i hfl;split at h
   .rename_i e sz fE cs n hq hn;split at h
    .rename_i hc;obtain⟨rfl,hpl,hpp,hle⟩:=hc;simp only[yAb]at h;subst h;obtain⟨b,rfl,hp⟩:=ha.RH;obtain⟨C,hr⟩:=(hp.2 e sz _ cs hq).2 rfl;have hvc:=hv.cells;obtain⟨w',hst,hs',hn'⟩:=aAs (P:=P) (fl:=fl) hs hp.1 hq hr hvc (aJ.ER hvc hpp) (off:=off) xb hfl;have hsz:v.cells.size=n:=by have:=hvc.1;simp at this;omega
     refine⟨w',?_,_,rfl,rfl,hs',hn',V9 _,λi hi=>.inl hi⟩;exact mc
    .exact ah
   .exact ah
  .exact ah
 .exact ah
end
end
section
open Go.RowKit
section
variable{P:Program}{c:Cx}{fl:Nat}
theorem aIa{c':Cx}{e:TypeId}{size n m:Nat}{v':Value}{xs ys:Bw}{flx fly:Bz}{tok:Tok}(hnx:n=xs.length)(hmy:m=ys.length)(hpos:0<n+m)
  (hx:∀x∈xs,x.cells.length=size) (hy:∀x∈ys,x.cells.length=size) (hlx:flx.length=n*size)
  (OC:∀v∈flx,v.oneCell'=true) (h1y:∀v∈fly,v.oneCell'=true)
  (hrx:∀(j:Nat) (v:Value) (d:PD),flx[j]?=some v->(xs.flatMap PD.cells)[j]?=some d->VR c' v d)
  (hry:∀(j:Nat) (v:Value) (d:PD),fly[j]?=some v->(ys.flatMap PD.cells)[j]?=some d->VR c' v d)
  (hown:c'.w.ownsRowF 0 e size v' (n+m) (flx++fly))
  (hav:∀g j,aV v'=some g->j<(n+m)*size->c'.av ⟨g,j,none⟩)
  (htok:∀cap,v'=.slice (match v' with|.slice A _ _=>A|_=>none) (n+m) cap->pJ c' size (n+m) cap v' tok) :
  VR c' v' (.slice size (xs++ys) tok):=by
 rcases hown.2 with⟨rfl,h0⟩ | ⟨g,cap,cur,fz,rfl,_,hg,_,hnc,hcm,hcs,htake⟩
 .omega
 .have hlen:(flx++fly).length=(n+m)*size:=hown.1;have hle:(n+m)*size<=cur.toList.length:=by simp[hcs];exact yBO _ hnc
  refine .slice _ (n+m) cap size (xs++ys) tok (flx++fly) (by simp[hnx,hmy]) hnc hcm ?_ hlen ?_ ?_ ?_ (htok cap rfl)
  .intro x hx';rcases yBn.1 hx' with h|h
   .exact hx x h
   .exact hy x h
  .intro v hv;rcases yBn.1 hv with h|h
   .exact OC v h
   .exact h1y v h
  .intro j v hv;have hj:j<(n+m)*size:=by rw[<-hlen];exact(yA.1 hv).1
   refine⟨⟨g,0,none⟩,rfl,?_,?_⟩
   .have hadd:(⟨g,0,none⟩:Addr).add j=⟨g,j,none⟩:=by unfold Addr.add;split<;>simp_all
    rw[hadd];rw[<-htake,yAv,yAJ hj]at hv;simp only[World.cell?,hg];simpa using hv
   .have hadd:(⟨g,0,none⟩:Addr).add j=⟨g,j,none⟩:=by unfold Addr.add;split<;>simp_all
    rw[hadd];exact hav g j rfl hj
  .intro j v d hv hd;rw[yCv]at hd;have hfx:(xs.flatMap PD.cells).length=flx.length:=by rw[OB xs hx,hlx,hnx]
   rw[yDa]at hv hd
   by_cases h:j<flx.length
   .rw[yAJ h]at hv;rw[yAJ (by rw[hfx];exact h)]at hd;exact hrx j v d hv hd
   .rw[yAI h]at hv;rw[yAI (by rw[hfx];exact h),hfx]at hd;exact hry _ v d hv hd
theorem WA{c':Cx}{a:Addr}(hX:c'.X a)(h:∀id o,c'.D id->c'.σ[id]?=some o->aV (c'.ρ id)=some a.block->∃e size n,o=.own e size n/\a.off<n*size):c'.av a:=by
 refine⟨hX,λid o hd ho=>?_⟩;cases o with
 |none=>trivial
 |box p=>
  intro b hb hab;obtain⟨_,_,_,e,_⟩:=h id _ hd ho (by rw[hb,hab]);cases e
 |own e size n=>
  intro b hb hab;obtain⟨_,_,_,e',hlt⟩:=h id _ hd ho (by rw[hb,hab]);cases e';exact hlt
 |row e size ver ds=>
  intro b hb hab;obtain⟨_,_,_,e',_⟩:=h id _ hd ho (by rw[hb,hab]);cases e'
 |map es=>trivial
 |mark=>trivial
 |loop st fr ps asg bd=>trivial
theorem aDr{w:World}{e:TypeId}{size n:Nat}{v:Value}{xs:Bz}(h:w.ownsRowF 0 e size v n xs){b:Nat}(hb:aV v=some b):b<w.heap.size:=by
 rcases h.2 with⟨rfl,_⟩ | ⟨g,cap,cur,fz,rfl,_,hg,_⟩
 .simp[aV]at hb
 .simp[aV]at hb;subst hb;exact fM hg
def Xw(fl:Nat)(c:Cx):Prop:=∀id g,c.D id->fl<=id->aV (c.ρ id)=some g->∀a:Addr,a.block=g->c.X a
theorem Xw.next{c':Cx}(h:Xw fl c)(hs:Sr c)(nx:Nx fl c c'):Xw fl c':=by
 intro id g hd hf hb a ha;rw[nx.X];rcases yBy g c.w.heap.size with hlt|hge
 .obtain⟨q1,q2⟩:=nx.back id g hd hb hlt;exact h id g q1 hf q2 a ha
 .exact hs.fresh a xb
theorem aPY{w:World}{e:TypeId}{size n cap:Nat}{A:Option Addr}{WB flx:Bz}(h:w.ownsRowF 0 e size (.slice A n cap) n WB)(hl:flx.length=n*size)
  (hc:∀(j:Nat) (v:Value),flx[j]?=some v->∃ad,A=some ad/\w.cell? (ad.add j)=some v):flx=WB:=by
 apply yBT;intro j;rcases h.2 with⟨hv,h0⟩ | ⟨g,cap',cur,fz,hv,_,hg,_,hnc,_,hcs,htake⟩
 .have e1:flx=[]:=yAf (by rw[hl,h0];simp);have e2:WB=[]:=yAf (by rw[h.1,h0];simp);rw[e1,e2]
 .simp only[yBH]at hv;obtain⟨rfl,_,rfl⟩:=hv
  by_cases hj:j<n*size
  .have hj':j<flx.length:=by rw[hl];exact hj
   obtain⟨ad,e,hcell⟩:=hc j flx[j] (by simp[hj']);cases e;have hadd:(⟨g,0,none⟩:Addr).add j=⟨g,j,none⟩:=xq;rw[hadd]at hcell;simp only[World.cell?,hg]at hcell;rw[<-htake,yAv,yAJ hj];rw[yAh hj'];simpa using hcell.symm
  .rw[yBp (by rw[hl];omega),yBp (by rw[h.1];omega)]
structure Src (P:Program) (w:World) (t u ty e:TypeId) (i:TypeInfo) (vx:Value) (m:Nat) (fly:List Value):Prop where
 none_:m=0->∀(A:Option Addr) (n cap:Nat),n<=cap->(Builtin.append_ #[t,u] ty #[.slice A n cap,vx]).run P w=.ok (.slice A n cap) w
 grow:0<m->∀(A:Option Addr) (n cap:Nat) (flx:List Value),(A=none->n=0/\cap=0)->flx.length=n*i.size->(∀(j:Nat) (v:Value),flx[j]?=some v->∃ad,A=some ad/\w.cell? (ad.add j)=some v) ->
  cap<n+m->n+m<=maxLen->(n+m)*i.bytes<=140737488355328 ->
  ∃v' w',(Builtin.append_ #[t,u] ty #[.slice A n cap,vx]).run P w=.ok v' w'/\w'.ownsRowF 0 e i.size v' (n+m) (flx++fly)/\w.grownBy w' none/\∀b,aV v'=some b->w.heap.size<=b
 spare:∀(g n cap:Nat) (flx:List Value),w.ownsRowF 0 e i.size (.slice (some ⟨g,0,none⟩) n cap) n flx->n+m<=cap ->
  ∃w',(Builtin.append_ #[t,u] ty #[.slice (some ⟨g,0,none⟩) n cap,vx]).run P w=.ok (.slice (some ⟨g,0,none⟩) (n+m) cap) w' /\
   w'.ownsRowF 0 e i.size (.slice (some ⟨g,0,none⟩) (n+m) cap) (n+m) (flx++fly)/\w.grownBy w' (some g)
theorem aIb{w:World}{b:Nat}{e:TypeId}{size n:Nat}{v:Value}{xs:Bz}(h:w.ownsRow b e size v n xs):w.ownsRowF 0 e size v n xs:=
 ⟨h.1,h.2.imp (λq=>q) (λ⟨g,cp,cur,q1,_,q2,q3⟩=>⟨g,cp,cur,(0,0),q1,yAF _,q2,yAF _,q3⟩)⟩
theorem aIc{w:World}{b:Nat}{e:TypeId}{size n:Nat}{v:Value}{xs:Bz}(h:w.ownsRow b e size v n xs):∀k,aV v=some k->b<=k:=by
 intro k hb;rcases h.2 with⟨rfl,_⟩ | ⟨g,cp,cur,rfl,hge,_⟩
 .simp[aV]at hb
 .simp[aV]at hb;omega
theorem aPZ{w:World}{b:Nat}{e:TypeId}{size n:Nat}{v:Value}{xs:Bz}(h:w.ownsRowF b e size v n xs):∀k,aV v=some k->b<=k:=by
 intro k hb;rcases h.2 with⟨rfl,_⟩ | ⟨g,cp,cur,fz,rfl,hge,_⟩
 .simp[aV]at hb
 .simp[aV]at hb;omega
theorem aP0{w:World}{b:Nat}{e:TypeId}{size n:Nat}{v:Value}{xs:Bz}(h:w.ownsRowF b e size v n xs):w.ownsRowF 0 e size v n xs:=
 ⟨h.1,h.2.imp (λq=>q) (λ⟨g,cp,cur,fz,q1,_,q2⟩=>⟨g,cp,cur,fz,q1,yAF _,q2⟩)⟩
theorem aP1{w:World}{t ty e:TypeId}{i:TypeInfo}{z:Value}(hu:P.underlying t=some (.slice e))(hi:P.info? e=some i)(hz:i.zero=some z)(hzs:z.cells.size=i.size)(hpos:0<i.size){B:Option Addr}{m c':Nat}{fly:Bz}
  (hl:fly.length=m*i.size) (h1:∀v∈fly,v.oneCell'=true) (hb:∀(j:Nat) (v:Value),fly[j]?=some v->∃ad,B=some ad/\w.cell? (ad.add j)=some v):Src P w t t ty e i (.slice B m c') m fly where
 none_:=λh0 A n cap hn=>by
  subst h0;have hfy:(Builtin.firstCells i.size 0 (.slice B 0 c')).run P w=.ok #[] w:=by
   cases B<;>simp[Builtin.firstCells,loadCells,loadCellsFrom]
  exact oh
 grow:=λhm A n cap flx hA hlx hc hcap hmax hby=>by
  have aDj:0<fly.length:=by rw[hl];exact yCW hm hpos
  obtain⟨bd,rfl,_⟩:=hb 0 fly[0] (by simp[aDj]);have hnews:∀(j:Nat) (u:Value),fly[j]?=some u->w.cell? (bd.add j)=some u:=λj u hj=>by
   obtain⟨ad,e',h9⟩:=hb j u hj;exact ir
  cases A with
  |none=>
   obtain⟨rfl,rfl⟩:=hA rfl;have OD:flx=[]:=yAf Bn;subst OD;obtain⟨v',w',r,h2,h3,h4,h5⟩:=run_append_own_at (P:=P) w w.heap.size t ty e i z i.size i.bytes hu hi hz rfl rfl hzs hpos (.slice none 0 0) 0 [] (World.ownsRow_nil _ _ _ _)
    bd m c' fly hl hnews h1 xb (by simpa using hby) (yAk _)
   exact⟨v',w',r,aIb h2,h3,aIc h2⟩
  |some ad=>
   have holds:∀(j:Nat) (u:Value),flx[j]?=some u->w.cell? (ad.add j)=some u:=λj u hj=>by
    obtain⟨V2,e',h9⟩:=hc j u hj;exact ir
   obtain⟨v',w',r,h2,h3⟩:=run_append_arg_grows (P:=P) w t ty e i z i.size i.bytes hu hi hz rfl rfl hzs hpos ad n cap flx hlx holds bd m c' fly hl hnews hcap hmax hby;exact⟨v',w',r,aIb h2,h3,aIc h2⟩
 spare:=λg n cap flx hown hroom=>by
  rcases hown.2 with⟨h0,_⟩ | ⟨g',cap',cur,fz,hv,hbg,hg,hfz,hnc,hcm,hcs,htake⟩
  .cases h0
  .cases hv;have hlen:(flx++fly).length=(n+m)*i.size:=by rw[yAa,hown.1,hl,yBl]
   have hfit:n*i.size+fly.length<=cur.size:=by rw[hl,hcs,<-yBl];exact yBO _ hroom
   have hst:=run_storeCells_atF P g (n*i.size) e fz fly 0 cur w hg (by simpa using hfz) (by simpa using hfit) h1;simp only[yBU]at hst;have hf:(Builtin.firstCells i.size m (.slice B m c')).run P w=.ok fly.toArray w:=by
    cases B with
    |none=>
     have:fly=[]:=by
      cases fly with
      |nil=>rfl
      |cons x xs=>obtain⟨_,e',_⟩:=hb 0 x rfl;cases e'
     exact oq
    |some bd=>
     simp only[Builtin.firstCells];exact RL hl λj v hj=>by
      obtain⟨ad,e',h9⟩:=hb j v hj;exact ir
   have hr:(Builtin.append_ #[t,t] ty #[.slice (some ⟨g,0,none⟩) n cap,.slice B m c']).run P w =
     .ok (.slice (some ⟨g,0,none⟩) (n+m) cap) (w.setRow g (cur.toList.take (n*i.size)++fly++cur.toList.drop (n*i.size+fly.length)).toArray):=by
    simp[Builtin.append_,yAO hu,sizeOf,typeInfo,hi,Builtin.lenOf,hroom,hf,Addr.add_lit,hst]
   refine⟨_,hr,⟨hlen,.inr ⟨g,cap,_,fz,rfl,hbg,yCC w g cur _ e _ hg,?_,hroom,hcm,?_,?_⟩⟩,⟨rfl,rfl,rfl,wz,λk _ hk=>yCf w g k _ (λe=>hk (by simp[e]))⟩⟩
   .exact yBd hfz (yBO _ xb)
   .simp only[yCA,yAa,yAt,yBe,yCb];omega
   .rw[htake,<-hlen];exact yCB
theorem aHX{w:World}{t u ty e:TypeId}{i:TypeInfo}(hu:P.underlying t=some (.slice e))(hs:P.underlying u=some .string)(hi:P.info? e=some i)(hz:i.zero=some (.int .u8 0))(hsz:i.size=1)(hby:i.bytes=1)(l:List UInt8) :
  Src P w t u ty e i (.string ⟨l.toArray⟩) l.length (l.map λb=>.int .u8 b.toNat):=by
 have hsl:(ByteArray.mk l.toArray).size=l.length:=zd;have hcl:Lib.strCells ⟨l.toArray⟩=l.map λb=>Value.int .u8 b.toNat:=by simp[Lib.strCells]
 refine⟨λh0 A n cap hn=>?_,λhm A n cap flx hA hlx hc hcap hmax hb=>?_,λg n cap flx hown hroom=>?_⟩
 .have:l=[]:=yAf h0;subst this;have hfy:(Builtin.firstCells i.size 0 (.string ⟨#[]⟩)).run P w=.ok #[] w:=by simp[Builtin.firstCells]
  have hl0:(ByteArray.mk (#[]:Array UInt8)).size=0:=rfl;cases A<;>simp[Builtin.append_,yAO hu,yAO hs,sizeOf,typeInfo,hi,Builtin.lenOf,hl0,hfy,hn,storeCells]
 .cases A with
  |none=>
   obtain⟨rfl,rfl⟩:=hA rfl;have OD:flx=[]:=yAf Bn;subst OD;obtain⟨v',w',r,h2,h3,_⟩:=Lib.run_append_own_stringF (P:=P) w w.heap.size t u ty e i hu hs hi hz hsz hby (.slice none 0 0) 0 [] (World.ownsRowF_nil _ _ _ _) ⟨l.toArray⟩ xb (by rw[hsl];rw[hby]at hb;omega) (yAk _);rw[hsl,hcl]at h2;rw[hsz];exact⟨v',w',r,aP0 h2,h3,aPZ h2⟩
  |some ad=>
   have holds:∀(j:Nat) (u:Value),flx[j]?=some u->w.cell? (ad.add j)=some u:=λj u hj=>by
    obtain⟨V2,e',h9⟩:=hc j u hj;exact ir
   have hr:=Lib.run_append_grow_string (P:=P) w t u ty e i (.int .u8 0) hu hs hi hz ad n cap flx hlx holds ⟨l.toArray⟩ xb zn (by rw[hby,hsl];exact yDo xb (by rw[hby]at hb;omega));rw[hsl]at hr;have hge:=yCX w (n+l.length) cap e;have aP2:grownCap w (n+l.length) cap e<=maxLen:=yCY w (n+l.length) cap e hmax;refine⟨_,_,hr,⟨by simp[hlx,hsz],.inr ⟨w.heap.size,_,_,(0,0),rfl,yAF _,yBB w.drew _,yAF _,hge,aP2,?_,?_⟩⟩,⟨rfl,rfl,rfl,wz,λk hk _=>yDn w.drew _ hk⟩,λb hb'=>by simp[aV]at hb';omega⟩
   .have hz1:(Value.int IntKind.u8 0).cells.size=1:=rfl;rw[hsz]at hlx;simp only[Array.size_append,yCA,size_zeroCells,hz1,hlx,hcl,yAe,hsz];omega
   .rw[hcl,hsz];simp only[yCz,yAi];rw[<-yAi];have:(n+l.length)*1=(flx++l.map λb=>Value.int .u8 b.toNat).length:=by rw[yAa,hlx,hsz,yAe];omega
    rw[this];exact yCB
 .rcases hown.2 with⟨h0,_⟩ | ⟨g',cap',cur,fz,hv,hbg,hg,hfz,hnc,hcm,hcs,htake⟩
  .cases h0
  .cases hv;rw[hsz]at hown hfz hcs htake;have hxl:flx.length=n:=by simpa using hown.1
   have hr:=Lib.run_append_room_stringF (P:=P) w t u ty e i hu hs hi hsz g n cap cur fz hg (by simpa using hfz) ⟨l.toArray⟩ (by rw[hsl];exact hroom) (by rw[hsl];omega);rw[hsl,hcl]at hr;have hlen:(flx++l.map λb=>Value.int .u8 b.toNat).length=(n+l.length)*1:=by rw[yAa,hxl,yAe,yDb]
   rw[hsz];refine⟨_,hr,⟨hlen,.inr ⟨g,cap,_,fz,rfl,hbg,yCC w g cur _ e _ hg,xb,hroom,hcm,?_,?_⟩⟩,⟨rfl,rfl,rfl,wz,λk _ hk=>yCf w g k _ (λe=>hk (by simp[e]))⟩⟩
   .simp only[yCA,yAa,yAt,yBe,yCb,yAe];omega
   .have ht':cur.toList.take n=flx:=by simpa using htake
    rw[ht',<-hlen];exact yCB
theorem aId(hs:Sr c)(hX:Xw fl c){t u ty:TypeId}{s p:PD}{sz':Nat}{ys:Bw}{bY:Tok}{σ':Bv}(hnn:∀n xs,s≠.slice n xs .nil)(h:dV P fl c.σ t s (.slice sz' ys bY)=some (p,σ')){vs vx:Value}(hvs:VR c vs s){fly:Bz}
  (b3:∀x∈ys,x.cells.length=sz') (b5:∀v∈fly,v.oneCell'=true) (b7:∀(j:Nat) (v:Value) (d:PD),fly[j]?=some v->(ys.flatMap PD.cells)[j]?=some d->VR c v d)
  (hsrc:∀e i z,P.underlying t=some (.slice e)->P.info? e=some i->i.zero=some z->z.cells.size=i.size->0<i.size->(ys.length=0\/sz'=i.size)->Src P c.w t u ty e i vx ys.length fly) :
  ∃v w',(Builtin.append_ #[t,u] ty #[vs,vx]).run P c.w=.ok v w'/\Leaves fl c p σ' v w':=by
 unfold dV at h;split at h
 .rename_i e hu;split at h
  .rename_i i hi;split at h
   .rename_i z sz xs tok J9 ys1 a1h hz hxx;simp only[PD.slice.injEq]at hxx;obtain⟨rfl,rfl,rfl⟩:=hxx;split at h
    .rename_i hc;obtain⟨hsz,OE,hpos,hzs,hmax,hby⟩:=hc;obtain⟨A,cap,flx,rfl,a1,a2,a3,a4,a5,a6,a7,a8⟩:=hvs.nW;have src:=hsrc e i z hu hi hz hzs hpos OE
     by_cases hy0:ys.length=0
     ·
      rw[yAJ hy0]at h;simp only[yAb,yAc]at h;obtain⟨rfl,rfl⟩:=h;exact⟨.slice A xs.length cap,c.w,src.none_ hy0 A _ cap a1,c,rfl,rfl,hs,.refl _ _,hvs,λ_ h=>.inl h⟩
     .rw[yAI hy0]at h;have hypos:0<ys.length:=yCu hy0;have aP3:sz'=i.size:=OE.resolve_left hy0;subst aP3;have hcells:∀(j:Nat) (v:Value),flx[j]?=some v->∃ad,A=some ad/\c.w.cell? (ad.add j)=some v:=λj v hj=>by
       exact jr
      cases tok with
      |any=>simp at h
      |HX=>simp at h
      |HY=>simp at h
      |nil=>exact absurd rfl (hnn _ _)
      |full=>
       simp only[yAb,yAc]at h;obtain⟨rfl,rfl⟩:=h;simp only[pJ]at a8;have hx3:∀x∈xs,x.cells.length=i.size:=λx hx=>by
        have:xs.length≠0:=by intro e0;rw[yDJ.1 e0]at hx;cases hx
        rw[<-hsz.resolve_left this];exact a3 x hx
       have hx4:flx.length=xs.length*i.size:=by
        exact qy
       have hA:A=none->xs.length=0/\cap=0:=by
        rintro rfl
        have hx0:xs.length=0:=by
         rcases yDH xs.length with h0|h0
         .exact h0
         .have:0<flx.length:=by rw[hx4];exact yCW h0 hpos
          exact qx
        exact⟨hx0,xb⟩
       obtain⟨v',w',r,hown,hgr,hnew⟩:=src.grow hypos A xs.length cap flx hA hx4 hcells xb hmax hby;refine⟨v',w',r,c.push w' v' (.own e i.size (xs.length+ys.length)),rfl,rfl,?_,?_,?_,?_⟩
       .exact Sr.push hs hgr (λb hb=>⟨hnew b hb,aDr hown hb⟩) ⟨_,hown⟩
       .exact Nx.push hs hgr hnew
       .have nx:Nx 0 c (c.push w' v' (.own e i.size (xs.length+ys.length))):=Nx.push hs hgr hnew;refine aIa (e:=e) (flx:=flx) (fly:=fly) rfl rfl xb hx3 b3 hx4 a5 b5 (λj v d q1 q2=>(a7 j v d q1 q2).mono nx) (λj v d q1 q2=>(b7 j v d q1 q2).mono nx) hown ?_ ?_
        .intro g j hg hj;refine WA (hs.fresh _ (hnew g hg)) (λid o hd ho hb=>?_);rcases hd with hd|rfl
         .rw[nS hs hd]at hb;have:=hs.lt id g hd hb;have:=hnew g hg;omega
         .rw[fB.1]at ho;exact rz
        .intro cp _;exact⟨.inr rfl,e,_,fB.1,yAk _,λ_=>fB.2.1⟩
       .exact ay
      |own id=>
       simp only at h;split at h
       .rename_i hflid;split at h
        .rename_i e' jX n hq;split at h
         .rename_i hcc;obtain⟨he,rfl,rfl⟩:=hcc;have he:=he.symm;subst he;simp only[yAb,yAc]at h;obtain⟨rfl,rfl⟩:=h;obtain⟨hfl,rfl⟩:=hflid;obtain⟨hd,e0,m0,mY,hle,hρ⟩:=a8;rw[hq]at mY;simp only[yAb,U.own.injEq]at mY;obtain⟨rfl,_,rfl⟩:=mY;have aIe:=hρ rfl;obtain⟨WB,aAw⟩:=hs.own id _ _ _ hd hq;rw[aIe]at aAw;have hfx:flx=WB:=aPY aAw a4 hcells;subst hfx;have hrun:∃v' w',(Builtin.append_ #[t,u] ty #[.slice A xs.length cap,vx]).run P c.w=.ok v' w' /\
            w'.ownsRowF 0 e i.size v' (xs.length+ys.length) (flx++fly)/\(w'.os=c.w.os/\w'.tape=c.w.tape/\w'.output=c.w.output/\c.w.heap.size<=w'.heap.size) /\
            (∀k,k<c.w.heap.size->aV (c.ρ id)≠some k->w'.heap[k]?=c.w.heap[k]?) /\
            (∀(a:Addr) (u:Value),(∀b,aV (c.ρ id)=some b->a.block=b->a.off<xs.length*i.size)->c.w.cell? a=some u->w'.cell? a=some u) /\
            (aV v'=aV (c.ρ id)\/∀b,aV v'=some b->c.w.heap.size<=b):=by
           rw[aIe];have hgrow:cap<xs.length+ys.length->(A=none->xs.length=0/\cap=0)->∃v' w',(Builtin.append_ #[t,u] ty #[.slice A xs.length cap,vx]).run P c.w=.ok v' w' /\
             w'.ownsRowF 0 e i.size v' (xs.length+ys.length) (flx++fly)/\(w'.os=c.w.os/\w'.tape=c.w.tape/\w'.output=c.w.output/\c.w.heap.size<=w'.heap.size) /\
             (∀k,k<c.w.heap.size->aV (.slice A xs.length cap)≠some k->w'.heap[k]?=c.w.heap[k]?) /\
             (∀(a:Addr) (u:Value),(∀b,aV (.slice A xs.length cap)=some b->a.block=b->a.off<xs.length*i.size)->c.w.cell? a=some u->w'.cell? a=some u) /\
             (aV v'=aV (.slice A xs.length cap)\/∀b,aV v'=some b->c.w.heap.size<=b):=λhcap hA=>by
            obtain⟨v',w',r,h2,h3,h4⟩:=src.grow hypos A xs.length cap flx hA a4 hcells hcap hmax hby;refine⟨v',w',r,h2,⟨h3.os,h3.tape,h3.output,h3.size⟩,λk hk _=>h3.block k hk wz,λa u _ CV=>?_,.inr h4⟩;rw[yCj (h3.block a.block (KH CV) wz)];exact CV
           rcases aAw.2 with⟨gV,h0⟩ | ⟨g,a1i,cur,fz,gV,_,hg,hfz,hnc,hcm,hcs,htake⟩
           .simp only[yBH]at gV;obtain⟨rfl,_,rfl⟩:=gV;exact hgrow xb (λ_=>⟨h0,rfl⟩)
           .simp only[yBH]at gV;obtain⟨rfl,_,rfl⟩:=gV
            by_cases hroom:xs.length+ys.length<=cap
            .obtain⟨w',r,h2,h3⟩:=src.spare g xs.length cap flx aAw hroom;refine⟨_,w',r,h2,⟨h3.os,h3.tape,h3.output,h3.size⟩,λk hk hne=>h3.block k hk (by simpa [aV,eq_comm]using hne),λa u ha CV=>?_,.inl rfl⟩
             by_cases hag:a.block=g
             .have hoff:=ha g rfl hag;rcases h2.2 with⟨kQ,_⟩ | ⟨g1,cp1,aP4,fz1,kQ,_,lD,_,_,_,_,aP5⟩
              .simp at kQ
              .simp only[yBH,yAb,yBD,yAW]at kQ;obtain⟨rfl,_,rfl⟩:=kQ;obtain⟨ab,ao,asp⟩:=a;simp only at hag hoff;subst hag;simp only[World.cell?,hg,lD]at CV ⊢;split at CV
               .simp at CV
               .rename_i hsp;rw[yAI hsp];have q1:flx[ao]?=some u:=by rw[<-htake,yAv,yAJ hoff];simpa using CV
                have q2:(flx++fly)[ao]?=some u:=by rw[yAg (yA.1 q1).1];exact q1
                rw[<-aP5,yAv]at q2;split at q2
                .simpa using q2
                .simp at q2
             .rw[yCj (h3.block a.block (KH CV) (by simpa using hag))];exact CV
            .exact hgrow xb (λh=>xz)
          obtain⟨v',w',r,hown,h0,h1,h2,h3⟩:=hrun;have hn:xs.length<xs.length+ys.length:=xb;refine⟨v',w',r,c.put w' id v' (.own e i.size (xs.length+ys.length)),rfl,rfl,Sr.WC hs hd hq hn h0 h1 h2 h3 hown (λb hb=>aDr hown hb),Nx.WC hs hd hq hfl hn h0 h1 h2 h3,?_,λ_ h=>.inl h⟩;have nx:Nx 0 c (c.put w' id v' (.own e i.size (xs.length+ys.length))):=Nx.WC hs hd hq (yAF _) hn h0 h1 h2 h3;refine aIa (e:=e) (flx:=flx) (fly:=fly) rfl rfl xb a3 b3 a4 a5 b5 (λj v d q1 q2=>(a7 j v d q1 q2).mono nx) (λj v d q1 q2=>(b7 j v d q1 q2).mono nx) hown ?_ ?_
          .intro g j hg hj;have hXg:c.X ⟨g,j,none⟩:=by
            rcases h3 with h3|h3
            .exact hX id g hd hfl (by rw[<-h3];exact hg) _ rfl
            .exact hs.fresh _ (h3 g hg)
           refine WA hXg (λi' o hd' ho hb=>?_)
           by_cases e':i'=id
           .subst e';rw[eL (hs.aW i' hd)]at ho;exact rz
           .rw[eW e']at hb
            exfalso
            rcases h3 with h3|h3
            .exact hs.inj i' id g hd' hd e' hb (by rw[<-h3];exact hg)
            .have:=h3 g hg;have:=hs.lt i' g hd' hb;omega
          .intro cp _;exact⟨hd,e,_,eL (hs.aW id hd),yAk _,λ_=>mK⟩
         .exact ah
        .exact ah
       .exact ah
    .exact ah
   .exact ah
  .exact ah
 .exact ah
theorem aIf(hs:Sr c)(hX:Xw fl c){t u ty:TypeId}{s p:PD}{sz':Nat}{ys:Bw}{bY:Tok}{σ':Bv}(h:dV P fl c.σ t s (.slice sz' ys bY)=some (p,σ')){vs vx:Value}(hvs:VR c vs s){fly:Bz}
  (b3:∀x∈ys,x.cells.length=sz') (b5:∀v∈fly,v.oneCell'=true) (b7:∀(j:Nat) (v:Value) (d:PD),fly[j]?=some v->(ys.flatMap PD.cells)[j]?=some d->VR c v d)
  (hsrc:∀e i z,P.underlying t=some (.slice e)->P.info? e=some i->i.zero=some z->z.cells.size=i.size->0<i.size->(ys.length=0\/sz'=i.size)->Src P c.w t u ty e i vx ys.length fly) :
  ∃v w',(Builtin.append_ #[t,u] ty #[vs,vx]).run P c.w=.ok v w'/\Leaves fl c p σ' v w':=by
 by_cases hn:∃n xs,s=.slice n xs .nil
 .obtain⟨n,xs,rfl⟩:=hn;have aP6:VR c vs (.slice n xs .full):=by
   obtain⟨A,cap,bU,rfl,a1,a2,a3,a4,a5,a6,a7,a8⟩:=hvs.nW;exact .slice A _ cap n xs .full bU rfl a1 a2 a3 a4 a5 a6 a7 (by obtain⟨_,q1,q2⟩:=a8;show xs.length=cap;omega)
  have h2:∀(h0:ys.length≠0),dV P fl c.σ t (.slice n xs .full) (.slice sz' ys bY)=some (p,σ'):=λh0=>by
   unfold dV at h ⊢;cases he:P.underlying t with
   |none=>rw[he]at h;cases h
   |some d=>
    rw[he]at h;cases d with
    |slice e=>
     simp only at h ⊢;cases hi:P.info? e with
     |none=>rw[hi]at h;cases h
     |some i=>
      rw[hi]at h;simp only at h ⊢;cases hz:i.zero with
      |none=>rw[hz]at h;cases h
      |some z=>
       rw[hz]at h;simp only[h0,yAN]at h ⊢;exact h
    |_=>cases h
  by_cases h0:ys.length=0
  .obtain⟨A,cap,bU,rfl,a1,a2,a3,a4,a5,a6,a7,a8⟩:=hvs.nW;unfold dV at h;split at h
   .rename_i e he;split at h
    .rename_i i hi;split at h
     .rename_i z _ _ _ _ _ _ hz oQ EW;simp only[PD.slice.injEq]at oQ EW;obtain⟨rfl,rfl,rfl⟩:=oQ;obtain⟨rfl,rfl,rfl⟩:=EW;split at h
      .rename_i hc;simp only[yAb,yAc]at h;obtain⟨rfl,rfl⟩:=h;exact⟨.slice A xs.length cap,c.w,(hsrc e i z he hi hz hc.2.2.2.1 hc.2.2.1 hc.2.1).none_ h0 A _ cap a1,c,rfl,rfl,hs,.refl _ _,hvs,λ_ h=>.inl h⟩
      .cases h
     .cases h
    .cases h
   .cases h
  .exact aId hs hX (λ_ _ e=>xx) (h2 h0) aP6 b3 b5 b7 hsrc
 .exact aId hs hX (λn xs e=>hn ⟨n,xs,e⟩) h hvs b3 b5 b7 hsrc
theorem aPH(hs:Sr c)(hX:Xw fl c){t:TypeId}{s x p:PD}{σ':Bv}(h:dV P fl c.σ t s x=some (p,σ')){vs vx:Value}(hvs:VR c vs s)(hvx:VR c vx x)(ty:TypeId) :
  ∃v w',(Builtin.append_ #[t,t] ty #[vs,vx]).run P c.w=.ok v w'/\Leaves fl c p σ' v w':=by
 have hx:∃sz' ys bY,x=.slice sz' ys bY:=by
  unfold dV at h;split at h
  .split at h
   .split at h
    .exact⟨_,_,_,rfl⟩
    .cases h
   .cases h
  .cases h
 obtain⟨sz',ys,bY,rfl⟩:=hx;obtain⟨B,cap',fly,rfl,b1,b2,b3,b4,b5,b6,b7,b8⟩:=hvx.nW;refine aIf hs hX h hvs b3 b5 b7 (λe i z hu hi hz hzs hpos hsz=>?_);have hl:fly.length=ys.length*i.size:=by
  rcases hsz with h0|h0
  .rw[b4,h0];simp
  .rw[b4,h0]
 exact aP1 hu hi hz hzs hpos hl b5 (λj v hj=>by obtain⟨ad,q1,q2,_⟩:=b6 j v hj;exact⟨ad,q1,q2⟩)
def HW(l:List UInt8):PD:=.slice (if l.length=0 then 0 else 1) (l.map λb=>.int .u8 b.toNat) .any
theorem V4:∀l:List UInt8,(l.map λb=>PD.int .u8 b.toNat).flatMap PD.cells=l.map λb=>PD.int .u8 b.toNat
 | []=>rfl
 |x::xs=>by
  simp only[yB,yBg,V4 xs];rfl
theorem aPJ(hs:Sr c)(hX:Xw fl c){t u:TypeId}{s p:PD}{l:Bx}{σ':Bv}(hst:P.underlying u=some .string)(hb:vM P t=true)(h:dV P fl c.σ t s (HW l)=some (p,σ')){vs:Value}(hvs:VR c vs s)(ty:TypeId) :
  ∃v w',(Builtin.append_ #[t,u] ty #[vs,.string ⟨l.toArray⟩]).run P c.w=.ok v w'/\Leaves fl c p σ' v w':=by
 have hfm:(l.map λb=>PD.int .u8 b.toNat).flatMap PD.cells=l.map λb=>PD.int .u8 b.toNat:=V4 l
 have:=aIf (u:=u) (ty:=ty) (vx:=.string ⟨l.toArray⟩) (fly:=l.map λb=>.int .u8 b.toNat) hs hX h hvs ?_ ?_ ?_ ?_
 .exact this
 .intro x hx;obtain⟨b,hb,rfl⟩:=yAw.1 hx;have:l.length≠0:=by intro e;rw[yDJ.1 e]at hb;cases hb
  rw[yAI this];rfl
 .intro v hv;exact ja
 .intro j v d h1 h2;rw[hfm]at h2;exact ic
 .intro e i z hu hi hz hzs hpos hsz;simp only[vM,hu,hi,hz]at hb;rw[yAe];split at hb
  .rename_i heq;simp only[yAb]at heq;subst heq;simp only[yAr,yBA]at hb;exact aHX hu hst hi hz hb.1 hb.2 l
  .cases hb
end
end
section
open Go.RowKit
section
variable{P:Program}{c:Cx}{fl:Nat}
theorem aH8{n:Nat}:∀(parts:List (Nat×PD)) (i:Nat) (ps z:List PD),Q3 i parts=some ps->(∀p∈ps,p.cells.length=n/\p.cells.all PD.plain=true)->(i+ps.length)*n<=z.length ->
  HQ (λi=>some (i*n,n)) z parts=some (z.take (i*n)++ps.flatMap PD.cells++z.drop ((i+ps.length)*n))
 | [],i,ps,z,h,_,_=>by simp[Q3]at h;subst h;simp[HQ]
 |(j,p)::parts,i,ps,z,h,hp,hl=>by
  unfold Q3 at h;split at h
  .rename_i hj;subst hj;split at h
   .rename_i qs hq;simp only[yAb]at h;subst h;obtain⟨mH,RR⟩:=hp p wz;have hle:(j+1+qs.length)*n<=z.length:=by simpa [yCm,yCk 1]using hl
    have hjn:j*n+n<=z.length:=by
     exact qq
    have hz:(iM z (j*n) p.cells).length=z.length:=by simp[iM,mH];omega
    have ih:=aH8 parts (j+1) qs (iM z (j*n) p.cells) hq (λq mY=>hp q (by simp[mY])) (by rw[hz];exact hle);have e1:(iM z (j*n) p.cells).take ((j+1)*n)=z.take (j*n)++p.cells:=by
     unfold iM;rw[List.take_append_of_le_length (by simp[mH,yBl];omega),yAz (by simp[mH,yBl];omega)]
    have e2:(iM z (j*n) p.cells).drop ((j+1+qs.length)*n)=z.drop ((j+1+qs.length)*n):=by
     have h3:j*n+n<=(j+1+qs.length)*n:=by
      exact qq
     unfold iM;rw[List.drop_append,yAs (by simp[mH];omega),yAQ,yBk]
     congr 1
     simp[mH];omega
    unfold HQ;simp only;rw[yAI (by simp[mH,RR];omega),ih,e1,e2];simp only[yBg,yAi,yAK];rw[show j+1+qs.length=j+(qs.length+1) by omega]
   .exact ah
  .exact ah
theorem aDp{t:TypeId}{n:Nat}(h:bS P t=some n):∃i,P.info? t=some i/\i.size=n:=aAu h
theorem aHR(hs:Sr c){t:TypeId}{len:Nat}{parts:List (Nat×PD)}{vparts:List (Nat×Value)}{p:PD}(h:HN P t len parts=some p)(hl:vparts.length=parts.length)
  (hp:∀(i:Nat) (jv:Nat×Value) (jp:Nat×PD),vparts[i]?=some jv->parts[i]?=some jp->jv.1=jp.1/\VR c jv.2 jp.2) :
  ∃e cells',P.underlying t=some (.slice e)/\(Instr.buildSlice t len vparts.toArray).run P c.w=.ok (.slice (some ⟨c.w.heap.size,0,none⟩) len len) (c.w.alloc (.cells cells' e)) /\
   ∀w'' fz,c.w.grownBy w'' none->w''.heap[c.w.heap.size]?=some (.cells cells' e fz)->VR (c.at w'') (.slice (some ⟨c.w.heap.size,0,none⟩) len len) p:=by
 unfold HN at h;split at h
 .rename_i e hu;split at h
  .rename_i n z ps hn hz hix;split at h
   .rename_i hcond;obtain⟨hlen,hn0,hsmall,hall,hzl,hzp⟩:=hcond;simp only[yAb]at h;subst h;obtain⟨zv,i,hi,hzv,hzr⟩:=L5 (c:=c) hz;have hzc:=hzr.cells;have hzs:zv.cells.size=n:=As;have hps:∀q∈ps,q.cells.length=n/\q.cells.all PD.plain=true:=λq hq=>by
     have:=yAn.1 hall q hq;exact bn
    let z0:List PD:=(List.range (len*n)).map λk=>z.cells.getD (k%n) (.aK [])
    let c0:Array Value:=(Array.range (len*n)).map λk=>zv.cells[k%zv.cells.size]!
    have hc0:aJ c c0.toList z0:=by
     refine⟨by simp[c0,z0],λk v d hv hd=>?_⟩;simp only[c0,z0,yCU,yCV,yAo]at hv hd;cases hk:(List.range (len*n))[k]? with
     |none=>simp[hk]at hv
     |some k'=>
      exact dm
    have hz1:∀v∈zv.cells.toList,v.oneCell'=true:=aJ.ER hzc hzp;have CX:∀v∈c0.toList,v.oneCell'=true:=by
     intro v hv;simp only[c0,yCU,yCV,yAw]at hv;exact kg
    have aH9:z0.length=len*n:=by simp[z0]
    have hfi:=aH8 (n:=n) parts 0 ps z0 hix hps (by rw[aH9,hlen];simp);obtain⟨cells',f1,f2,f3⟩:=aAv parts vparts z0 c0 _ hl hp hc0 CX hfi;have hcs:z0.take (0*n)++ps.flatMap PD.cells++z0.drop ((0+ps.length)*n)=ps.flatMap PD.cells:=by
     rw[yAs (by rw[aH9,hlen];simp)];simp
    rw[hcs]at f2;have hfl:cells'.toList.length=len*n:=by rw[f2.1,OB ps (λq hq=>(hps q hq).1),hlen]
    refine⟨e,cells',hu,?_,λw'' fz hgr hnew=>?_⟩
    .have hln:¬(len*n > 2^24):=by omega
     obtain⟨i',hi',hsz⟩:=aDp hn;have hfz:Instr.fill (λi=>some (i*n,n)) ((Array.range (len*n)).map λk=>(if len*n=0 then(#[]:Array Value)else zv.cells)[k%(if len*n=0 then(#[]:Array Value)else zv.cells).size]!) vparts=some cells':=by
      by_cases h0:len*n=0
      .simp only[h0,yAM];have:c0=#[]:=by simp[c0,h0]
       rw[this]at f1;rw[show(Array.range 0)=#[]from rfl];simpa using f1
      .simp only[h0,yAN];exact f1
     simp only[Instr.buildSlice,yAV,yAO hu,yAX,lE hn,yAI hln]
     by_cases h0:len*n=0
     .simp only[h0,yAM]at hfz ⊢;simp only[yAV,yAY,yAX,hfz];simp[newRow]
     .simp only[h0,yAN]at hfz ⊢;have OF:(zeroValue e).run P c.w=.ok zv c.w:=za;simp only[yAV,yAY,yAX,OF,hfz];simp[newRow]
    .have nx:Nx 0 c (c.at w''):=Nx.grow hs hgr;refine .slice (some ⟨c.w.heap.size,0,none⟩) len len n ps .full cells'.toList hlen.symm (yAk _) ?_ (λq hq=>(hps q hq).1) hfl f3 ?_ (λj v d q1 q2=>(f2.2 j v d q1 q2).mono nx) rfl
     .have:len<=len*n:=Nat.le_mul_of_pos_right _ hn0;simp only[maxLen];omega
     .intro j v hv;have hadd:(⟨c.w.heap.size,0,none⟩:Addr).add j=⟨c.w.heap.size,j,none⟩:=xq;refine⟨_,rfl,?_,?_⟩
      .rw[hadd];show w''.cell? _=_
       simp only[World.cell?,hnew];simpa using hv
      .exact dc
   .exact ah
  .exact ah
 .exact ah
theorem aPx(hs:Sr c){t:TypeId}{len:Nat}{parts:List (Nat×PD)}{vparts:List (Nat×Value)}{p:PD}(h:HN P t len parts=some p)(hl:vparts.length=parts.length)
  (hp:∀(i:Nat) (jv:Nat×Value) (jp:Nat×PD),vparts[i]?=some jv->parts[i]?=some jp->jv.1=jp.1/\VR c jv.2 jp.2) :
  ∃v w',(Instr.buildSlice t len vparts.toArray).run P c.w=.ok v w'/\Leaves fl c p c.σ v w':=by
 obtain⟨e,cells',hu,hr,hv⟩:=aHR hs h hl hp;have hgr:=HT c.w (.cells cells' e);exact⟨_,_,hr,c.at (c.w.alloc (.cells cells' e)),rfl,rfl,Sr.grow hs hgr,Nx.grow hs hgr,hv _ (0,0) hgr (yBB _ _),λ_ h=>.inl h⟩
theorem run_mark{t e:TypeId}(w:World)(cs:Array Value)(n cap:Nat)(hu:P.underlying t=some (.slice e))(he:P.underlying e=some (.int .u8)) :
  (convert t t (.slice (some ⟨w.heap.size,0,none⟩) n cap)).run P (w.alloc (.cells cs e))=.ok (.slice (some ⟨w.heap.size,0,none⟩) n cap) ((w.alloc (.cells cs e)).freeze ⟨w.heap.size,cs.size,none⟩ 1):=by
 have hsh:(w.alloc (.cells cs e)).shape? w.heap.size=some (e,cs.size):=by simp[World.shape?,World.alloc,-World.alloc_eq]
 simp[convert,yAO hu,yAO he,markStringish,hsh,Result.andThen]
theorem aPr(w:World)(e:TypeId)(cs:Array Value):∃fz,((w.alloc (.cells cs e)).freeze ⟨w.heap.size,cs.size,none⟩ 1).heap[w.heap.size]?=some (.cells cs e fz):=by
 refine⟨(cs.size,cs.size+1),?_⟩;simp[World.freeze,World.alloc,-World.alloc_eq];rw[Array.getElem_modify_self];simp
theorem aPq(w:World)(e:TypeId)(cs:Array Value):w.grownBy ((w.alloc (.cells cs e)).freeze ⟨w.heap.size,cs.size,none⟩ 1) none where
 os:=rfl
 tape:=rfl
 output:=rfl
 size:=by simp[World.freeze,World.alloc,-World.alloc_eq]
 block:=λk hk _=>by
  have h1:w.heap.size≠k:=xb;simp[World.freeze,World.alloc,-World.alloc_eq,yCJ,Array.getElem?_push,h1,yBc h1]
theorem aPX(w:World)(e:TypeId)(s:ByteArray):w.grownBy (Lib.bytesWorld w e s) none where
 os:=rfl
 tape:=rfl
 output:=rfl
 size:=by rw[Lib.bytesWorld_size];omega
 block:=λk hk _=>Lib.bytesWorld_at_old w e s k hk
theorem aDs:∀ {xs:Bw} {l:Bx},NX xs=some l->∃ns:List Int,xs=ns.map (PD.int .u8)/\l=ns.map λn=>UInt8.ofNat n.toNat
 | [],l,h=>by simp only[NX,yAb]at h;subst h;exact⟨[],rfl,rfl⟩
 |x::xs,l,h=>by
  unfold NX at h;split at h
  .rename_i h0;cases h0
  .rename_i n r h0;simp only[yBs]at h0;obtain⟨rfl,rfl⟩:=h0;split at h
   .rename_i l' hl;simp only[yAb]at h;obtain⟨ns,rfl,rfl⟩:=aDs hl;exact⟨n::ns,rfl,h.symm⟩
   .cases h
  .cases h
theorem aDt:∀(ns:List Int) (s:ByteArray),ns.foldl (λr n=>r.push (UInt8.ofNat n.toNat)) s=⟨s.data++(ns.map λn=>UInt8.ofNat n.toNat).toArray⟩
 | [],s=>wz
 |n::ns,s=>by
  rw[yCR,aDt ns];simp[ByteArray.push]
theorem aPy(hs:Sr c){s d:TypeId}{x p:PD}(h:VF P s d x=some p){vx:Value}(hx:VR c vx x):∃v w',(convert s d vx).run P c.w=.ok v w'/\Leaves fl c p c.σ v w':=by
 unfold VF at h;split at h
 .rename_i e l hu hd;split at h
  .rename_i he;split at h
   .rename_i hl;simp only[yAb]at h;subst h;have hv:=hx.rH;subst hv;have hsz:(ByteArray.mk l.toArray).size=l.length:=zd;have hgr:=aPX c.w e ⟨l.toArray⟩;have r:=Lib.run_convert_string_bytes (P:=P) c.w s d e ⟨l.toArray⟩ hu hd he;have hge:=yCX c.w l.length 0 e;have hcm:=yCY c.w l.length 0 e hl;rw[hsz]at r;refine⟨_,_,r,c.at (Lib.bytesWorld c.w e ⟨l.toArray⟩),rfl,rfl,Sr.grow hs hgr,Nx.grow hs hgr,?_,λ_ h=>.inl h⟩;refine .slice (some ⟨c.w.heap.size,0,none⟩) l.length _ 1 _ .any (l.map λb=>Value.int .u8 b.toNat) wz hge hcm (λq hq=>?_) wz (λv hv=>?_) (λj v hv=>?_) (λj v q q1 q2=>?_) trivial
    .obtain⟨b,_,rfl⟩:=yAw.1 hq;rfl
    .exact ja
    .have hadd:(⟨c.w.heap.size,0,none⟩:Addr).add j=⟨c.w.heap.size,j,none⟩:=by unfold Addr.add;split<;>simp_all
     refine⟨_,rfl,?_,?_⟩
     .rw[hadd];have hj:j<l.length:=by simpa using(yA.1 hv).1
      have:=Lib.bytesWorld_cell c.w e ⟨l.toArray⟩ j (by rw[hsz];exact hj);show(Lib.bytesWorld c.w e ⟨l.toArray⟩).cell? _=_
      rw[this];rw[yAo,yAh hj]at hv;simp only[yAC,yAb]at hv;rw[<-hv];simp[List.getD,hj]
     .exact dc
    .have e1:∀l:List UInt8,(l.map λb=>PD.int .u8 b.toNat).flatMap PD.cells=l.map λb=>PD.int .u8 b.toNat:=by
      intro l
      induction l with
      |nil=>rfl
      |cons b l ih=>
       simp only[yB,yBg,ih];rfl
     rw[e1,yAo]at q2;rw[yAo]at q1;cases hj:l[j]? with
     |none=>rw[hj]at q1;cases q1
     |some b=>
      rw[hj]at q1 q2;simp only[yAC,yAb]at q1 q2;subst q1 q2;exact .int _ _
   .cases h
  .cases h
 .rename_i e sz xs tok hu hd;split at h
  .rename_i he;split at h
   .rename_i hsz;split at h
    .rename_i l hl;simp only[yAb]at h;subst h;obtain⟨A,cap,bU,rfl,h2,h3,h4,h5,h6,h7,h8,h9⟩:=hx.nW;obtain⟨ns,rfl,rfl⟩:=aDs hl;rw[yAe]at h2 h5 hsz ⊢;have hfl:bU=ns.map (Value.int .u8):=by
      have hlen:bU.length=ns.length:=by
       rcases hsz with h|h
       .rw[h5,h];simp
       .rw[h5,h];simp
      refine yBT λj=>?_
      by_cases hj:j<ns.length
      .have e1:((ns.map (PD.int .u8)).flatMap PD.cells)[j]?=some (.int .u8 ns[j]):=by
        have:∀ns:List Int,(ns.map (PD.int .u8)).flatMap PD.cells=ns.map (PD.int .u8):=by
         intro ns
         induction ns with
         |nil=>rfl
         |cons b l ih=>
          simp only[yB,yBg,ih];rfl
        rw[this,yAo,yAh hj];rfl
       have:=(h8 j bU[j] _ (yAh xb) e1).oP;rw[yAh (show j<bU.length by omega),yAo,yAh hj,this];rfl
      .rw[yBp xb,yBp xw]
     subst hfl;have hrun:(convert s d (.slice A ns.length cap)).run P c.w=.ok (.string ⟨(ns.map λn=>UInt8.ofNat n.toNat).toArray⟩) c.w:=by
      rw[run_convert_bytes_string c.w s d e A ns.length cap hu he hd];cases A with
      |none=>
       have:ns=[]:=by
        cases ns with
        |nil=>rfl
        |cons n ns=>
         obtain⟨ad,e',_⟩:=h7 0 _ rfl;cases e'
       subst this;simp[Conv.bytesToString,yAY];rfl
      |some a=>
       rw[run_bytesToString c.w a ns.length cap ns (RL wz (λj v hj=>by
        obtain⟨ad,e',h10,_⟩:=h7 j v hj;cases e';exact h10)),aDt]
       simp
     exact⟨_,_,hrun,c,rfl,rfl,hs,.refl _ _,.str _,λ_ h=>.inl h⟩
    .cases h
   .cases h
  .cases h
 .cases h
end
end
section
open Go.RowKit
section
variable{P:Program}{c:Cx}{fl:Nat}
theorem aH0(z:PD)(n l:Nat):(CY z n l).length=l*n:=by simp[CY]
theorem aHY{zv:Value}{z:PD}{n:Nat}(hz:VR c zv z)(hn:z.cells.length=n)(hn0:0<n)(l:Nat):aJ c (madeCells zv.cells (l*n)).toList (CY z n l):=by
 have hzc:=hz.cells;have hzs:zv.cells.size=n:=As;refine⟨by simp[madeCells,CY],λk v d hv hd=>?_⟩;simp only[madeCells,CY,yCU,yCV,yAo]at hv hd;cases hk:(List.range (l*n))[k]? with
 |none=>simp[hk]at hv
 |some k'=>
  exact dm
theorem aHZ{zv:Value}{z:PD}{n:Nat}(hz:VR c zv z)(hn:z.cells.length=n)(hn0:0<n)(hp:z.cells.all PD.plain=true)(l:Nat):∀v∈(madeCells zv.cells (l*n)).toList,v.oneCell'=true:=by
 have hzc:=hz.cells;have hzs:zv.cells.size=n:=As;have hz1:∀v∈zv.cells.toList,v.oneCell'=true:=aJ.ER hzc hp;intro v hv;simp only[madeCells,yCU,yCV,yAw]at hv;exact kg
theorem aPV{z:PD}{n l:Nat}(hn:z.cells.length=n)(hn0:0<n):(List.replicate l z).flatMap PD.cells=CY z n l:=by
 have hx:∀x∈List.replicate l z,x.cells.length=n:=λx hx=>by rw[(List.mem_replicate.1 hx).2];exact hn
 have hl:((List.replicate l z).flatMap PD.cells).length=l*n:=by rw[OB _ hx,yCZ]
 refine yBT λj=>?_
 by_cases hj:j<l*n
 .have hi:j/n<l:=Nat.div_lt_of_lt_mul (by rw[Nat.mul_comm];exact hj);have hm:j%n<n:=yBZ _ hn0;have:=aDq n (List.replicate l z) hx (j/n) z (by simp[hi]) (j%n) hm;rw[Nat.div_add_mod']at this;rw[this];simp only[CY,yAo,List.getElem?_range hj,yAC];rw[yAh xb];simp[List.getD,show j%n<z.cells.length by omega]
 .rw[yBp xb,yBp (by rw[aH0];omega)]
theorem aPA(hs:Sr c){t e:TypeId}{l k:Nat}{p:PD}{σ':Bv}(hu:P.underlying t=some (.slice e))(h:KG P c.σ t e l k=some (p,σ'))(kl kk:IntKind) :
  ∃v w',(Instr.makeSlice t (.int kl (l:Int)) (.int kk (k:Int))).run P c.w=.ok v w'/\Leaves fl c p σ' v w':=by
 unfold KG at h;split at h
 .rename_i i n z hi hn hz;split at h
  .rename_i hc;obtain⟨hlk,hn0,hzl,hzp,hmax,hby⟩:=hc;obtain⟨zv,i',hi',hzv,hzr⟩:=L5 (c:=c) hz;rw[hi]at hi';obtain rfl:=yBr hi';obtain⟨i',hi',hsz⟩:=aDp hn;rw[hi]at hi';obtain rfl:=yBr hi';have hmx:(k:Int)<=9223372036854775807:=Aq;have hb':(i.bytes:Int)*(k:Int)<=281474976710656:=by
    have:((i.bytes*k:Nat):Int)<=281474976710656:=by rw[Nat.mul_comm];omega
    rwa [Int.natCast_mul]at this
   have hr:=run_make (P:=P) c.w t e i zv hu hi hzv kl kk l k xb xb hb' hmx;simp only[yBq]at hr;rw[hsz]at hr;have hgr:=HT c.w (.cells (madeCells zv.cells (k*n)) e);have hnew:=yBB c.w (.cells (madeCells zv.cells (k*n)) e);have hsize:(madeCells zv.cells (k*n)).size=k*n:=size_madeCells _ _;split at h
   .rename_i h0;obtain⟨rfl,hk0⟩:=h0;simp only[yAb,yAc]at h;obtain⟨rfl,rfl⟩:=h;have hown:(c.w.alloc (.cells (madeCells zv.cells (k*n)) e)).ownsRowF 0 e n (.slice (some ⟨c.w.heap.size,0,none⟩) 0 k) 0 []:=
     ⟨wz,.inr ⟨c.w.heap.size,k,_,(0,0),rfl,yAF _,hnew,yAF _,yAF _,hmax,hsize,wz⟩⟩
    have hbk:∀b,aV (.slice (some ⟨c.w.heap.size,0,none⟩) 0 k)=some b->c.w.heap.size<=b:=λb hb=>zk
    refine⟨_,_,hr,c.push (c.w.alloc (.cells (madeCells zv.cells (k*n)) e)) (.slice (some ⟨c.w.heap.size,0,none⟩) 0 k) (.own e n 0),rfl,rfl,?_,Nx.push hs hgr hbk,?_,?_⟩
    .exact Sr.push hs hgr (λb hb=>⟨hbk b hb,aDr hown hb⟩) ⟨_,hown⟩
    .exact .slice (some ⟨c.w.heap.size,0,none⟩) 0 k n [] (.own c.σ.length) [] rfl (yAF _) hmax wz wz wz wz wz ⟨.inr rfl,e,0,fB.1,yAk _,λ_=>fB.2.1⟩
    .exact ay
   .split at h
    .rename_i aPW;subst aPW;have hcv:=aHY (c:=c) hzr hzl hn0 l;have CX:=aHZ (c:=c) hzr hzl hn0 hzp l;split at h
     .simp only[yAb,yAc]at h;obtain⟨rfl,rfl⟩:=h;have hbk:∀b,aV (.pointer (some ⟨c.w.heap.size,0,none⟩))=some b->c.w.heap.size<=b/\b<(c.w.alloc (.cells (madeCells zv.cells (l*n)) e)).heap.size:=λb hb=>by
       simp[aV]at hb;subst hb;simp
      refine⟨_,_,hr,c.push (c.w.alloc (.cells (madeCells zv.cells (l*n)) e)) (.pointer (some ⟨c.w.heap.size,0,none⟩)) (.box (.agg (CY z n l))),rfl,rfl,?_,Nx.push hs hgr (λb hb=>(hbk b hb).1),?_,?_⟩
      .exact Sr.push hs hgr hbk ⟨_,madeCells zv.cells (l*n),e,rfl,hnew,hcv,CX,λt ds e=>xx⟩
      .exact .fR _ _ _ _ _ _ (.inr rfl) ⟨_,fB.1⟩ fB.2.1 (yAk _) hmax
      .exact ay
     .simp only[yAb,yAc]at h;obtain⟨rfl,rfl⟩:=h;have nx:Nx 0 c (c.at (c.w.alloc (.cells (madeCells zv.cells (l*n)) e))):=Nx.grow hs hgr;refine⟨_,_,hr,c.at (c.w.alloc (.cells (madeCells zv.cells (l*n)) e)),rfl,rfl,Sr.grow hs hgr,Nx.grow hs hgr,?_,λ_ h=>.inl h⟩;refine .slice (some ⟨c.w.heap.size,0,none⟩) l l n _ .full (madeCells zv.cells (l*n)).toList wz (yAk _) hmax (λq hq=>by rw[(List.mem_replicate.1 hq).2];exact hzl) (by simp[hsize]) CX ?_ (λj v d q1 q2=>?_) (by simp[pJ])
      .intro j v hv;have hadd:(⟨c.w.heap.size,0,none⟩:Addr).add j=⟨c.w.heap.size,j,none⟩:=xq;refine⟨_,rfl,?_,?_⟩
       .rw[hadd];show(c.w.alloc (.cells (madeCells zv.cells (l*n)) e)).cell? _=_
        simp only[World.cell?,hnew];simpa using hv
       .exact dc
      .rw[aPV hzl hn0]at q2;exact(hcv.2 j v d q1 q2).mono nx
    .cases h
  .cases h
 .cases h
theorem aPz(hs:Sr c){s d:TypeId}{x p:PD}(h:L4 P c.σ s d x=some p){vx:Value}(hx:VR c vx x):∃v,(convert s d vx).run P c.w=.ok v c.w/\VR c v p:=by
 unfold L4 at h;split at h
 .rename_i xs e hxs hu hd;split at h
  .rename_i l he hl;simp only[yAb]at h;subst h;unfold CU at hxs;split at hxs
   .rename_i id off n size;split at hxs
    .split at hxs
     .rename_i q hq;split at hxs
      .rename_i hle;simp only[yAb]at hxs;subst hxs;obtain⟨b,cap,rfl,hD,_,hr,_,_⟩:=hx.KF;obtain⟨b',cs,T,e1,e2,e3,e4⟩:=hs.box id q hD hq;have hbb:b=b':=by
        rw[hr]at e1;simpa using e1
       subst hbb;obtain⟨ns,hns,rfl⟩:=aDs hl;have hlen:ns.length=n:=by
        have:=yAP List.length hns;rw[yAt,yBe,yAe]at this;omega
       have hcut:=e3.take_drop off n;rw[hns]at hcut;have hfl:(cs.toList.drop off).take n=ns.map (Value.int .u8):=by
        refine yBT λj=>?_
        cases hj:ns[j]? with
        |none=>
         have hge:=List.getElem?_eq_none_iff.1 hj;rw[yBp (by have:=hcut.1;rw[yAe]at this;omega),yBp xw]
        |some m=>
         obtain⟨v,kQ,KI⟩:=hcut.get (i:=j) (d:=.int .u8 m) (by rw[yAo,hj];rfl);rw[kQ,KI.oP,yAo,hj];rfl
       have hadd:∀j,(⟨b,off,none⟩:Addr).add j=⟨b,off+j,none⟩:=λj=>xq
       refine⟨.string ⟨(ns.map λn=>UInt8.ofNat n.toNat).toArray⟩,?_,.str _⟩;rw[run_convert_bytes_string c.w s d e (some ⟨b,off,none⟩) n cap hu he hd];rw[run_bytesToString c.w ⟨b,off,none⟩ n cap ns (by
        rw[RL (cs:=ns.map (Value.int .u8)) (by simp[hlen]) (λj v hj=>by
         rw[hadd];simp only[World.cell?,e2];rw[<-hfl,yAv]at hj;split at hj
         .rw[yBC]at hj;simpa using hj
         .cases hj)]),aDt]
       simp
      .cases hxs
     .cases hxs
    .cases hxs
   .cases hxs
  .cases h
 .cases h
end
end
end Go.Kz
