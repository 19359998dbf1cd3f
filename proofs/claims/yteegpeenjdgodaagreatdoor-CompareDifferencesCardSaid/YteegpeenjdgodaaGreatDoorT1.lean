/- Steps of the proof. -/
import Derived.Test.YteegpeenjdgodaaGreatDoorS9
import Derived.Test.YteegpeenjdgodaaGreatDoorS3
set_option linter.all false
set_option maxHeartbeats 40000000
set_option maxRecDepth 100000
open Go.Proofs.Tryz
namespace Go.Kz
open Go Go.Proofs
section
def jJ(l:List cT):List PD:=(l.map λw=>[PD.int .i64 w.aG,.int .i64 w.shift]).flatten
theorem aCX(R:List cT):(R.map Em.draw.aA).flatMap PD.cells=jJ R:=by
 unfold jJ
 induction R with
 |nil=>rfl
 |cons r R ih=>simp only[yAR,yBs,yBr,ih];rfl
theorem aLM(R:List gL):(R.map Em.eU.aA).flatMap PD.cells=(R.map λr=>[PD.int .i64 r.lo,.int .i64 r.hi,eT.aA r.aT]).flatten:=by
 induction R with
 |nil=>rfl
 |cons r R ih=>simp only[yAR,yBs,yBr,ih];rfl
def BE(σ:List aB)(lo:Nat)(ds:List cT)(id:Nat):Prop:=0<ds.length->lo<=id/\σ[id]?=some (.row 89 2 0 (jJ ds))
structure s5 (σ:List aB) (lo:Nat) (s:bU) (p:PD) (iG:Nat) (gs:List (List PD)) (iW:Nat->Nat):Prop where
 p:p=.agg [.str s.name,.int .i64 s.num,.int .i64 s.den,hd 3 iG s.aO.length]
 len:gs.length=s.aO.length
 row:0<s.aO.length->lo<=iG/\σ[iG]?=some (.row 92 3 0 gs.flatten)
 at_:∀g (h:g<s.aO.length),gs[g]?=some [.int .i64 s.aO[g].lo,.int .i64 s.aO[g].hi,hd 2 (iW g) s.aO[g].aT.length]/\BE σ lo s.aO[g].aT (iW g)
 inj:∀g g' (h:g<s.aO.length) (h':g'<s.aO.length),0<s.aO[g].aT.length->0<s.aO[g'].aT.length->iW g=iW g'->g=g'
theorem F5(k id n:Nat):(hd k id n).plain=true:=by unfold hd;split<;>rfl
theorem F6(k id n:Nat):(hd k id n).cells=[hd k id n]:=by unfold hd;split<;>rfl
theorem N9{e:TypeId}{k:Nat}{xs:Ey}(σ:List aB)(h:0<xs.length):(σ++newRow e k xs)[σ.length]?=some (.row e k 0 (xs.flatMap PD.cells)):=by
 unfold newRow;rw[yAI ye];exact yAB
variable{E:aE}(hU:aH E)
include hU
theorem aLo(h0:E 86=none)(h1:E 118=some (iT 92 3))(h2:E 119=some (iT 89 2))(s:bU)(hs:mA s)(τ:List aB) :
  aL prog E 0 (.inl 86) [Em.stop.aA s] τ (λp σ'=>(∃iG gs iW,s5 σ' τ.length s p iG gs iW)/\τ.length<=σ'.length/\∀id,id<τ.length->σ'[id]?=τ[id]?):=by
 clear hU;obtain⟨nm,a,b,l⟩:=s;obtain⟨hl,hld⟩:=hs;simp only at hl hld;have hC:=F4 (em:=Em.eU) (e:=92) (k:=3) l hl;simp only[qE,aV]at hC ⊢
 by_cases hl0:l=[]
 .subst hl0;have e0:newRow 92 3 (([]:List gL).map Em.eU.aA)=[]:=rfl;have e1:∀id,hd 3 id ([]:List gL).length=.slice 0 [] .full:=λ_=>rfl
  simp only[e0,e1,yAl]at hC;refine aL.aN 27 h0 func86 (h:=?_);refine aC (A2 h1 hC) ?_;refine Wp.loop ?_;refine aC trivial ?_;obtain⟨X,hX⟩:=gn (aB.box (.agg [.str nm,.int .i64 a,.int .i64 b,.slice 0 [] .full]));refine⟨.agg [.str nm,.int .i64 a,.int .i64 b,.slice 0 [] .full],τ++[X,X],?_,⟨0,[],λ_=>0,⟨rfl,rfl,λh=>absurd h (yCG 0),λg h=>absurd h (yBv g),λg g' h=>absurd h (yBv g)⟩⟩,yg,λid h=>yAg h⟩;rw[<-hX];simp[eF]
 have hp:0<l.length:=yCt.2 hl0;have e1:∀id,hd 3 id l.length=.aU id 0 0 l.length 3:=λid=>by unfold hd;rw[yAI ye]
 have e2:newRow 92 3 (l.map Em.eU.aA)=[.row 92 3 0 ((l.map λr=>[PD.int .i64 r.lo,.int .i64 r.hi,eT.aA r.aT]).flatten)]:=by
  unfold newRow;rw[yAI zo,aLM]
 simp only[e1,e2]at hC;obtain⟨g0,pP⟩:=gn ((l.map λr=>[PD.int .i64 r.lo,.int .i64 r.hi,eT.aA r.aT]));rw[pP]at hC;obtain⟨c0,hc0⟩:=gn (g0.flatten);rw[hc0]at hC;rw[rE hl0]at hC ⊢;obtain⟨xs,hxs⟩:=gn (l.map Em.eU.aA);rw[hxs]at hC ⊢;refine aL.aN 27 h0 func86 (h:=?_);refine aC (A2 h1 hC) ?_;obtain⟨B,hB⟩:=gn (τ.length);rw[hB];have JO:∀g (h:g<l.length),g0[g]?=some [.int .i64 l[g].lo,.int .i64 l[g].hi,eT.aA l[g].aT]:=λg h=>by
  subst pP;rw[yAo,yAh h];rfl
 have JP:g0.length=l.length:=by rw[<-pP,yAe]
 have JQ:∀g∈g0,g.length=3:=λg h=>by
  rw[<-pP]at h;exact mo
 obtain⟨X,hX⟩:=gn (aB.box (.agg [.str nm,.int .i64 a,.int .i64 b,.aU (B+2) 0 0 l.length 3]));obtain⟨Y,hY⟩:=gn (aB.box (.agg [.str [],.int .i64 0,.int .i64 0,.slice 0 [] .full]));refine Wp.cI (λm fr σ=>∃(i:Nat) (gs:List (List PD)) (iW:Nat->Nat) (σ1:List aB),∃gg:Nat->PD,(i+m=l.length/\gs.length=l.length/\(∀g∈gs,g.length=3)/\σ1[B]?=some X/\σ1[B+1]?=some Y/\σ1[B+2]?=some (.row 92 3 0 gs.flatten)/\(∀id,id<B->σ1[id]?=τ[id]?)/\(∀g (h:g<l.length),i<=g->gs[g]?=some [.int .i64 l[g].lo,.int .i64 l[g].hi,eT.aA l[g].aT])/\(∀g (h:g<l.length),g<i->gs[g]?=some [.int .i64 l[g].lo,.int .i64 l[g].hi,hd 2 (iW g) l[g].aT.length]/\(0<l[g].aT.length->B+2<iW g/\iW g<σ1.length/\σ1[iW g]?=some (.row 89 2 0 (jJ l[g].aT))))/\(∀g g' (h:g<l.length) (h':g'<l.length),g<i->g'<i->0<l[g].aT.length->0<l[g'].aT.length->iW g=iW g'->g=g'))/\fr=[gg 0,.ptr B 0,.ptr (B+1) 0,gg 3,gg 4,gg 5,gg 6,gg 7,gg 8,gg 9,.aU (B+2) 0 0 l.length 3,.int .i64 l.length,.int .i64 i,gg 13,gg 14,gg 15,gg 16,gg 17,gg 18,gg 19,gg 20,gg 21,gg 22,gg 23,gg 24,gg 25,gg 26]/\σ=σ1) ?_ (l.length) (by refine⟨0,g0,(λ_=>0),(τ++[X,Y,.row 92 3 0 c0]),?_⟩;exact dU (⟨ye,JP,JQ,Ar,Ar,by rw[<-hB,hc0];simp,λid h=>by rw[yAg ye],λg h _=>JO g h,λg h h2=>absurd h2 (yBv g),λg g' h h' h2=>absurd h2 (yBv g)⟩) (A3 hX hY hB))
 rintro m fr σ ⟨i,gs,iW,σ1,gg,hI,rfl,rfl⟩
 obtain⟨hm,hgl,jK,v0,v1,v2,hkeep,hrest,hdone,hinj⟩:=hI;have hlen:=qT (sz:=3) gs jK;obtain⟨r0,y0⟩:=yA.1 v0;obtain⟨r1,y1⟩:=yA.1 v1;obtain⟨r2,y2⟩:=yA.1 v2
 by_cases hi:i<l.length
 .have q1:(i:Int)<(l.length:Int):=by omega
  obtain⟨z,hz⟩:=gn (l[i]);have hzd:z.aT.length<=1000000:=hld z (hz▸yAm hi);have hgi:=hrest i hi (yAk _);have hat:=vJ (sz:=3) gs i ye jK;have BH:gs[i]' ye=[.int .i64 l[i].lo,.int .i64 l[i].hi,eT.aA l[i].aT]:=(yA.1 hgi).2;rw[BH,hz]at hat;have hfl:=zI (sz:=3) (new:=[hd 2 (σ.length+1) z.aT.length]) (j:=2) yg gs i ye jK;rw[BH,hz]at hfl;obtain⟨zl,zh,zd⟩:=z;simp only[aV]at hat hfl hzd;have hset:eC [PD.int .i64 zl,.int .i64 zh,.slice (sz 2 zd) (zd.map Em.draw.aA) .any] 2 [hd 2 (σ.length+1) zd.length]=[.int .i64 zl,.int .i64 zh,hd 2 (σ.length+1) zd.length]:=rfl;rw[hset]at hfl;obtain⟨nH,nI⟩:=gn (gs.set i [PD.int .i64 zl,.int .i64 zh,hd 2 (σ.length+1) zd.length]);rw[nI]at hfl;obtain⟨cs,hcs⟩:=gn (gs.flatten);rw[hcs]at v2 hlen hat hfl y2;obtain⟨IM,JV⟩:=gn (nH.flatten);rw[JV]at hfl;have nG:i*3+3<=cs.length:=ye;have gl2:i*3+2+1<=cs.length:=ye;have gl3:i*3+2<cs.length:=ye;have xk:nP prog 54 (.aU (B+2) 0 0 l.length 3) (.int .i64 i)=some (.dH (B+2) 0 (i*3)):=by
   simp[oN,hi]
  have hD:=F4 (em:=Em.draw) (e:=89) (k:=2) zd hzd;simp only[aV]at hD;obtain⟨h9,iF⟩:=gn (hd 2 (σ.length+1) zd.length);have DG:=λfl=>hD fl (σ++[aB.box (.agg [.int .i64 zl,.int .i64 zh,.slice (sz 2 zd) (zd.map Em.draw.aA) .any])])
  have hll:(σ++[aB.box (.agg [.int .i64 zl,.int .i64 zh,.slice (sz 2 zd) (zd.map Em.draw.aA) .any])]).length=σ.length+1:=yg;simp only[hll,iF]at DG;have hN1:=JK (fl:=0) h2 DG;rw[iF]at hfl;have p9:h9.plain=true:=Ee;have c9:h9.cells=[h9]:=Ef;unfold PD.plain at p9;unfold PD.cells at c9;simp only[eC,yAS,yAT,yAp,Nat.reduceAdd,yBX,yAi,yAQ,yAO]at hfl;obtain⟨lI,DH⟩:=gn (σ++[aB.box (.agg [.int .i64 zl,.int .i64 zh,.slice (sz 2 zd) (zd.map Em.draw.aA) .any])]++newRow 89 2 (zd.map Em.draw.aA));rw[DH]at hN1;have j9:=v0;rw[<-hX]at j9;have u0:(σ++[aB.box (.agg [.int .i64 zl,.int .i64 zh,.slice (sz 2 zd) (zd.map Em.draw.aA) .any])])[B]?=some (.box (.agg [.str nm,.int .i64 a,.int .i64 b,.aU (B+2) 0 0 l.length 3])):=cL j9;have u7:lI[B+2]?=some (.row 92 3 0 cs):=by rw[<-DH];exact cL (cL v2)
  obtain⟨r7,y7⟩:=yA.1 u7;obtain⟨w0,z0⟩:=yA.1 u0;obtain⟨_,s6⟩:=yA.1 j9;have j0:∀x:aB,(σ++[x])[σ.length]?=some x:=λx=>yg
  refine aC xu ?_;refine Wp.U2 yu ?_;refine CF (A17 u0 w0 @z0 r0 s6 j0 hN1 xk hi p9 c9 u7 r7 y7 gl2 gl3 hfl) ?_;apply SQ.nil;refine aC q1 ?_;have zJ:σ.length+1<=lI.length:=by rw[<-DH,yAa,yAa];simp
  have o0:∀(id:Nat) (o:aB),σ[id]?=some o->lI[id]?=some o:=λid o h=>by rw[<-DH];exact cL (cL h)
  obtain⟨bO,cY⟩:=gn (lI.set (B+2) (.row 92 3 0 IM));have fQ:∀id,id≠B+2->bO[id]?=lI[id]?:=λid h=>zy
  have OA:bO.length=lI.length:=by rw[<-cY,yAD]
  have JR:bO[B+2]?=some (.row 92 3 0 nH.flatten):=by rw[<-cY,JV];exact yAj r7
  have JS:nH.length=l.length:=by rw[<-nI,yAD,hgl]
  have JT:∀g∈nH,g.length=3:=λg h=>by
   exact jb
  have hdn:∀g (h:g<l.length),g<i+1->nH[g]?=some [.int .i64 l[g].lo,.int .i64 l[g].hi,hd 2 (if g=i then σ.length+1 else iW g) l[g].aT.length]/\(0<l[g].aT.length->B+2<(if g=i then σ.length+1 else iW g)/\(if g=i then σ.length+1 else iW g)<bO.length/\bO[if g=i then σ.length+1 else iW g]?=some (.row 89 2 0 (jJ l[g].aT))):=λg h h2=>by
   by_cases e:g=i
   .subst e;simp only[yAK,hz];refine⟨?_,λjU=>⟨ye,?_,?_⟩⟩
    .rw[<-nI,yAj ye,iF]
    .rw[OA,<-DH,yAa,hll];unfold newRow;rw[yAI zo];simp
    .rw[fQ _ ye,<-DH,<-hll,N9 _ (by rw[yAe];exact jU),aCX]
   .rw[yAI e];obtain⟨d1,d2⟩:=hdone g h ye;refine⟨?_,λjU=>?_⟩
    .rw[<-nI,yAd (yBb e)];exact d1
    .obtain⟨k1,k2,k3⟩:=d2 jU;exact⟨k1,by rw[OA];omega,by rw[fQ _ ye];exact o0 _ _ k3⟩
  have hin:∀g g' (h:g<l.length) (h':g'<l.length),g<i+1->g'<i+1->0<l[g].aT.length->0<l[g'].aT.length->(if g=i then σ.length+1 else iW g)=(if g'=i then σ.length+1 else iW g')->g=g':=λg g' h h' b1 b2 p1 p2 e=>by
   by_cases e1:g=i
   .by_cases e2:g'=i
    .rw[e1,e2]
    .rw[yAJ e1,yAI e2]at e;have:=((hdone g' h' ye).2 p2).2.1;omega
   .by_cases e2:g'=i
    .rw[yAI e1,yAJ e2]at e;have:=((hdone g h ye).2 p1).2.1;omega
    .rw[yAI e1,yAI e2]at e;exact hinj g g' h h' ye ye p1 p2 e
  refine bC.normal (m-1) ye (by refine⟨i+1,nH,(λg=>if g=i then σ.length+1 else iW g),bO,?_⟩;exact dU (⟨ye,JS,JT,by rw[fQ B ye];exact o0 _ _ v0,by rw[fQ (B+1) ye];exact o0 _ _ v1,JR,λid h=>by rw[fQ id ye,<-DH,yAg zf,yAg ye];exact hkeep id h,λg h h2=>by rw[<-nI,yAd ye];exact hrest g h ye,hdn,hin⟩) @cY)
 .have q1:¬(i:Int)<(l.length:Int):=by omega
  have j9:=v0;have v1':=v1;rw[<-hX]at j9;rw[<-hY]at v1';obtain⟨_,s6⟩:=yA.1 j9;obtain⟨_,JU⟩:=yA.1 v1';refine aC (A7 q1 j9 r0 s6 v1' r1 JU) ?_;obtain⟨bO,cY⟩:=gn (σ.set (B+1) (.box (.agg [.str nm,.int .i64 a,.int .i64 b,.aU (B+2) 0 0 l.length 3])));rw[cY];have fQ:∀id,id≠B+1->bO[id]?=σ[id]?:=λid h=>zy
  have z1:bO[B+1]?=some (.box (.agg [.str nm,.int .i64 a,.int .i64 b,.aU (B+2) 0 0 l.length 3])):=Ei;refine⟨.agg [.str nm,.int .i64 a,.int .i64 b,.aU (B+2) 0 0 l.length 3],bO,by simp[eF,z1],⟨B+2,gs,iW,?_⟩,Bt,λid h=>by rw[fQ id ye];exact hkeep id h⟩;refine⟨by rw[e1],hgl,λ_=>⟨ye,by rw[fQ _ ye];exact v2⟩,λg (h:g<l.length)=>?_,λg g' (h:g<l.length) (h':g'<l.length)=>hinj g g' h h' ye ye⟩;obtain⟨d1,d2⟩:=hdone g h ye;exact⟨d1,λjU=>by obtain⟨k1,k2,k3⟩:=d2 jU;exact⟨ye,by rw[fQ _ ye];exact k3⟩⟩
end
section
structure pO (σ:List aB) (lo:Nat) (d:bD) (p:PD) (iS:Nat) (ss:List (List PD)) (tG:Nat->Nat) (tgs:Nat->List (List PD)) (tW:Nat->Nat->Nat):Prop where
 p:p=.agg [.str d.name,.bool d.eG,.int .i64 d.low,.int .i64 d.high,hd 4 iS d.stops.length]
 len:ss.length=d.stops.length
 row:0<d.stops.length->lo<=iS/\σ[iS]?=some (.row 56 4 0 ss.flatten)
 at_:∀s (h:s<d.stops.length),ss[s]?=some [.str d.stops[s].name,.int .i64 d.stops[s].num,.int .i64 d.stops[s].den,hd 3 (tG s) d.stops[s].aO.length] /\
  s5 σ lo d.stops[s] (.agg [.str d.stops[s].name,.int .i64 d.stops[s].num,.int .i64 d.stops[s].den,hd 3 (tG s) d.stops[s].aO.length]) (tG s) (tgs s) (tW s)
 inj:∀s s' g g' (h:s<d.stops.length) (h':s'<d.stops.length) (k:g<d.stops[s].aO.length) (k':g'<d.stops[s'].aO.length),0<d.stops[s].aO[g].aT.length->0<d.stops[s'].aO[g'].aT.length->tW s g=tW s' g'->s=s'/\g=g'
theorem s5.bF{σ σ':Ex}{lo lo':Nat}{s:bU}{p:PD}{iG:Nat}{gs:Eu}{iW:Nat->Nat}(h:s5 σ lo s p iG gs iW)(hl:lo'<=lo)(hk:∀(id:Nat) (o:aB),lo<=id->σ[id]?=some o->σ'[id]?=some o):s5 σ' lo' s p iG gs iW:=by
 obtain⟨h1,h2,h3,h4,h5⟩:=h;exact⟨h1,h2,λhp=>⟨yAW hl (h3 hp).1,hk _ _ (h3 hp).1 (h3 hp).2⟩,λg h=>⟨(h4 g h).1,λhp=>⟨yAW hl ((h4 g h).2 hp).1,hk _ _ ((h4 g h).2 hp).1 ((h4 g h).2 hp).2⟩⟩,h5⟩
variable{E E0:aE}(hU:aH E)
include hU
theorem aLn(h0:E 77=none)(h1:E 110=some (iT 56 4))(h2:E 86=some (gP prog E0 86))
  (hcs:∀(s:bU) (hs:mA s) (τ:List aB),aL prog E0 0 (.inl 86) [Em.stop.aA s] τ (λp σ'=>(∃iG gs iW,s5 σ' τ.length s p iG gs iW)/\τ.length<=σ'.length/\∀id,id<τ.length->σ'[id]?=τ[id]?)) (d:bD) (hd:mB d) (τ:List aB) :
  aL prog E 0 (.inl 77) [Em.div.aA d] τ (λp σ'=>(∃iS ss tG tgs tW,pO σ' τ.length d p iS ss tG tgs tW)/\τ.length<=σ'.length/\∀id,id<τ.length->σ'[id]?=τ[id]?):=by
 clear hU;obtain⟨nm,pe,a,b,l⟩:=d;obtain⟨hl,hld⟩:=hd;simp only at hl hld;have hC:=F4 (em:=Em.stop) (e:=56) (k:=4) l hl;simp only[nN,aV]at hC ⊢
 by_cases hl0:l=[]
 .subst hl0;have e0:newRow 56 4 (([]:List bU).map Em.stop.aA)=[]:=rfl;have e1:∀id,Go.Kz.hd 4 id ([]:List bU).length=.slice 0 [] .full:=λ_=>rfl
  simp only[e0,e1,yAl]at hC;refine aL.aN 25 h0 func77 (h:=?_);refine aC (A2 h1 hC) ?_;refine Wp.loop ?_;refine aC trivial ?_;obtain⟨X,hX⟩:=gn (aB.box (.agg [.str nm,.bool pe,.int .i64 a,.int .i64 b,.slice 0 [] .full]));refine⟨.agg [.str nm,.bool pe,.int .i64 a,.int .i64 b,.slice 0 [] .full],τ++[X,X],?_,⟨0,[],λ_=>0,λ_=>[],λ_ _=>0,⟨rfl,rfl,λh=>absurd h (yCG 0),λg h=>absurd h (yBv g),λs s' g g' h=>absurd h (yBv s)⟩⟩,yg,λid h=>yAg h⟩;rw[<-hX];simp[eF]
 have hp:0<l.length:=yCt.2 hl0;have e1:∀id,Go.Kz.hd 4 id l.length=.aU id 0 0 l.length 4:=λid=>by unfold Go.Kz.hd;rw[yAI ye]
 have e2:newRow 56 4 (l.map Em.stop.aA)=[.row 56 4 0 ((l.map λr=>[PD.str r.name,.int .i64 r.num,.int .i64 r.den,mS.aA r.aO]).flatten)]:=by
  unfold newRow;rw[yAI zo,aLK]
 simp only[e1,e2]at hC;obtain⟨g0,pP⟩:=gn ((l.map λr=>[PD.str r.name,.int .i64 r.num,.int .i64 r.den,mS.aA r.aO]));rw[pP]at hC;obtain⟨c0,hc0⟩:=gn (g0.flatten);rw[hc0]at hC;rw[rE hl0]at hC ⊢;obtain⟨xs,hxs⟩:=gn (l.map Em.stop.aA);rw[hxs]at hC ⊢;refine aL.aN 25 h0 func77 (h:=?_);refine aC (A2 h1 hC) ?_;obtain⟨B,hB⟩:=gn (τ.length);rw[hB];have JO:∀g (h:g<l.length),g0[g]?=some [.str l[g].name,.int .i64 l[g].num,.int .i64 l[g].den,mS.aA l[g].aO]:=λg h=>by
  subst pP;rw[yAo,yAh h];rfl
 have JP:g0.length=l.length:=by rw[<-pP,yAe]
 have JQ:∀g∈g0,g.length=4:=λg h=>by
  rw[<-pP]at h;exact mo
 obtain⟨X,hX⟩:=gn (aB.box (.agg [.str nm,.bool pe,.int .i64 a,.int .i64 b,.aU (B+2) 0 0 l.length 4]));obtain⟨Y,hY⟩:=gn (aB.box (.agg [.str [],.bool false,.int .i64 0,.int .i64 0,.slice 0 [] .full]));refine Wp.cI (λm fr σ=>∃(i:Nat) (gs:List (List PD)) (tG:Nat->Nat) (tgs:Nat->List (List PD)) (tW:Nat->Nat->Nat) (σ1:List aB),∃gg:Nat->PD,(i+m=l.length/\gs.length=l.length/\(∀g∈gs,g.length=4)/\σ1[B]?=some X/\σ1[B+1]?=some Y/\σ1[B+2]?=some (.row 56 4 0 gs.flatten)/\(∀id,id<B->σ1[id]?=τ[id]?)/\(∀g (h:g<l.length),i<=g->gs[g]?=some [.str l[g].name,.int .i64 l[g].num,.int .i64 l[g].den,mS.aA l[g].aO])/\(∀s (h:s<l.length),s<i->gs[s]?=some [.str l[s].name,.int .i64 l[s].num,.int .i64 l[s].den,Go.Kz.hd 3 (tG s) l[s].aO.length]/\s5 σ1 (B+3) l[s] (.agg [.str l[s].name,.int .i64 l[s].num,.int .i64 l[s].den,Go.Kz.hd 3 (tG s) l[s].aO.length]) (tG s) (tgs s) (tW s))/\(∀s s' g g' (h:s<l.length) (h':s'<l.length) (k:g<l[s].aO.length) (k':g'<l[s'].aO.length),s<i->s'<i->0<l[s].aO[g].aT.length->0<l[s'].aO[g'].aT.length->tW s g=tW s' g'->s=s'/\g=g'))/\fr=[gg 0,.ptr B 0,.ptr (B+1) 0,gg 3,gg 4,gg 5,gg 6,gg 7,gg 8,gg 9,.aU (B+2) 0 0 l.length 4,.int .i64 l.length,.int .i64 i,gg 13,gg 14,gg 15,gg 16,gg 17,gg 18,gg 19,gg 20,gg 21,gg 22,gg 23,gg 24]/\σ=σ1) ?_ (l.length) (by refine⟨0,g0,(λ_=>0),(λ_=>[]),(λ_ _=>0),(τ++[X,Y,.row 56 4 0 c0]),?_⟩;exact dU (⟨ye,JP,JQ,Ar,Ar,by rw[<-hB,hc0];simp,λid h=>by rw[yAg ye],λg h _=>JO g h,λg h h2=>absurd h2 (yBv g),λs s' g g' h h' k k' h2=>absurd h2 (yBv s)⟩) (A3 hX hY hB))
 rintro m fr σ ⟨i,gs,tG,tgs,tW,σ1,gg,hI,rfl,rfl⟩
 obtain⟨hm,hgl,jK,v0,v1,v2,hkeep,hrest,hdone,hinj⟩:=hI;have hlen:=qT (sz:=4) gs jK;obtain⟨r0,y0⟩:=yA.1 v0;obtain⟨r1,y1⟩:=yA.1 v1;obtain⟨r2,y2⟩:=yA.1 v2
 by_cases hi:i<l.length
 .have q1:(i:Int)<(l.length:Int):=by omega
  have hzo:=hld _ (yAm hi);have hgi:=hrest i hi (yAk _);have hat:=vJ (sz:=4) gs i ye jK;have BH:gs[i]' ye=[.str l[i].name,.int .i64 l[i].num,.int .i64 l[i].den,mS.aA l[i].aO]:=(yA.1 hgi).2;obtain⟨z,hz⟩:=gn (l[i]);rw[BH,hz]at hat;rw[hz]at hzo;have hW:=hcs z hzo (σ++[aB.box (Em.stop.aA z)]);have hll:(σ++[aB.box (Em.stop.aA z)]).length=σ.length+1:=yg;obtain⟨pz,lI,hev,⟨iG,zgs,iW,hst⟩,zJ,o0⟩:=hW.e0 yg;rw[hll]at hst zJ o0;have hpz:=hst.p;subst hpz;have hfl:=zI (sz:=4) (new:=[.str z.name,.int .i64 z.num,.int .i64 z.den,Go.Kz.hd 3 iG z.aO.length]) (j:=0) yg gs i ye jK;rw[BH,hz]at hfl;have hset:eC [PD.str z.name,.int .i64 z.num,.int .i64 z.den,mS.aA z.aO] 0 [.str z.name,.int .i64 z.num,.int .i64 z.den,Go.Kz.hd 3 iG z.aO.length]=[.str z.name,.int .i64 z.num,.int .i64 z.den,Go.Kz.hd 3 iG z.aO.length]:=rfl;rw[hset,yBt]at hfl;obtain⟨nH,nI⟩:=gn (gs.set i [PD.str z.name,.int .i64 z.num,.int .i64 z.den,Go.Kz.hd 3 iG z.aO.length]);rw[nI]at hfl;obtain⟨cs,aLL⟩:=gn (gs.flatten);rw[aLL]at v2 hlen hat hfl y2;obtain⟨IM,JV⟩:=gn (nH.flatten);rw[JV]at hfl;have nG:i*4+4<=cs.length:=ye;have xk:nP prog 51 (.aU (B+2) 0 0 l.length 4) (.int .i64 i)=some (.dH (B+2) 0 (i*4)):=by
   simp[oN,hi]
  obtain⟨h9,iF⟩:=gn (Go.Kz.hd 3 iG z.aO.length);have p9:h9.plain=true:=Ee;have c9:h9.cells=[h9]:=Ef;rw[iF]at hev hfl;simp only[eC,yAS,yAT,yAp,Nat.reduceAdd,yBX,yAi,yAQ,yAO]at hfl;unfold PD.plain at p9;have j9:=v0;rw[<-hX]at j9;have u0:(σ++[aB.box (Em.stop.aA z)])[B]?=some (.box (.agg [.str nm,.bool pe,.int .i64 a,.int .i64 b,.aU (B+2) 0 0 l.length 4])):=cL j9;have u7:lI[B+2]?=some (.row 56 4 0 cs):=by rw[o0 _ ye];exact cL v2
  obtain⟨r7,y7⟩:=yA.1 u7;obtain⟨w0,z0⟩:=yA.1 u0;obtain⟨_,s6⟩:=yA.1 j9;have j0:∀x:aB,(σ++[x])[σ.length]?=some x:=λx=>yg
  have hK:=U3 (B:=[B]) h2 hev (by rw[hll];exact zJ) (λid h h3=>o0 id (by rw[hll]at h3;exact h3));obtain⟨zn,za,zb,zs⟩:=z;simp only[qE,aV]at hat hK u0 w0 z0 hll;refine aC xu ?_;refine Wp.aCW h2 U4 yg [(1,B),(4,σ.length)] [B] [some B] yu ⟨⟨_,rfl⟩,⟨_,rfl⟩,trivial⟩ yf (by simp[zK]) ?_;refine CF xL ?_;apply SQ.nil;refine aC q1 ?_;have vK:∀id,id<σ.length->lI[id]?=σ[id]?:=λid h=>by rw[o0 id ye,yAg h]
  obtain⟨bO,cY⟩:=gn (lI.set (B+2) (.row 56 4 0 IM));have fQ:∀id,id≠B+2->bO[id]?=lI[id]?:=λid h=>zy
  have JR:bO[B+2]?=some (.row 56 4 0 nH.flatten):=by rw[<-cY,JV];exact yAj r7
  have JS:nH.length=l.length:=by rw[<-nI,yAD,hgl]
  have JT:∀g∈nH,g.length=4:=λg h=>by
   exact jb
  have hlt:∀(id:Nat) (o:aB),σ[id]?=some o->id<σ.length:=λid o h=>(yA.1 h).1
  have hdn:∀s (h:s<l.length),s<i+1->nH[s]?=some [.str l[s].name,.int .i64 l[s].num,.int .i64 l[s].den,Go.Kz.hd 3 (if s=i then iG else tG s) l[s].aO.length]/\s5 bO (B+3) l[s] (.agg [.str l[s].name,.int .i64 l[s].num,.int .i64 l[s].den,Go.Kz.hd 3 (if s=i then iG else tG s) l[s].aO.length]) (if s=i then iG else tG s) (if s=i then zgs else tgs s) (if s=i then iW else tW s):=λs h h2=>by
   exact cr
  have hin:∀s s' g g' (h:s<l.length) (h':s'<l.length) (k:g<l[s].aO.length) (k':g'<l[s'].aO.length),s<i+1->s'<i+1->0<l[s].aO[g].aT.length->0<l[s'].aO[g'].aT.length->(if s=i then iW else tW s) g=(if s'=i then iW else tW s') g'->s=s'/\g=g':=λs s' g g' h h' k k' b1 b2 p1 p2 e=>by
   by_cases e1:s=i
   .by_cases e2:s'=i
    .subst e1;subst e2;simp only[yAK]at e;simp only[hz]at k k' p1 p2;exact⟨rfl,hst.inj g g' k k' p1 p2 e⟩
    .rw[yAJ e1,yAI e2]at e;have h1:=hlt _ _ (((hdone s' h' ye).2.at_ g' k').2 p2).2;subst e1;simp only[hz]at k p1;have h2:=((hst.at_ g k).2 p1).1;omega
   .by_cases e2:s'=i
    .rw[yAI e1,yAJ e2]at e;have h1:=hlt _ _ (((hdone s h ye).2.at_ g k).2 p1).2;subst e2;simp only[hz]at k' p2;have h2:=((hst.at_ g' k').2 p2).1;omega
    .exact pq
  refine bC.normal (m-1) ye (by refine⟨i+1,nH,(λs=>if s=i then iG else tG s),(λs=>if s=i then zgs else tgs s),(λs=>if s=i then iW else tW s),bO,?_⟩;exact dU (⟨ye,JS,JT,by rw[fQ B ye,vK B r0];exact v0,by rw[fQ (B+1) ye,vK _ r1];exact v1,JR,λid h=>by rw[fQ id ye,vK id ye];exact hkeep id h,λg h h2=>by rw[<-nI,yAd ye];exact hrest g h ye,hdn,hin⟩) @cY)
 .have q1:¬(i:Int)<(l.length:Int):=by omega
  have j9:=v0;have v1':=v1;rw[<-hX]at j9;rw[<-hY]at v1';obtain⟨_,s6⟩:=yA.1 j9;obtain⟨_,JU⟩:=yA.1 v1';refine aC (A7 q1 j9 r0 s6 v1' r1 JU) ?_;obtain⟨bO,cY⟩:=gn (σ.set (B+1) (.box (.agg [.str nm,.bool pe,.int .i64 a,.int .i64 b,.aU (B+2) 0 0 l.length 4])));rw[cY];have fQ:∀id,id≠B+1->bO[id]?=σ[id]?:=λid h=>zy
  have z1:bO[B+1]?=some (.box (.agg [.str nm,.bool pe,.int .i64 a,.int .i64 b,.aU (B+2) 0 0 l.length 4])):=Ei;refine⟨.agg [.str nm,.bool pe,.int .i64 a,.int .i64 b,.aU (B+2) 0 0 l.length 4],bO,by simp[eF,z1],⟨B+2,gs,tG,tgs,tW,?_⟩,Bt,λid h=>by rw[fQ id ye];exact hkeep id h⟩;refine⟨by rw[e1],hgl,λ_=>⟨ye,by rw[fQ _ ye];exact v2⟩,λs (h:s<l.length)=>?_,λs s' g g' (h:s<l.length) (h':s'<l.length) k k'=>hinj s s' g g' h h' k k' ye ye⟩;exact jy
end
section
theorem aLE(l:List Int)(h0:l≠[])(hl:l.length<=1000000)(σ:List aB):∃tok σ',rP prog 46 1 0 [.slice 1 (l.map i64.aA) .any] σ=some (.slice 1 (l.map i64.aA) tok,σ')/\jR σ' tok 3 1 l.length/\∀(id:Nat) (o:aB),σ[id]?=some o->σ'[id]?=some o:=by
 obtain⟨tok,σ',h1,h2,h3⟩:=aLF (P:=prog) (σ:=σ) (t:=46) (e:=3) (k:=1) (b:=8) (s:=1) (z:=1) (xs:=l.map i64.aA) underlying46 yf (.inr rfl) zo zo;refine⟨tok,σ',?_,by rw[yAe]at h2;exact h2,h3⟩;have hn:l.length≠0:=λh=>h0 (yAf h)
 rw[yAe,yAI hn]at h1;obtain⟨x,l',rfl⟩:=List.exists_cons_of_ne_nil h0;simp only[yAR]at h1 ⊢;have hr:cX prog 8 0 σ 46 (.slice 1 [] .full) (.slice 1 (i64.aA x::l'.map i64.aA) .any)=none:=by
  unfold cX;rw[yAI yu]
 unfold rP pap;simp only[hr];have hs:(PD.slice (0+1) (i64.aA x::l'.map i64.aA) .any).strip=.slice (0+1) (i64.aA x::l'.map i64.aA) .any:=by
  have h:=eS.str (x::l');rw[aV,rE h0]at h;exact h
 rw[hs];exact h1
variable{E E0:aE}(hU:aH E)
include hU
omit hU in
theorem aJd(h0:E 76=none)(h1:E 109=some (rP prog 46 1))(r:bB)(hr:kG r):aI prog E 76 [Em.aG.aA r] (Em.aG.aA r):=by
 obtain⟨nm,tn,a,b,c,w⟩:=r;simp only[oD,aV]
 by_cases hw:w=[]
 .subst hw;have hC:∀fl σ k,rP prog 46 1 fl [.slice k [] .any] σ=some (.slice 0 [] .full,σ):=λfl σ k=>rfl
  refine aI.aN 8 h0 func76 (h:=?_);refine aC (A2 h1 hC) ?_;exact⟨_,_,rfl,rfl⟩
 rw[rE hw];have hlen:(w.map i64.aA).length=w.length:=yAe ..;obtain⟨xs,hxs⟩:=gn (w.map i64.aA);obtain⟨X,hX⟩:=gn (aB.box (.agg [.str nm,.str tn,.int .i64 a,.int .i64 b,.int .i64 c,.slice 1 xs .any]));obtain⟨Y,hY⟩:=gn (aB.box (.agg [.str [],.str [],.int .i64 0,.int .i64 0,.int .i64 0,.slice 0 [] .full]));obtain⟨tok,σ',e1,e2,e3⟩:=aLE w hw hr [X,Y];have g0:=e3 0 X rfl;have g1:=e3 1 Y rfl;rw[hxs]at e1 ⊢;obtain⟨w0,z0⟩:=yA.1 g0;rw[<-hX]at z0;obtain⟨w1,z1⟩:=yA.1 g1;rw[<-hY]at z1;rw[<-hX,<-hY]at e1;rw[<-hX]at g0;rw[<-hY]at g1;refine aI.aN 8 h0 func76 (h:=?_);refine aC (A8 h1 e1 w0 @z0 @g0 @g1 w1 z1) ?_;refine⟨.agg [.str nm,.str tn,.int .i64 a,.int .i64 b,.int .i64 c,.slice 1 xs tok],(σ'.set 0 (.box (.agg [.str nm,.str tn,.int .i64 a,.int .i64 b,.int .i64 c,.slice 1 xs tok]))).set 1 (.box (.agg [.str nm,.str tn,.int .i64 a,.int .i64 b,.int .i64 c,.slice 1 xs tok])),?_,?_⟩
 .simp[eF,w1]
 .have h:=eS.str w;rw[aV,rE hw,hxs]at h;have hx:(PD.slice 1 xs tok).strip=(PD.slice 1 xs .any).strip:=by
   obtain⟨x,l,rfl⟩:=List.exists_cons_of_ne_nil (show xs≠[]from λe=>hw (by rw[e]at hxs;exact List.map_eq_nil_iff.1 hxs));rfl
  simp only[PD.strip,PD.mF];rw[hx,h]
omit hU in
theorem pO.bF{σ σ':Ex}{lo lo':Nat}{d:bD}{p:PD}{iS:Nat}{ss:Eu}{tG:Nat->Nat}{tgs:Et}{tW:Nat->Nat->Nat}(h:pO σ lo d p iS ss tG tgs tW)(hl:lo'<=lo)(hk:∀(id:Nat) (o:aB),lo<=id->σ[id]?=some o->σ'[id]?=some o):pO σ' lo' d p iS ss tG tgs tW:=by
 obtain⟨h1,h2,h3,h4,h5⟩:=h;exact⟨h1,h2,λhp=>⟨yAW hl (h3 hp).1,hk _ _ (h3 hp).1 (h3 hp).2⟩,λg h=>⟨(h4 g h).1,(h4 g h).2.bF hl hk⟩,h5⟩
structure F3 (σ:List aB) (lo:Nat) (o:aM) (p:PD) (iR iD iC:Nat) (ds:List (List PD)) (tS:Nat->Nat) (tss:Nat->List (List PD)) (tG:Nat->Nat->Nat) (tgs:Nat->Nat->List (List PD)) (tW:Nat->Nat->Nat->Nat):Prop where
 p:p=.agg [.str o.name,hd 6 iR o.aK.length,hd 5 iD o.aD.length,hd 5 iC o.aR.length]
 aG:0<o.aK.length->lo<=iR/\σ[iR]?=some (.row 48 6 0 ((o.aK.map Em.aG.aA).flatMap PD.cells))
 aJ:0<o.aR.length->lo<=iC/\σ[iC]?=some (.row 58 5 0 ((o.aR.map Em.aJ.aA).flatMap PD.cells))
 len:ds.length=o.aD.length
 row:0<o.aD.length->lo<=iD/\σ[iD]?=some (.row 53 5 0 ds.flatten)
 at_:∀d (h:d<o.aD.length),ds[d]?=some [.str o.aD[d].name,.bool o.aD[d].eG,.int .i64 o.aD[d].low,.int .i64 o.aD[d].high,hd 4 (tS d) o.aD[d].stops.length] /\
  pO σ lo o.aD[d] (.agg [.str o.aD[d].name,.bool o.aD[d].eG,.int .i64 o.aD[d].low,.int .i64 o.aD[d].high,hd 4 (tS d) o.aD[d].stops.length]) (tS d) (tss d) (tG d) (tgs d) (tW d)
 aLG:∀d d' (h:d<o.aD.length) (h':d'<o.aD.length),0<o.aD[d].stops.length->0<o.aD[d'].stops.length->tS d=tS d'->d=d'
 U1:∀d d' s s' g g' (h:d<o.aD.length) (h':d'<o.aD.length) (k:s<o.aD[d].stops.length) (k':s'<o.aD[d'].stops.length) (l:g<o.aD[d].stops[s].aO.length) (l':g'<o.aD[d'].stops[s'].aO.length),0<o.aD[d].stops[s].aO[g].aT.length->0<o.aD[d'].stops[s'].aO[g'].aT.length->tW d s g=tW d' s' g'->d=d'/\s=s'/\g=g'
theorem aLm(h0:E 41=none)(h1:E 73=some (iT 48 6))(h2:E 74=some (iT 53 5))(h3:E 75=some (iT 58 5))
  (h4:E 76=some (entry (bZ Em.aG Em.aG λr=>dY (kG r) (some r)))) (h5:E 77=some (gP prog E0 77))
  (hcs:∀(d:bD) (hs:mB d) (τ:List aB),aL prog E0 0 (.inl 77) [Em.div.aA d] τ (λp σ'=>(∃iS ss tG tgs tW,pO σ' τ.length d p iS ss tG tgs tW)/\τ.length<=σ'.length/\∀id,id<τ.length->σ'[id]?=τ[id]?))
  (o:aM) (ho:eV o) (τ:List aB) :
  aL prog E 0 (.inl 41) [Em.bH.aA o] τ (λp σ'=>(∃iR iD iC ds tS tss tG tgs tW,F3 σ' τ.length o p iR iD iC ds tS tss tG tgs tW)/\τ.length<=σ'.length/\∀id,id<τ.length->σ'[id]?=τ[id]?):=by
 clear hU;obtain⟨nm,rs,ds,cs⟩:=o;obtain⟨⟨lP,gT⟩,⟨uA,mW⟩,dI⟩:=ho;simp only at lP gT uA mW dI;have hCR:=F4 (em:=Em.aG) (e:=48) (k:=6) rs lP;have hCD:=F4 (em:=Em.div) (e:=53) (k:=5) ds uA;have hCC:=F4 (em:=Em.aJ) (e:=58) (k:=5) cs dI;have kR:=λfl σ=>JK (fl:=fl) (σ:=σ) h1 (λfl=>hCR fl σ)
 have kD:=λfl σ=>JK (fl:=fl) (σ:=σ) h2 (λfl=>hCD fl σ)
 have kC:=λfl σ=>JK (fl:=fl) (σ:=σ) h3 (λfl=>hCC fl σ)
 simp only[iA,aV]at kR kD kC ⊢;obtain⟨B,hB⟩:=gn (τ.length);obtain⟨nR,hnR⟩:=gn (newRow 48 6 (rs.map Em.aG.aA));obtain⟨nD,hnD⟩:=gn (newRow 53 5 (ds.map Em.div.aA));obtain⟨nC,hnC⟩:=gn (newRow 58 5 (cs.map Em.aJ.aA));rw[hnR]at kR;rw[hnD]at kD;rw[hnC]at kC;obtain⟨lR,hlR⟩:=gn (rs.map Em.aG.aA);obtain⟨lD,hlD⟩:=gn (ds.map Em.div.aA);obtain⟨lC,hlC⟩:=gn (cs.map Em.aJ.aA);obtain⟨zR,hzR⟩:=gn (sz 6 rs);obtain⟨zD,hzD⟩:=gn (sz 5 ds);obtain⟨zC,hzC⟩:=gn (sz 5 cs);rw[hlR,hzR]at kR;rw[hlD,hzD]at kD;rw[hlC,hzC]at kC;rw[hlR,hlD,hlC,hzR,hzD,hzC];obtain⟨W,hW⟩:=gn (aB.box (.agg [.str nm,.slice zR lR .any,.slice zD lD .any,.slice zC lC .any]));obtain⟨Y,hY⟩:=gn (aB.box (.agg [.str [],.slice 0 [] .full,.slice 0 [] .full,.slice 0 [] .full]));obtain⟨iD,hiD⟩:=gn ((τ++W::Y::nR).length);obtain⟨iC,hiC⟩:=gn ((τ++W::Y::(nR++nD)).length);have JL:=λfl=>kR fl (τ++[W,Y])
 have JM:=λfl=>kD fl (τ++W::Y::nR)
 have JN:=λfl=>kC fl (τ++W::Y::(nR++nD))
 have e2:(τ++[W,Y]).length=B+2:=by rw[yAa,hB];rfl
 rw[e2]at JL;rw[hiD]at JM;rw[hiC]at JN;simp only[yAi,yAQ,yAO]at JL JM JN;obtain⟨hR,hhR⟩:=gn (Go.Kz.hd 6 (B+2) rs.length);obtain⟨hD,hhD⟩:=gn (Go.Kz.hd 5 iD ds.length);obtain⟨hC,hhC⟩:=gn (Go.Kz.hd 5 iC cs.length);have pR:hR.plain=true:=by rw[<-hhR];exact F5 _ _ _
 have pD:hD.plain=true:=by rw[<-hhD];exact F5 _ _ _
 have pC:hC.plain=true:=by rw[<-hhC];exact F5 _ _ _
 unfold PD.plain at pR pD pC;have cR:hR.cells=[hR]:=by rw[<-hhR];exact F6 _ _ _
 have cD:hD.cells=[hD]:=by rw[<-hhD];exact F6 _ _ _
 have cC:hC.cells=[hC]:=by rw[<-hhC];exact F6 _ _ _
 rw[hhR]at JL;rw[hhD]at JM;rw[hhC]at JN;rw[<-hW,<-hY]at JL JM JN;have jG:∀(X:aB) L,(τ++X::L)[B]?=some X:=λX L=>Ar
 have jS:∀(X Y:aB) L,(τ++X::L).set B Y=τ++Y::L:=λX Y L=>Ar
 unfold PD.cells at cR cD cC;refine aL.aN 50 h0 func41 (h:=?_);refine aC trivial ?_;rw[hB];refine Wp.seq ?_;refine Wp.U2 yu ?_;refine CF (A11 JL JM JN jG jS pR pD pC cR cD cC) ?_;apply SQ.nil;obtain⟨S0,nV⟩:=gn (τ++aB.box (.agg [.str nm,hR,hD,hC])::Y::(nR++(nD++nC)));have lR':jE prog .len #[31] [hR]=some (.int .i64 rs.length):=by
  rw[<-hhR];unfold Go.Kz.hd;split
  .rename_i h;rw[h];rfl
  .rfl
 have lD':jE prog .len #[32] [hD]=some (.int .i64 ds.length):=by
  rw[<-hhD];unfold Go.Kz.hd;split
  .rename_i h;rw[h];rfl
  .rfl
 have sR:0<rs.length->S0[B+2]?=some (.row 48 6 0 ((rs.map λr=>[PD.str r.name,.str r.jQ,.int .i64 r.num,.int .i64 r.den,.int .i64 r.first,eS.aA r.nM]).flatten)):=λh=>by
  rw[<-nV,<-hnR,<-aCU,yBz ye,hB,yCQ];show(newRow 48 6 (rs.map Em.aG.aA)++(nD++nC))[0]?=_
  unfold newRow;rw[yAI zo];rfl
 have sD:0<ds.length->S0[iD]?=some (.row 53 5 0 ((ds.map λr=>[PD.str r.name,.bool r.eG,.int .i64 r.low,.int .i64 r.high,l8.aA r.stops]).flatten)):=λh=>by
  have h1:=N9 (e:=53) (k:=5) (xs:=ds.map Em.div.aA) (τ++aB.box (.agg [.str nm,hR,hD,hC])::Y::nR) Ak;rw[<-nV,<-aLH,<-hnD,<-hiD];have h2:=cL (τ:=nC) h1;simpa using h2
 have sC:0<cs.length->S0[iC]?=some (.row 58 5 0 ((cs.map Em.aJ.aA).flatMap PD.cells)):=λh=>by
  have h1:=N9 (e:=58) (k:=5) (xs:=cs.map Em.aJ.aA) (τ++aB.box (.agg [.str nm,hR,hD,hC])::Y::(nR++nD)) Ak;rw[<-nV,<-hnC,<-hiC];simpa using h1
 have sY:S0[B+1]?=some Y:=by
  rw[<-nV,yBz ye,hB,yCQ];rfl
 have sT:∀id,id<B->S0[id]?=τ[id]?:=λid h=>by rw[<-nV,yAg ye]
 have iDl:B+2<=iD:=by rw[<-hiD,yAa,hB];simp
 have iCl:B+2<=iC:=by rw[<-hiC,yAa,hB];simp
 obtain⟨L0,nF⟩:=gn (S0.length);have iD0:0<ds.length->iD<L0:=λh=>by rw[<-nF];exact(yA.1 (sD h)).1
 have sB:S0[B]?=some (.box (.agg [.str nm,hR,hD,hC])):=by rw[<-nV,<-hB];simp
 obtain⟨wB,zB⟩:=yA.1 sB;rw[hY,nV];simp[jE,underlying31]at lR';simp[jE,underlying32]at lD';refine aC (A4 lR' sB wB zB) ?_;refine Wp.cI (λm fr σ=>∃(i:Nat) (σ1:List aB),∃gg:Nat->PD,(i+m=rs.length/\(∀(id:Nat) (x:aB),S0[id]?=some x->σ1[id]?=some x))/\fr=[gg 0,.ptr B 0,.ptr (B+1) 0,gg 3,gg 4,gg 5,gg 6,gg 7,gg 8,gg 9,gg 10,gg 11,gg 12,gg 13,gg 14,gg 15,gg 16,gg 17,gg 18,gg 19,hR,.int .i64 rs.length,.int .i64 i,gg 23,gg 24,gg 25,gg 26,gg 27,gg 28,gg 29,gg 30,gg 31,gg 32,gg 33,gg 34,gg 35,gg 36,gg 37,gg 38,gg 39,gg 40,gg 41,gg 42,gg 43,gg 44,gg 45,gg 46,gg 47,gg 48,gg 49]/\σ=σ1) ?_ (rs.length) (by refine⟨0,S0,?_⟩;exact bG (⟨ye,λ_ _ h=>h⟩))
 rintro m fr σ ⟨i,σ1,gg,hI,rfl,rfl⟩
 obtain⟨hm,hk⟩:=hI;have v0:=hk _ _ sB;obtain⟨r0,y0⟩:=yA.1 v0
 by_cases hi:i<rs.length
 .have q1:(i:Int)<(rs.length:Int):=by omega
  have hRr:hR=.aU (B+2) 0 0 rs.length 6:=by rw[<-hhR];unfold Go.Kz.hd;rw[yAI ye]
  have v2:=hk _ _ (sR ye);obtain⟨gs,hgs⟩:=gn ((rs.map λr=>[PD.str r.name,.str r.jQ,.int .i64 r.num,.int .i64 r.den,.int .i64 r.first,eS.aA r.nM]));rw[hgs]at v2;have hgl:gs.length=rs.length:=by rw[<-hgs,yAe]
  have jK:∀g∈gs,g.length=6:=λg h=>by
   rw[<-hgs]at h;exact mo
  have hat:=vJ (sz:=6) gs i ye jK;have hlen:=qT (sz:=6) gs jK;have hgi:gs[i]' ye=[.str rs[i].name,.str rs[i].jQ,.int .i64 rs[i].num,.int .i64 rs[i].den,.int .i64 rs[i].first,eS.aA rs[i].nM]:=by subst hgs;rw[yBE]
  have hzo:=gT _ (yAm hi);obtain⟨z,hz⟩:=gn (rs[i]);rw[hgi,hz]at hat;rw[hz]at hzo;have hfl:=zI (sz:=6) (new:=[.str z.name,.str z.jQ,.int .i64 z.num,.int .i64 z.den,.int .i64 z.first,eS.aA z.nM]) (j:=0) yg gs i ye jK;rw[hgi,hz]at hfl;have hset:eC [PD.str z.name,.str z.jQ,.int .i64 z.num,.int .i64 z.den,.int .i64 z.first,eS.aA z.nM] 0 [PD.str z.name,.str z.jQ,.int .i64 z.num,.int .i64 z.den,.int .i64 z.first,eS.aA z.nM]=[PD.str z.name,.str z.jQ,.int .i64 z.num,.int .i64 z.den,.int .i64 z.first,eS.aA z.nM]:=rfl;have hsm:gs.set i [PD.str z.name,.str z.jQ,.int .i64 z.num,.int .i64 z.den,.int .i64 z.first,eS.aA z.nM]=gs:=by rw[<-hz,<-hgi];exact yEi _
  rw[hset,yBt,hsm]at hfl;obtain⟨fs,hfs⟩:=gn (gs.flatten);rw[hfs]at v2 hlen hat hfl;obtain⟨r2,y2⟩:=yA.1 v2;have nG:i*6+6<=fs.length:=ye;have xk:nP prog 31 (.aU (B+2) 0 0 rs.length 6) (.int .i64 i)=some (.dH (B+2) 0 (i*6)):=by
   simp[oN,hi]
  have hdec:Em.aG.dec (Em.aG.aA z)=some z:=Em.cO (Em.aG.str z);have hK:∀fl σ,BF E fl (.inl 76) [Em.aG.aA z] σ=some (Em.aG.aA z,σ):=λfl σ=>by
   have h:=JK (τ:=[]) (fl:=fl) (σ:=σ) h4 (args:=[Em.aG.aA z]) (p:=Em.aG.aA z) (λfl=>by
    unfold entry bZ;simp only[hdec];rw[gO hzo,yAl])
   rwa [yAl]at h
  have j9:σ[B]?=some (.box (.agg [.str nm,.aU (B+2) 0 0 rs.length 6,hD,hC])):=by rw[<-hRr];exact v0
  obtain⟨_,s6⟩:=yA.1 j9;have u0:(σ++[aB.box (Em.aG.aA z)])[B]?=some (.box (.agg [.str nm,.aU (B+2) 0 0 rs.length 6,hD,hC])):=cL j9;have u7:(σ++[aB.box (Em.aG.aA z)])[B+2]?=some (.row 48 6 0 fs):=cL v2;obtain⟨r7,y7⟩:=yA.1 u7;obtain⟨w0,z0⟩:=yA.1 u0;have j0:∀x:aB,(σ++[x])[σ.length]?=some x:=λx=>yg
  obtain⟨zn,zt,za,zb,zc,zw⟩:=z;simp only[oD,aV]at hat hK u0 w0 z0 u7 r7 y7 hfl;simp only[eC,yAS,yAT,yAp,Nat.reduceAdd,yBX,yAi,yAQ,yAO]at hfl;rw[hRr];refine aC xu ?_;refine Wp.U2 yu ?_;refine CF (A14 u0 w0 @z0 r0 s6 j0 hK xk hi u7 r7 y7 nG hfl) ?_;apply SQ.nil;refine aC q1 ?_;refine bC.normal (m-1) ye (by refine⟨i+1,(σ.set (B+2) (.row 48 6 0 fs)++[aB.box (.agg [.str zn,.str zt,.int .i64 za,.int .i64 zb,.int .i64 zc,.slice (sz 1 zw) (zw.map i64.aA) .any])]),?_⟩;exact dU (⟨ye,λid x h=>cL (if e:id=B+2 then(by subst e;rw[yAj r2,<-v2];exact hk _ _ h)else(by rw[yAd (yBb e)];exact hk _ _ h))⟩) @hfl)
 .have q1:¬(i:Int)<(rs.length:Int):=by omega
  refine aC (A5 q1 @v0 r0 y0 lD') ?_;obtain⟨ρ,hρ⟩:=gn (σ);rw[hρ]at hk ⊢;obtain⟨g0,pP⟩:=gn ((ds.map λr=>[PD.str r.name,.bool r.eG,.int .i64 r.low,.int .i64 r.high,l8.aA r.stops]));rw[pP]at sD;have JO:∀g (h:g<ds.length),g0[g]?=some [.str ds[g].name,.bool ds[g].eG,.int .i64 ds[g].low,.int .i64 ds[g].high,l8.aA ds[g].stops]:=λg h=>by
   subst pP;rw[yAo,yAh h];rfl
  have JP:g0.length=ds.length:=by rw[<-pP,yAe]
  have JQ:∀g∈g0,g.length=5:=λg h=>by
   rw[<-pP]at h;exact mo
  have lρ:L0<=ρ.length:=by
   by_cases e:L0=0
   .omega
   .have h1:=hk (L0-1) _ (yAh (show L0-1<S0.length by omega));have:=(yA.1 h1).1;omega
  have bL:B+2<=L0:=by
   have:=(yA.1 sY).1;omega
  obtain⟨Z,hZ⟩:=gn (aB.box (.agg [.str nm,hR,hD,hC]));rw[hZ]at sB;refine Wp.cI (λm fr σ=>∃(i:Nat) (gs:List (List PD)) (tS:Nat->Nat) (tss:Nat->List (List PD)) (tG:Nat->Nat->Nat) (tgs:Nat->Nat->List (List PD)) (tW:Nat->Nat->Nat->Nat) (σ1:List aB),∃gg:Nat->PD,(i+m=ds.length/\gs.length=ds.length/\(∀g∈gs,g.length=5)/\(∀(id:Nat) (x:aB),(0<ds.length->id≠iD)->S0[id]?=some x->σ1[id]?=some x)/\(0<ds.length->σ1[iD]?=some (.row 53 5 0 gs.flatten))/\L0<=σ1.length/\(∀g (h:g<ds.length),i<=g->gs[g]?=some [.str ds[g].name,.bool ds[g].eG,.int .i64 ds[g].low,.int .i64 ds[g].high,l8.aA ds[g].stops])/\(∀s (h:s<ds.length),s<i->gs[s]?=some [.str ds[s].name,.bool ds[s].eG,.int .i64 ds[s].low,.int .i64 ds[s].high,Go.Kz.hd 4 (tS s) ds[s].stops.length]/\pO σ1 L0 ds[s] (.agg [.str ds[s].name,.bool ds[s].eG,.int .i64 ds[s].low,.int .i64 ds[s].high,Go.Kz.hd 4 (tS s) ds[s].stops.length]) (tS s) (tss s) (tG s) (tgs s) (tW s))/\(∀d d' (h:d<ds.length) (h':d'<ds.length),d<i->d'<i->0<ds[d].stops.length->0<ds[d'].stops.length->tS d=tS d'->d=d')/\(∀d d' s s' g g' (h:d<ds.length) (h':d'<ds.length) (k:s<ds[d].stops.length) (k':s'<ds[d'].stops.length) (l:g<ds[d].stops[s].aO.length) (l':g'<ds[d'].stops[s'].aO.length),d<i->d'<i->0<ds[d].stops[s].aO[g].aT.length->0<ds[d'].stops[s'].aO[g'].aT.length->tW d s g=tW d' s' g'->d=d'/\s=s'/\g=g'))/\fr=[gg 0,.ptr B 0,.ptr (B+1) 0,gg 3,gg 4,gg 5,gg 6,gg 7,gg 8,gg 9,gg 10,gg 11,gg 12,gg 13,gg 14,gg 15,gg 16,gg 17,gg 18,gg 19,gg 20,gg 21,gg 22,gg 23,gg 24,gg 25,gg 26,gg 27,gg 28,gg 29,gg 30,gg 31,gg 32,gg 33,gg 34,hD,.int .i64 ds.length,.int .i64 i,gg 38,gg 39,gg 40,gg 41,gg 42,gg 43,gg 44,gg 45,gg 46,gg 47,gg 48,gg 49]/\σ=σ1) ?_ (ds.length) (by refine⟨0,g0,(λ_=>0),(λ_=>[]),(λ_ _=>0),(λ_ _=>[]),(λ_ _ _=>0),ρ,?_⟩;exact bG (⟨ye,JP,JQ,λid x _ h=>hk id x h,λh=>hk _ _ (sD h),lρ,λg h _=>JO g h,λs _ h=>absurd h (yBv s),λd d' h h' h1=>absurd h1 (yBv d),λd d' s s' g g' h h' k k' l l' h1=>absurd h1 (yBv d)⟩))
  rintro m fr σ ⟨i,gs,tS,tss,tG,tgs,tW,σ1,gg,hI,rfl,rfl⟩
  obtain⟨hm,hgl,jK,hkeep,hrow,hlo,hrest,hdone,hiS,hiW⟩:=hI;have v0:=hkeep B _ (λ_=>ye) sB;have v1:=hkeep (B+1) _ (λ_=>ye) sY;obtain⟨r0,y0⟩:=yA.1 v0;obtain⟨r1,y1⟩:=yA.1 v1
  by_cases hi:i<ds.length
  .have q1:(i:Int)<(ds.length:Int):=by omega
   have hDr:hD=.aU iD 0 0 ds.length 5:=by rw[<-hhD];unfold Go.Kz.hd;rw[yAI ye]
   have iDL:=iD0 ye;have v2:=hrow ye;have hzo:=mW _ (yAm hi);have hgi:=hrest i hi (yAk _);have hat:=vJ (sz:=5) gs i ye jK;have hlen:=qT (sz:=5) gs jK;have BH:gs[i]' ye=[.str ds[i].name,.bool ds[i].eG,.int .i64 ds[i].low,.int .i64 ds[i].high,l8.aA ds[i].stops]:=(yA.1 hgi).2;obtain⟨z,hz⟩:=gn (ds[i]);rw[BH,hz]at hat;rw[hz]at hzo;have hW:=hcs z hzo (σ++[aB.box (Em.div.aA z)]);have hll:(σ++[aB.box (Em.div.aA z)]).length=σ.length+1:=yg;obtain⟨pz,lI,hev,⟨iS,zss,zG,zgs,zW,hst⟩,zJ,o0⟩:=hW.e0 yg;rw[hll]at hst zJ o0;have hpz:=hst.p;subst hpz;have hfl:=zI (sz:=5) (new:=[.str z.name,.bool z.eG,.int .i64 z.low,.int .i64 z.high,Go.Kz.hd 4 iS z.stops.length]) (j:=0) yg gs i ye jK;rw[BH,hz]at hfl;have hset:eC [PD.str z.name,.bool z.eG,.int .i64 z.low,.int .i64 z.high,l8.aA z.stops] 0 [.str z.name,.bool z.eG,.int .i64 z.low,.int .i64 z.high,Go.Kz.hd 4 iS z.stops.length]=[.str z.name,.bool z.eG,.int .i64 z.low,.int .i64 z.high,Go.Kz.hd 4 iS z.stops.length]:=rfl;rw[hset,yBt]at hfl;obtain⟨nH,nI⟩:=gn (gs.set i [PD.str z.name,.bool z.eG,.int .i64 z.low,.int .i64 z.high,Go.Kz.hd 4 iS z.stops.length]);rw[nI]at hfl;obtain⟨fs,hfs⟩:=gn (gs.flatten);rw[hfs]at v2 hlen hat hfl;obtain⟨r2,y2⟩:=yA.1 v2;obtain⟨fs2,aCV⟩:=gn (nH.flatten);rw[aCV]at hfl;have nG:i*5+5<=fs.length:=ye;have xk:nP prog 32 (.aU iD 0 0 ds.length 5) (.int .i64 i)=some (.dH iD 0 (i*5)):=by
    simp[oN,hi]
   obtain⟨h9,iF⟩:=gn (Go.Kz.hd 4 iS z.stops.length);have p9:h9.plain=true:=Ee;have c9:h9.cells=[h9]:=Ef;rw[iF]at hev hfl;simp only[eC,yAS,yAT,yAp,Nat.reduceAdd,yBX,yAi,yAQ,yAO]at hfl;unfold PD.plain at p9;have j9:σ[B]?=some (.box (.agg [.str nm,hR,.aU iD 0 0 ds.length 5,hC])):=by rw[<-hDr,hZ];exact v0
   have u0:(σ++[aB.box (Em.div.aA z)])[B]?=some (.box (.agg [.str nm,hR,.aU iD 0 0 ds.length 5,hC])):=cL j9;have u7:lI[iD]?=some (.row 53 5 0 fs):=by rw[o0 _ ye];exact cL v2
   obtain⟨r7,y7⟩:=yA.1 u7;obtain⟨w0,z0⟩:=yA.1 u0;obtain⟨_,s6⟩:=yA.1 j9;have j0:∀x:aB,(σ++[x])[σ.length]?=some x:=λx=>yg
   have hK:=U3 (B:=[B]) h5 hev (by rw[hll];exact zJ) (λid h h3=>o0 id (by rw[hll]at h3;exact h3));obtain⟨zn,zp,za,zb,zs⟩:=z;simp only[nN,aV]at hat hK u0 w0 z0 hll;rw[hDr];refine aC xu ?_;refine Wp.aCW h5 U4 yg [(1,B),(6,σ.length)] [B] [some B] yu ⟨⟨_,rfl⟩,⟨_,rfl⟩,trivial⟩ yf (by simp[zK]) ?_;refine kH xL ?_;apply SQ.nil;refine aC q1 ?_;have vK:∀id,id<σ.length->lI[id]?=σ[id]?:=λid h=>by rw[o0 id ye,yAg h]
   obtain⟨bO,cY⟩:=gn (lI.set iD (.row 53 5 0 fs2));have fQ:∀id,id≠iD->bO[id]?=lI[id]?:=λid h=>zy
   have JR:bO[iD]?=some (.row 53 5 0 nH.flatten):=by rw[<-cY,aCV];exact yAj r7
   have JS:nH.length=ds.length:=by rw[<-nI,yAD,hgl]
   have JT:∀g∈nH,g.length=5:=λg h=>by
    exact jb
   have hlt:∀(id:Nat) (o:aB),σ[id]?=some o->id<σ.length:=λid o h=>(yA.1 h).1
   have OA:L0<=bO.length:=Bt;have hke:∀(id:Nat) (x:aB),(0<ds.length->id≠iD)->S0[id]?=some x->bO[id]?=some x:=λid x h1 h2=>by
    have h3:=hkeep id x h1 h2;rw[fQ id (h1 ye),vK id (hlt _ _ h3)];exact h3
   have hdn:∀s (h:s<ds.length),s<i+1->nH[s]?=some [.str ds[s].name,.bool ds[s].eG,.int .i64 ds[s].low,.int .i64 ds[s].high,Go.Kz.hd 4 (if s=i then iS else tS s) ds[s].stops.length]/\pO bO L0 ds[s] (.agg [.str ds[s].name,.bool ds[s].eG,.int .i64 ds[s].low,.int .i64 ds[s].high,Go.Kz.hd 4 (if s=i then iS else tS s) ds[s].stops.length]) (if s=i then iS else tS s) (if s=i then zss else tss s) (if s=i then zG else tG s) (if s=i then zgs else tgs s) (if s=i then zW else tW s):=λs h h2=>by
    exact cr
   have aLI:∀d d' (h:d<ds.length) (h':d'<ds.length),d<i+1->d'<i+1->0<ds[d].stops.length->0<ds[d'].stops.length->(if d=i then iS else tS d)=(if d'=i then iS else tS d')->d=d':=λd d' h h' b1 b2 p1 p2 e=>by
    by_cases e1:d=i
    .by_cases e2:d'=i
     .rw[e1,e2]
     .rw[yAJ e1,yAI e2]at e;have h1:=hlt _ _ ((hdone d' h' ye).2.row p2).2;subst e1;simp only[hz]at p1;have h2:=(hst.row p1).1;omega
    .by_cases e2:d'=i
     .rw[yAI e1,yAJ e2]at e;have h1:=hlt _ _ ((hdone d h ye).2.row p1).2;subst e2;simp only[hz]at p2;have h2:=(hst.row p2).1;omega
     .exact so
   have aLJ:∀d d' s s' g g' (h:d<ds.length) (h':d'<ds.length) (k:s<ds[d].stops.length) (k':s'<ds[d'].stops.length) (l:g<ds[d].stops[s].aO.length) (l':g'<ds[d'].stops[s'].aO.length),d<i+1->d'<i+1->0<ds[d].stops[s].aO[g].aT.length->0<ds[d'].stops[s'].aO[g'].aT.length->(if d=i then zW else tW d) s g=(if d'=i then zW else tW d') s' g'->d=d'/\s=s'/\g=g':=λd d' s s' g g' h h' k k' l l' b1 b2 p1 p2 e=>by
    by_cases e1:d=i
    .by_cases e2:d'=i
     .exact jd
     .rw[yAJ e1,yAI e2]at e;have h1:=hlt _ _ (((((hdone d' h' ye).2.at_ s' k').2.at_ g' l').2) p2).2;subst e1;simp only[hz]at k l p1;have h2:=((((hst.at_ s k).2.at_ g l).2) p1).1;omega
    .by_cases e2:d'=i
     .rw[yAI e1,yAJ e2]at e;have h1:=hlt _ _ (((((hdone d h ye).2.at_ s k).2.at_ g l).2) p1).2;subst e2;simp only[hz]at k' l' p2;have h2:=((((hst.at_ s' k').2.at_ g' l').2) p2).1;omega
     .exact nw
   refine bC.normal (m-1) ye (by refine⟨i+1,nH,(λs=>if s=i then iS else tS s),(λs=>if s=i then zss else tss s),(λs=>if s=i then zG else tG s),(λs=>if s=i then zgs else tgs s),(λs=>if s=i then zW else tW s),bO,?_⟩;exact dU (⟨ye,JS,JT,hke,λ_=>JR,OA,λg h h2=>by rw[<-nI,yAd ye];exact hrest g h ye,hdn,aLI,aLJ⟩) @cY)
  .have q1:¬(i:Int)<(ds.length:Int):=by omega
   have j9:=v0;have v1':=v1;rw[<-hZ]at j9;rw[<-hY]at v1';obtain⟨_,s6⟩:=yA.1 j9;obtain⟨_,JU⟩:=yA.1 v1';refine aC (A10 q1 j9 r0 s6 v1' r1 JU pR pD pC) ?_;obtain⟨bO,cY⟩:=gn (σ.set (B+1) (.box (.agg [.str nm,hR,hD,hC])));rw[cY];have fQ:∀id,id≠B+1->bO[id]?=σ[id]?:=λid h=>zy
   have z1:bO[B+1]?=some (.box (.agg [.str nm,hR,hD,hC])):=Ei;refine⟨.agg [.str nm,hR,hD,hC],bO,by simp[eF,z1],⟨B+2,iD,iC,gs,tS,tss,tG,tgs,tW,?_⟩,Bt,λid h=>by rw[fQ id ye,<-sT id h];exact(by
    have h1:id<S0.length:=ye;rw[hkeep id _ (λ_=>ye) (yAh h1),yAh h1])⟩
   refine⟨by rw[hhR,hhD,hhC],λh=>⟨ye,?_⟩,λh=>⟨ye,?_⟩,hgl,λh=>⟨ye,?_⟩,λs (h:s<ds.length)=>?_,λd d' (h:d<ds.length) (h':d'<ds.length)=>hiS d d' h h' ye ye,λd d' s s' g g' (h:d<ds.length) (h':d'<ds.length) k k' l l'=>hiW d d' s s' g g' h h' k k' l l' ye ye⟩
   .show bO[B+2]?=some (.row 48 6 0 ((rs.map Em.aG.aA).flatMap PD.cells))
    have h1:=sR h;rw[fQ _ ye,aCU];exact lu
   .show bO[iC]?=some (.row 58 5 0 ((cs.map Em.aJ.aA).flatMap PD.cells))
    have h1:=sC h;rw[fQ _ ye];exact lu
   .show bO[iD]?=some (.row 53 5 0 gs.flatten)
    rw[fQ _ ye];exact hrow h
   .exact jy
end
section
def yZ(n way index:Int):Int×Bool:=
 if way=0/\index<=n then(n+1,true)
 else if way=1/\n=index then(n,false)
 else if way=1/\index<n then(n-1,true)
 else(n,true)
def SR(way index:Int)(w:cT):cT:=⟨(yZ w.aG way index).1,w.shift⟩
def okW(way index:Int)(w:cT):Bool:=(yZ w.aG way index).2
structure N8 (bP σ1:List aB) (lo:Nat) (o:aM) (tW:Nat->Nat->Nat->Nat) (way index:Int) (P:Nat->Nat->Nat->Prop):Prop where
 len:bP.length<=σ1.length
 low:∀id,id<lo->σ1[id]?=bP[id]?
 bF:∀(id:Nat) (x:aB),(∀cs,x≠.row 89 2 0 cs)->bP[id]?=some x->σ1[id]?=some x
 done:∀d s g (h:d<o.aD.length) (k:s<o.aD[d].stops.length) (l:g<o.aD[d].stops[s].aO.length),P d s g->(∀w∈o.aD[d].stops[s].aO[g].aT,okW way index w=true)/\(0<o.aD[d].stops[s].aO[g].aT.length->σ1[tW d s g]?=some (.row 89 2 0 (jJ (o.aD[d].stops[s].aO[g].aT.map (SR way index)))))
 rest:∀d s g (h:d<o.aD.length) (k:s<o.aD[d].stops.length) (l:g<o.aD[d].stops[s].aO.length),¬P d s g->0<o.aD[d].stops[s].aO[g].aT.length->σ1[tW d s g]?=some (.row 89 2 0 (jJ o.aD[d].stops[s].aO[g].aT))
variable{E E0:aE}(hU:aH E)
include hU
end
def SO(way index:Int)(g:gL):gL:={ g with aT:=g.aT.map (SR way index) }
def SN(way index:Int)(s:bU):bU:={ s with aO:=s.aO.map (SO way index) }
def FU(way index:Int)(d:bD):bD:={ d with stops:=d.stops.map (SN way index) }
def I1(way index:Int)(o:aM):aM:={ o with aD:=o.aD.map (FU way index) }
def NA(way index:Int)(o:aM):Prop:=∀d∈o.aD,∀s∈d.stops,∀g∈s.aO,∀w∈g.aT,okW way index w=true
section
theorem aCL{k id n:Nat}(h:0<n):hd k id n=.aU id 0 0 n k:=by unfold hd;rw[yAI ye]
theorem aLB(l:List cT):(jJ l).length=l.length*2:=by
 unfold jJ;rw[qT (sz:=2) _ (λg h=>Be),yAe]
theorem aLC(l:List cT)(i:Nat)(h:i<l.length):((jJ l).drop (i*2)).take 1=[.int .i64 l[i].aG]:=by
 have h1:=vJ (sz:=2) (l.map λw=>[PD.int .i64 w.aG,.int .i64 w.shift]) i Ak (λg h=>Be);rw[yBE]at h1;unfold jJ;have h2:=yAL (List.take 1) h1;rw[yCi]at h2;exact h2
theorem aLD(l:List cT)(i:Nat)(h:i<l.length)(r:Int):eC (jJ l) (i*2) [.int .i64 r]=jJ (l.set i ⟨r,l[i].shift⟩):=by
 have h1:=zI (sz:=2) (new:=[.int .i64 r]) (j:=0) yg (l.map λw=>[PD.int .i64 w.aG,.int .i64 w.shift]) i Ak (λg h=>Be);rw[yBE,yBt]at h1;unfold jJ;rw[h1,yCL];rfl
variable{E E0:aE}(hU:aH E)
include hU
end
section
def aBn(way index:Int)(c:bR):bR:={ c with dS:=(yZ c.dS way index).1,dst:=(yZ c.dst way index).1 }
def NB(way index:Int)(c:bR):Bool:=(yZ c.dS way index).2&&(yZ c.dst way index).2
def NC(way index:Int)(o:aM):aM:={ o with aR:=o.aR.map (aBn way index) }
def iU(l:List bR):List PD:=(l.map λc=>[PD.str c.name,.int .i64 c.dS,.int .i64 c.dst,.int .i64 c.shift,.bool c.qD]).flatten
theorem aCR(R:List bR):(R.map Em.aJ.aA).flatMap PD.cells=iU R:=by
 unfold iU
 induction R with
 |nil=>rfl
 |cons r R ih=>simp only[yAR,yBs,yBr,ih];rfl
theorem N7(l:List bR):∀g∈(l.map λc=>[PD.str c.name,.int .i64 c.dS,.int .i64 c.dst,.int .i64 c.shift,.bool c.qD]),g.length=5:=λg h=>Be
theorem U0(l:List bR):(iU l).length=l.length*5:=by
 unfold iU;rw[qT (sz:=5) _ (N7 l),yAe]
theorem aLz(l:List bR)(i:Nat)(h:i<l.length):((iU l).drop (i*5)).take 5=[.str l[i].name,.int .i64 l[i].dS,.int .i64 l[i].dst,.int .i64 l[i].shift,.bool l[i].qD]:=by
 have h1:=vJ (sz:=5) (l.map λc=>[PD.str c.name,.int .i64 c.dS,.int .i64 c.dst,.int .i64 c.shift,.bool c.qD]) i Ak (N7 l);rw[yBE]at h1;exact h1
theorem aLA(l:List bR)(i:Nat)(h:i<l.length)(r:Int):eC (iU l) (i*5+1) [.int .i64 r]=iU (l.set i { l[i]with dS:=r }):=by
 have h1:=zI (sz:=5) (new:=[.int .i64 r]) (j:=1) yg (l.map λc=>[PD.str c.name,.int .i64 c.dS,.int .i64 c.dst,.int .i64 c.shift,.bool c.qD]) i Ak (N7 l);rw[yBE]at h1;unfold iU;rw[h1,yCL];rfl
theorem aCS(l:List bR)(i:Nat)(h:i<l.length)(r:Int):eC (iU l) (i*5+2) [.int .i64 r]=iU (l.set i { l[i]with dst:=r }):=by
 have h1:=zI (sz:=5) (new:=[.int .i64 r]) (j:=2) yg (l.map λc=>[PD.str c.name,.int .i64 c.dS,.int .i64 c.dst,.int .i64 c.shift,.bool c.qD]) i Ak (N7 l);rw[yBE]at h1;unfold iU;rw[h1,yCL];rfl
variable{E E0:aE}(hU:aH E)
include hU
end
end Go.Kz
