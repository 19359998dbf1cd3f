/- Steps of the proof. -/
import Derived.Test.YteegpeenjdgodaaGreatDoorG9
import Derived.Test.YteegpeenjdgodaaGreatDoorG3
set_option linter.all false
set_option maxHeartbeats 40000000
set_option maxRecDepth 100000
open Go.Proofs.Tryz
namespace Go.Kz
open Go Go.Proofs
section
def lT(l:List dT):List PD:=(l.map λw=>[PD.int .i64 w.aG,.int .i64 w.shift]).flatten
theorem aEt(R:List dT):(R.map Em.draw.aA).flatMap PD.cells=lT R:=by
 unfold lT
 induction R with
 |nil=>rfl
 |cons r R ih=>simp only[yAS,yBr,yBq,ih];rfl
theorem aOf(R:List iU):(R.map Em.eZ.aA).flatMap PD.cells=(R.map λr=>[PD.int .i64 r.lo,.int .i64 r.hi,fN.aA r.aX]).flatten:=by
 induction R with
 |nil=>rfl
 |cons r R ih=>simp only[yAS,yBr,yBq,ih];rfl
def CJ(σ:List aB)(lo:Nat)(ds:List dT)(id:Nat):Prop:=0<ds.length->lo<=id/\σ[id]?=some (.row 89 2 0 (lT ds))
structure qG (σ:List aB) (lo:Nat) (s:bW) (p:PD) (iG:Nat) (gs:List (List PD)) (iW:Nat->Nat):Prop where
 p:p=.agg [.str s.name,.int .i64 s.num,.int .i64 s.den,hd 3 iG s.aU.length]
 len:gs.length=s.aU.length
 row:0<s.aU.length->lo<=iG/\σ[iG]?=some (.row 92 3 0 gs.flatten)
 at_:∀g (h:g<s.aU.length),gs[g]?=some [.int .i64 s.aU[g].lo,.int .i64 s.aU[g].hi,hd 2 (iW g) s.aU[g].aX.length]/\CJ σ lo s.aU[g].aX (iW g)
 inj:∀g g' (h:g<s.aU.length) (h':g'<s.aU.length),0<s.aU[g].aX.length->0<s.aU[g'].aX.length->iW g=iW g'->g=g'
theorem eQ(k id n:Nat):(hd k id n).plain=true:=by unfold hd;split<;>rfl
theorem jU(k id n:Nat):(hd k id n).cells=[hd k id n]:=by unfold hd;split<;>rfl
theorem XM{e:TypeId}{k:Nat}{xs:Gc}(σ:List aB)(h:0<xs.length):(σ++newRow e k xs)[σ.length]?=some (.row e k 0 (xs.flatMap PD.cells)):=by
 unfold newRow;rw[yAI Ah];exact yAB
variable{E:aE}(hU:aH E)
include hU
theorem WW(h0:E 86=none)(h1:E 118=some (iH 92 3))(h2:E 119=some (iH 89 2))(s:bW)(hs:iV s)(τ:List aB) :
  aL prog E 0 (.inl 86) [Em.stop.aA s] τ (λp σ'=>(∃iG gs iW,qG σ' τ.length s p iG gs iW)/\τ.length<=σ'.length/\∀id,id<τ.length->σ'[id]?=τ[id]?):=by
 clear hU;obtain⟨nm,a,b,l⟩:=s;obtain⟨hl,hld⟩:=hs;simp only at hl hld;have hC:=HR (em:=Em.eZ) (e:=92) (k:=3) l hl;simp only[pV,aW]at hC ⊢
 by_cases hl0:l=[]
 .subst hl0;have e0:newRow 92 3 (([]:List iU).map Em.eZ.aA)=[]:=rfl;have e1:∀id,hd 3 id ([]:List iU).length=.slice 0 [] .full:=λ_=>rfl
  simp only[e0,e1,yAl]at hC;refine aL.aN 27 h0 func86 (h:=?_);refine aC (A2 h1 hC) ?_;refine Wp.loop ?_;refine aC trivial ?_;obtain⟨X,hX⟩:=gn (aB.box (.agg [.str nm,.int .i64 a,.int .i64 b,.slice 0 [] .full]));refine⟨.agg [.str nm,.int .i64 a,.int .i64 b,.slice 0 [] .full],τ++[X,X],?_,⟨0,[],λ_=>0,⟨rfl,rfl,λh=>absurd h (yCR 0),λg h=>absurd h (yBb g),λg g' h=>absurd h (yBb g)⟩⟩,Ai,λid h=>yAg h⟩;rw[<-hX];simp[cI]
 have hp:0<l.length:=yDe.2 hl0;have e1:∀id,hd 3 id l.length=.aR id 0 0 l.length 3:=λid=>by unfold hd;rw[yAI Ah]
 have e2:newRow 92 3 (l.map Em.eZ.aA)=[.row 92 3 0 ((l.map λr=>[PD.int .i64 r.lo,.int .i64 r.hi,fN.aA r.aX]).flatten)]:=by
  unfold newRow;rw[yAI Bg,aOf]
 simp only[e1,e2]at hC;obtain⟨g0,qM⟩:=gn ((l.map λr=>[PD.int .i64 r.lo,.int .i64 r.hi,fN.aA r.aX]));rw[qM]at hC;obtain⟨c0,hc0⟩:=gn (g0.flatten);rw[hc0]at hC;rw[s7 hl0]at hC ⊢;obtain⟨xs,hxs⟩:=gn (l.map Em.eZ.aA);rw[hxs]at hC ⊢;refine aL.aN 27 h0 func86 (h:=?_);refine aC (A2 h1 hC) ?_;obtain⟨B,hB⟩:=gn (τ.length);rw[hB];have KS:∀g (h:g<l.length),g0[g]?=some [.int .i64 l[g].lo,.int .i64 l[g].hi,fN.aA l[g].aX]:=λg h=>by
  subst qM;rw[yAo,yAh h];rfl
 have KT:g0.length=l.length:=by rw[<-qM,yAe]
 have KU:∀g∈g0,g.length=3:=λg h=>by
  rw[<-qM]at h;exact oh
 obtain⟨X,hX⟩:=gn (aB.box (.agg [.str nm,.int .i64 a,.int .i64 b,.aR (B+2) 0 0 l.length 3]));obtain⟨Y,hY⟩:=gn (aB.box (.agg [.str [],.int .i64 0,.int .i64 0,.slice 0 [] .full]));refine Wp.cZ (λm fr σ=>∃(i:Nat) (gs:List (List PD)) (iW:Nat->Nat) (σ1:List aB),∃gg:Nat->PD,(i+m=l.length/\gs.length=l.length/\(∀g∈gs,g.length=3)/\σ1[B]?=some X/\σ1[B+1]?=some Y/\σ1[B+2]?=some (.row 92 3 0 gs.flatten)/\(∀id,id<B->σ1[id]?=τ[id]?)/\(∀g (h:g<l.length),i<=g->gs[g]?=some [.int .i64 l[g].lo,.int .i64 l[g].hi,fN.aA l[g].aX])/\(∀g (h:g<l.length),g<i->gs[g]?=some [.int .i64 l[g].lo,.int .i64 l[g].hi,hd 2 (iW g) l[g].aX.length]/\(0<l[g].aX.length->B+2<iW g/\iW g<σ1.length/\σ1[iW g]?=some (.row 89 2 0 (lT l[g].aX))))/\(∀g g' (h:g<l.length) (h':g'<l.length),g<i->g'<i->0<l[g].aX.length->0<l[g'].aX.length->iW g=iW g'->g=g'))/\fr=[gg 0,.ptr B 0,.ptr (B+1) 0,gg 3,gg 4,gg 5,gg 6,gg 7,gg 8,gg 9,.aR (B+2) 0 0 l.length 3,.int .i64 l.length,.int .i64 i,gg 13,gg 14,gg 15,gg 16,gg 17,gg 18,gg 19,gg 20,gg 21,gg 22,gg 23,gg 24,gg 25,gg 26]/\σ=σ1) ?_ (l.length) (by refine⟨0,g0,(λ_=>0),(τ++[X,Y,.row 92 3 0 c0]),?_⟩;exact eS (⟨Ah,KT,KU,Cp,Cp,by rw[<-hB,hc0];simp,λid h=>by rw[yAg Ah],λg h _=>KS g h,λg h h2=>absurd h2 (yBb g),λg g' h h' h2=>absurd h2 (yBb g)⟩) (A3 hX hY hB))
 rintro m fr σ ⟨i,gs,iW,σ1,gg,hI,rfl,rfl⟩
 obtain⟨hm,hgl,jC,v0,v1,v2,hkeep,hrest,hdone,hinj⟩:=hI;have hlen:=nH (sz:=3) gs jC;obtain⟨r0,y0⟩:=yA.1 v0;obtain⟨r1,y1⟩:=yA.1 v1;obtain⟨r2,y2⟩:=yA.1 v2
 by_cases hi:i<l.length
 .have q1:(i:Int)<(l.length:Int):=by omega
  obtain⟨z,hz⟩:=gn (l[i]);have hzd:z.aX.length<=1000000:=hld z (hz▸yAm hi);have hgi:=hrest i hi (yAk _);have hat:=tP (sz:=3) gs i Ah jC;have CP:gs[i]' Ah=[.int .i64 l[i].lo,.int .i64 l[i].hi,fN.aA l[i].aX]:=(yA.1 hgi).2;rw[CP,hz]at hat;have hfl:=wH (sz:=3) (new:=[hd 2 (σ.length+1) z.aX.length]) (j:=2) Ai gs i Ah jC;rw[CP,hz]at hfl;obtain⟨zl,zh,zd⟩:=z;simp only[aW]at hat hfl hzd;have hset:dG [PD.int .i64 zl,.int .i64 zh,.slice (sz 2 zd) (zd.map Em.draw.aA) .any] 2 [hd 2 (σ.length+1) zd.length]=[.int .i64 zl,.int .i64 zh,hd 2 (σ.length+1) zd.length]:=rfl;rw[hset]at hfl;obtain⟨n7,n8⟩:=gn (gs.set i [PD.int .i64 zl,.int .i64 zh,hd 2 (σ.length+1) zd.length]);rw[n8]at hfl;obtain⟨cs,hcs⟩:=gn (gs.flatten);rw[hcs]at v2 hlen hat hfl y2;obtain⟨JY,KZ⟩:=gn (n7.flatten);rw[KZ]at hfl;have gK:i*3+3<=cs.length:=Ah;have gl2:i*3+2+1<=cs.length:=Ah;have gl3:i*3+2<cs.length:=Ah;have xk:jZ prog 54 (.aR (B+2) 0 0 l.length 3) (.int .i64 i)=some (.dH (B+2) 0 (i*3)):=by
   simp[lH,hi]
  have hD:=HR (em:=Em.draw) (e:=89) (k:=2) zd hzd;simp only[aW]at hD;obtain⟨h9,kV⟩:=gn (hd 2 (σ.length+1) zd.length);have E8:=λfl=>hD fl (σ++[aB.box (.agg [.int .i64 zl,.int .i64 zh,.slice (sz 2 zd) (zd.map Em.draw.aA) .any])])
  have hll:(σ++[aB.box (.agg [.int .i64 zl,.int .i64 zh,.slice (sz 2 zd) (zd.map Em.draw.aA) .any])]).length=σ.length+1:=Ai;simp only[hll,kV]at E8;have hN1:=KO (fl:=0) h2 E8;rw[kV]at hfl;have p9:h9.plain=true:=Fp;have c9:h9.cells=[h9]:=Fq;unfold PD.plain at p9;unfold PD.cells at c9;simp only[dG,yAT,yAQ,yAp,Nat.reduceAdd,yBW,yAi,yAR,yAO]at hfl;obtain⟨qN,E9⟩:=gn (σ++[aB.box (.agg [.int .i64 zl,.int .i64 zh,.slice (sz 2 zd) (zd.map Em.draw.aA) .any])]++newRow 89 2 (zd.map Em.draw.aA));rw[E9]at hN1;have kU:=v0;rw[<-hX]at kU;have u0:(σ++[aB.box (.agg [.int .i64 zl,.int .i64 zh,.slice (sz 2 zd) (zd.map Em.draw.aA) .any])])[B]?=some (.box (.agg [.str nm,.int .i64 a,.int .i64 b,.aR (B+2) 0 0 l.length 3])):=cE kU;have u7:qN[B+2]?=some (.row 92 3 0 cs):=by rw[<-E9];exact cE (cE v2)
  obtain⟨r7,y7⟩:=yA.1 u7;obtain⟨w0,z0⟩:=yA.1 u0;obtain⟨_,tT⟩:=yA.1 kU;have j0:∀x:aB,(σ++[x])[σ.length]?=some x:=λx=>Ai
  refine aC zq ?_;refine Wp.XL Ao ?_;refine oU (A17 u0 w0 @z0 r0 tT j0 hN1 xk hi p9 c9 u7 r7 y7 gl2 gl3 hfl) ?_;apply SQ.nil;refine aC q1 ?_;have HS:σ.length+1<=qN.length:=by rw[<-E9,yAa,yAa];simp
  have tU:∀(id:Nat) (o:aB),σ[id]?=some o->qN[id]?=some o:=λid o h=>by rw[<-E9];exact cE (cE h)
  obtain⟨cY,eI⟩:=gn (qN.set (B+2) (.row 92 3 0 JY));have jI:∀id,id≠B+2->cY[id]?=qN[id]?:=λid h=>Bt
  have PU:cY.length=qN.length:=by rw[<-eI,yAD]
  have KV:cY[B+2]?=some (.row 92 3 0 n7.flatten):=by rw[<-eI,KZ];exact yAj r7
  have KW:n7.length=l.length:=by rw[<-n8,yAD,hgl]
  have KX:∀g∈n7,g.length=3:=λg h=>by
   exact jz
  have hdn:∀g (h:g<l.length),g<i+1->n7[g]?=some [.int .i64 l[g].lo,.int .i64 l[g].hi,hd 2 (if g=i then σ.length+1 else iW g) l[g].aX.length]/\(0<l[g].aX.length->B+2<(if g=i then σ.length+1 else iW g)/\(if g=i then σ.length+1 else iW g)<cY.length/\cY[if g=i then σ.length+1 else iW g]?=some (.row 89 2 0 (lT l[g].aX))):=λg h h2=>by
   by_cases e:g=i
   .subst e;simp only[yAL,hz];refine⟨?_,λkQ=>⟨Ah,?_,?_⟩⟩
    .rw[<-n8,yAj Ah,kV]
    .rw[PU,<-E9,yAa,hll];unfold newRow;rw[yAI Bg];simp
    .rw[jI _ Ah,<-E9,<-hll,XM _ (by rw[yAe];exact kQ),aEt]
   .rw[yAI e];obtain⟨d1,d2⟩:=hdone g h Ah;refine⟨?_,λkQ=>?_⟩
    .rw[<-n8,yAd (yAW e)];exact d1
    .obtain⟨k1,k2,k3⟩:=d2 kQ;exact⟨k1,by rw[PU];omega,by rw[jI _ Ah];exact tU _ _ k3⟩
  have hin:∀g g' (h:g<l.length) (h':g'<l.length),g<i+1->g'<i+1->0<l[g].aX.length->0<l[g'].aX.length->(if g=i then σ.length+1 else iW g)=(if g'=i then σ.length+1 else iW g')->g=g':=λg g' h h' b1 b2 p1 p2 e=>by
   by_cases e1:g=i
   .by_cases e2:g'=i
    .rw[e1,e2]
    .rw[yAJ e1,yAI e2]at e;have:=((hdone g' h' Ah).2 p2).2.1;omega
   .by_cases e2:g'=i
    .rw[yAI e1,yAJ e2]at e;have:=((hdone g h Ah).2 p1).2.1;omega
    .rw[yAI e1,yAI e2]at e;exact hinj g g' h h' Ah Ah p1 p2 e
  refine bV.normal (m-1) Ah (by refine⟨i+1,n7,(λg=>if g=i then σ.length+1 else iW g),cY,?_⟩;exact eS (⟨Ah,KW,KX,by rw[jI B Ah];exact tU _ _ v0,by rw[jI (B+1) Ah];exact tU _ _ v1,KV,λid h=>by rw[jI id Ah,<-E9,yAg Aw,yAg Ah];exact hkeep id h,λg h h2=>by rw[<-n8,yAd Ah];exact hrest g h Ah,hdn,hin⟩) @eI)
 .have q1:¬(i:Int)<(l.length:Int):=by omega
  have kU:=v0;have v1':=v1;rw[<-hX]at kU;rw[<-hY]at v1';obtain⟨_,tT⟩:=yA.1 kU;obtain⟨_,KY⟩:=yA.1 v1';refine aC (A7 q1 kU r0 tT v1' r1 KY) ?_;obtain⟨cY,eI⟩:=gn (σ.set (B+1) (.box (.agg [.str nm,.int .i64 a,.int .i64 b,.aR (B+2) 0 0 l.length 3])));rw[eI];have jI:∀id,id≠B+1->cY[id]?=σ[id]?:=λid h=>Bt
  have z1:cY[B+1]?=some (.box (.agg [.str nm,.int .i64 a,.int .i64 b,.aR (B+2) 0 0 l.length 3])):=Ft;refine⟨.agg [.str nm,.int .i64 a,.int .i64 b,.aR (B+2) 0 0 l.length 3],cY,by simp[cI,z1],⟨B+2,gs,iW,?_⟩,Dh,λid h=>by rw[jI id Ah];exact hkeep id h⟩;refine⟨by rw[e1],hgl,λ_=>⟨Ah,by rw[jI _ Ah];exact v2⟩,λg (h:g<l.length)=>?_,λg g' (h:g<l.length) (h':g'<l.length)=>hinj g g' h h' Ah Ah⟩;obtain⟨d1,d2⟩:=hdone g h Ah;exact⟨d1,λkQ=>by obtain⟨k1,k2,k3⟩:=d2 kQ;exact⟨Ah,by rw[jI _ Ah];exact k3⟩⟩
end
section
structure mD (σ:List aB) (lo:Nat) (d:bD) (p:PD) (iS:Nat) (ss:List (List PD)) (tG:Nat->Nat) (tgs:Nat->List (List PD)) (tW:Nat->Nat->Nat):Prop where
 p:p=.agg [.str d.name,.bool d.eE,.int .i64 d.low,.int .i64 d.high,hd 4 iS d.stops.length]
 len:ss.length=d.stops.length
 row:0<d.stops.length->lo<=iS/\σ[iS]?=some (.row 56 4 0 ss.flatten)
 at_:∀s (h:s<d.stops.length),ss[s]?=some [.str d.stops[s].name,.int .i64 d.stops[s].num,.int .i64 d.stops[s].den,hd 3 (tG s) d.stops[s].aU.length] /\
  qG σ lo d.stops[s] (.agg [.str d.stops[s].name,.int .i64 d.stops[s].num,.int .i64 d.stops[s].den,hd 3 (tG s) d.stops[s].aU.length]) (tG s) (tgs s) (tW s)
 inj:∀s s' g g' (h:s<d.stops.length) (h':s'<d.stops.length) (k:g<d.stops[s].aU.length) (k':g'<d.stops[s'].aU.length),0<d.stops[s].aU[g].aX.length->0<d.stops[s'].aU[g'].aX.length->tW s g=tW s' g'->s=s'/\g=g'
theorem qG.aQ{σ σ':Gb}{lo lo':Nat}{s:bW}{p:PD}{iG:Nat}{gs:Fz}{iW:Nat->Nat}(h:qG σ lo s p iG gs iW)(hl:lo'<=lo)(hk:∀(id:Nat) (o:aB),lo<=id->σ[id]?=some o->σ'[id]?=some o):qG σ' lo' s p iG gs iW:=by
 obtain⟨h1,h2,h3,h4,h5⟩:=h;exact⟨h1,h2,λhp=>⟨yAV hl (h3 hp).1,hk _ _ (h3 hp).1 (h3 hp).2⟩,λg h=>⟨(h4 g h).1,λhp=>⟨yAV hl ((h4 g h).2 hp).1,hk _ _ ((h4 g h).2 hp).1 ((h4 g h).2 hp).2⟩⟩,h5⟩
variable{E E0:aE}(hU:aH E)
include hU
theorem aD3(h0:E 77=none)(h1:E 110=some (iH 56 4))(h2:E 86=some (eT prog E0 86))
  (hcs:∀(s:bW) (hs:iV s) (τ:List aB),aL prog E0 0 (.inl 86) [Em.stop.aA s] τ (λp σ'=>(∃iG gs iW,qG σ' τ.length s p iG gs iW)/\τ.length<=σ'.length/\∀id,id<τ.length->σ'[id]?=τ[id]?)) (d:bD) (hd:fY d) (τ:List aB) :
  aL prog E 0 (.inl 77) [Em.div.aA d] τ (λp σ'=>(∃iS ss tG tgs tW,mD σ' τ.length d p iS ss tG tgs tW)/\τ.length<=σ'.length/\∀id,id<τ.length->σ'[id]?=τ[id]?):=by
 clear hU;obtain⟨nm,pe,a,b,l⟩:=d;obtain⟨hl,hld⟩:=hd;simp only at hl hld;have hC:=HR (em:=Em.stop) (e:=56) (k:=4) l hl;simp only[lX,aW]at hC ⊢
 by_cases hl0:l=[]
 .subst hl0;have e0:newRow 56 4 (([]:List bW).map Em.stop.aA)=[]:=rfl;have e1:∀id,Go.Kz.hd 4 id ([]:List bW).length=.slice 0 [] .full:=λ_=>rfl
  simp only[e0,e1,yAl]at hC;refine aL.aN 25 h0 func77 (h:=?_);refine aC (A2 h1 hC) ?_;refine Wp.loop ?_;refine aC trivial ?_;obtain⟨X,hX⟩:=gn (aB.box (.agg [.str nm,.bool pe,.int .i64 a,.int .i64 b,.slice 0 [] .full]));refine⟨.agg [.str nm,.bool pe,.int .i64 a,.int .i64 b,.slice 0 [] .full],τ++[X,X],?_,⟨0,[],λ_=>0,λ_=>[],λ_ _=>0,⟨rfl,rfl,λh=>absurd h (yCR 0),λg h=>absurd h (yBb g),λs s' g g' h=>absurd h (yBb s)⟩⟩,Ai,λid h=>yAg h⟩;rw[<-hX];simp[cI]
 have hp:0<l.length:=yDe.2 hl0;have e1:∀id,Go.Kz.hd 4 id l.length=.aR id 0 0 l.length 4:=λid=>by unfold Go.Kz.hd;rw[yAI Ah]
 have e2:newRow 56 4 (l.map Em.stop.aA)=[.row 56 4 0 ((l.map λr=>[PD.str r.name,.int .i64 r.num,.int .i64 r.den,nO.aA r.aU]).flatten)]:=by
  unfold newRow;rw[yAI Bg,aOd]
 simp only[e1,e2]at hC;obtain⟨g0,qM⟩:=gn ((l.map λr=>[PD.str r.name,.int .i64 r.num,.int .i64 r.den,nO.aA r.aU]));rw[qM]at hC;obtain⟨c0,hc0⟩:=gn (g0.flatten);rw[hc0]at hC;rw[s7 hl0]at hC ⊢;obtain⟨xs,hxs⟩:=gn (l.map Em.stop.aA);rw[hxs]at hC ⊢;refine aL.aN 25 h0 func77 (h:=?_);refine aC (A2 h1 hC) ?_;obtain⟨B,hB⟩:=gn (τ.length);rw[hB];have KS:∀g (h:g<l.length),g0[g]?=some [.str l[g].name,.int .i64 l[g].num,.int .i64 l[g].den,nO.aA l[g].aU]:=λg h=>by
  subst qM;rw[yAo,yAh h];rfl
 have KT:g0.length=l.length:=by rw[<-qM,yAe]
 have KU:∀g∈g0,g.length=4:=λg h=>by
  rw[<-qM]at h;exact oh
 obtain⟨X,hX⟩:=gn (aB.box (.agg [.str nm,.bool pe,.int .i64 a,.int .i64 b,.aR (B+2) 0 0 l.length 4]));obtain⟨Y,hY⟩:=gn (aB.box (.agg [.str [],.bool false,.int .i64 0,.int .i64 0,.slice 0 [] .full]));refine Wp.cZ (λm fr σ=>∃(i:Nat) (gs:List (List PD)) (tG:Nat->Nat) (tgs:Nat->List (List PD)) (tW:Nat->Nat->Nat) (σ1:List aB),∃gg:Nat->PD,(i+m=l.length/\gs.length=l.length/\(∀g∈gs,g.length=4)/\σ1[B]?=some X/\σ1[B+1]?=some Y/\σ1[B+2]?=some (.row 56 4 0 gs.flatten)/\(∀id,id<B->σ1[id]?=τ[id]?)/\(∀g (h:g<l.length),i<=g->gs[g]?=some [.str l[g].name,.int .i64 l[g].num,.int .i64 l[g].den,nO.aA l[g].aU])/\(∀s (h:s<l.length),s<i->gs[s]?=some [.str l[s].name,.int .i64 l[s].num,.int .i64 l[s].den,Go.Kz.hd 3 (tG s) l[s].aU.length]/\qG σ1 (B+3) l[s] (.agg [.str l[s].name,.int .i64 l[s].num,.int .i64 l[s].den,Go.Kz.hd 3 (tG s) l[s].aU.length]) (tG s) (tgs s) (tW s))/\(∀s s' g g' (h:s<l.length) (h':s'<l.length) (k:g<l[s].aU.length) (k':g'<l[s'].aU.length),s<i->s'<i->0<l[s].aU[g].aX.length->0<l[s'].aU[g'].aX.length->tW s g=tW s' g'->s=s'/\g=g'))/\fr=[gg 0,.ptr B 0,.ptr (B+1) 0,gg 3,gg 4,gg 5,gg 6,gg 7,gg 8,gg 9,.aR (B+2) 0 0 l.length 4,.int .i64 l.length,.int .i64 i,gg 13,gg 14,gg 15,gg 16,gg 17,gg 18,gg 19,gg 20,gg 21,gg 22,gg 23,gg 24]/\σ=σ1) ?_ (l.length) (by refine⟨0,g0,(λ_=>0),(λ_=>[]),(λ_ _=>0),(τ++[X,Y,.row 56 4 0 c0]),?_⟩;exact eS (⟨Ah,KT,KU,Cp,Cp,by rw[<-hB,hc0];simp,λid h=>by rw[yAg Ah],λg h _=>KS g h,λg h h2=>absurd h2 (yBb g),λs s' g g' h h' k k' h2=>absurd h2 (yBb s)⟩) (A3 hX hY hB))
 rintro m fr σ ⟨i,gs,tG,tgs,tW,σ1,gg,hI,rfl,rfl⟩
 obtain⟨hm,hgl,jC,v0,v1,v2,hkeep,hrest,hdone,hinj⟩:=hI;have hlen:=nH (sz:=4) gs jC;obtain⟨r0,y0⟩:=yA.1 v0;obtain⟨r1,y1⟩:=yA.1 v1;obtain⟨r2,y2⟩:=yA.1 v2
 by_cases hi:i<l.length
 .have q1:(i:Int)<(l.length:Int):=by omega
  have hzo:=hld _ (yAm hi);have hgi:=hrest i hi (yAk _);have hat:=tP (sz:=4) gs i Ah jC;have CP:gs[i]' Ah=[.str l[i].name,.int .i64 l[i].num,.int .i64 l[i].den,nO.aA l[i].aU]:=(yA.1 hgi).2;obtain⟨z,hz⟩:=gn (l[i]);rw[CP,hz]at hat;rw[hz]at hzo;have hW:=hcs z hzo (σ++[aB.box (Em.stop.aA z)]);have hll:(σ++[aB.box (Em.stop.aA z)]).length=σ.length+1:=Ai;obtain⟨pz,qN,hev,⟨iG,zgs,iW,hst⟩,HS,tU⟩:=hW.e0 Ai;rw[hll]at hst HS tU;have hpz:=hst.p;subst hpz;have hfl:=wH (sz:=4) (new:=[.str z.name,.int .i64 z.num,.int .i64 z.den,Go.Kz.hd 3 iG z.aU.length]) (j:=0) Ai gs i Ah jC;rw[CP,hz]at hfl;have hset:dG [PD.str z.name,.int .i64 z.num,.int .i64 z.den,nO.aA z.aU] 0 [.str z.name,.int .i64 z.num,.int .i64 z.den,Go.Kz.hd 3 iG z.aU.length]=[.str z.name,.int .i64 z.num,.int .i64 z.den,Go.Kz.hd 3 iG z.aU.length]:=rfl;rw[hset,yBo]at hfl;obtain⟨n7,n8⟩:=gn (gs.set i [PD.str z.name,.int .i64 z.num,.int .i64 z.den,Go.Kz.hd 3 iG z.aU.length]);rw[n8]at hfl;obtain⟨cs,aOe⟩:=gn (gs.flatten);rw[aOe]at v2 hlen hat hfl y2;obtain⟨JY,KZ⟩:=gn (n7.flatten);rw[KZ]at hfl;have gK:i*4+4<=cs.length:=Ah;have xk:jZ prog 51 (.aR (B+2) 0 0 l.length 4) (.int .i64 i)=some (.dH (B+2) 0 (i*4)):=by
   simp[lH,hi]
  obtain⟨h9,kV⟩:=gn (Go.Kz.hd 3 iG z.aU.length);have p9:h9.plain=true:=Fp;have c9:h9.cells=[h9]:=Fq;rw[kV]at hev hfl;simp only[dG,yAT,yAQ,yAp,Nat.reduceAdd,yBW,yAi,yAR,yAO]at hfl;unfold PD.plain at p9;have kU:=v0;rw[<-hX]at kU;have u0:(σ++[aB.box (Em.stop.aA z)])[B]?=some (.box (.agg [.str nm,.bool pe,.int .i64 a,.int .i64 b,.aR (B+2) 0 0 l.length 4])):=cE kU;have u7:qN[B+2]?=some (.row 56 4 0 cs):=by rw[tU _ Ah];exact cE v2
  obtain⟨r7,y7⟩:=yA.1 u7;obtain⟨w0,z0⟩:=yA.1 u0;obtain⟨_,tT⟩:=yA.1 kU;have j0:∀x:aB,(σ++[x])[σ.length]?=some x:=λx=>Ai
  have hK:=o6 (B:=[B]) h2 hev (by rw[hll];exact HS) (λid h h3=>tU id (by rw[hll]at h3;exact h3));obtain⟨zn,za,zb,zs⟩:=z;simp only[pV,aW]at hat hK u0 w0 z0 hll;refine aC zq ?_;refine Wp.CL h2 ES Ai [(1,B),(4,σ.length)] [B] [some B] Ao ⟨⟨_,rfl⟩,⟨_,rfl⟩,trivial⟩ Aj Ch ?_;refine oU Ab ?_;apply SQ.nil;refine aC q1 ?_;have E7:∀id,id<σ.length->qN[id]?=σ[id]?:=λid h=>by rw[tU id Ah,yAg h]
  obtain⟨cY,eI⟩:=gn (qN.set (B+2) (.row 56 4 0 JY));have jI:∀id,id≠B+2->cY[id]?=qN[id]?:=λid h=>Bt
  have KV:cY[B+2]?=some (.row 56 4 0 n7.flatten):=by rw[<-eI,KZ];exact yAj r7
  have KW:n7.length=l.length:=by rw[<-n8,yAD,hgl]
  have KX:∀g∈n7,g.length=4:=λg h=>by
   exact jz
  have hlt:∀(id:Nat) (o:aB),σ[id]?=some o->id<σ.length:=λid o h=>(yA.1 h).1
  have hdn:∀s (h:s<l.length),s<i+1->n7[s]?=some [.str l[s].name,.int .i64 l[s].num,.int .i64 l[s].den,Go.Kz.hd 3 (if s=i then iG else tG s) l[s].aU.length]/\qG cY (B+3) l[s] (.agg [.str l[s].name,.int .i64 l[s].num,.int .i64 l[s].den,Go.Kz.hd 3 (if s=i then iG else tG s) l[s].aU.length]) (if s=i then iG else tG s) (if s=i then zgs else tgs s) (if s=i then iW else tW s):=λs h h2=>by
   exact dy
  have hin:∀s s' g g' (h:s<l.length) (h':s'<l.length) (k:g<l[s].aU.length) (k':g'<l[s'].aU.length),s<i+1->s'<i+1->0<l[s].aU[g].aX.length->0<l[s'].aU[g'].aX.length->(if s=i then iW else tW s) g=(if s'=i then iW else tW s') g'->s=s'/\g=g':=λs s' g g' h h' k k' b1 b2 p1 p2 e=>by
   by_cases e1:s=i
   .by_cases e2:s'=i
    .subst e1;subst e2;simp only[yAL]at e;simp only[hz]at k k' p1 p2;exact⟨rfl,hst.inj g g' k k' p1 p2 e⟩
    .rw[yAJ e1,yAI e2]at e;have h1:=hlt _ _ (((hdone s' h' Ah).2.at_ g' k').2 p2).2;subst e1;simp only[hz]at k p1;have h2:=((hst.at_ g k).2 p1).1;omega
   .by_cases e2:s'=i
    .rw[yAI e1,yAJ e2]at e;have h1:=hlt _ _ (((hdone s h Ah).2.at_ g k).2 p1).2;subst e2;simp only[hz]at k' p2;have h2:=((hst.at_ g' k').2 p2).1;omega
    .exact si
  refine bV.normal (m-1) Ah (by refine⟨i+1,n7,(λs=>if s=i then iG else tG s),(λs=>if s=i then zgs else tgs s),(λs=>if s=i then iW else tW s),cY,?_⟩;exact eS (⟨Ah,KW,KX,by rw[jI B Ah,E7 B r0];exact v0,by rw[jI (B+1) Ah,E7 _ r1];exact v1,KV,λid h=>by rw[jI id Ah,E7 id Ah];exact hkeep id h,λg h h2=>by rw[<-n8,yAd Ah];exact hrest g h Ah,hdn,hin⟩) @eI)
 .have q1:¬(i:Int)<(l.length:Int):=by omega
  have kU:=v0;have v1':=v1;rw[<-hX]at kU;rw[<-hY]at v1';obtain⟨_,tT⟩:=yA.1 kU;obtain⟨_,KY⟩:=yA.1 v1';refine aC (A7 q1 kU r0 tT v1' r1 KY) ?_;obtain⟨cY,eI⟩:=gn (σ.set (B+1) (.box (.agg [.str nm,.bool pe,.int .i64 a,.int .i64 b,.aR (B+2) 0 0 l.length 4])));rw[eI];have jI:∀id,id≠B+1->cY[id]?=σ[id]?:=λid h=>Bt
  have z1:cY[B+1]?=some (.box (.agg [.str nm,.bool pe,.int .i64 a,.int .i64 b,.aR (B+2) 0 0 l.length 4])):=Ft;refine⟨.agg [.str nm,.bool pe,.int .i64 a,.int .i64 b,.aR (B+2) 0 0 l.length 4],cY,by simp[cI,z1],⟨B+2,gs,tG,tgs,tW,?_⟩,Dh,λid h=>by rw[jI id Ah];exact hkeep id h⟩;refine⟨by rw[e1],hgl,λ_=>⟨Ah,by rw[jI _ Ah];exact v2⟩,λs (h:s<l.length)=>?_,λs s' g g' (h:s<l.length) (h':s'<l.length) k k'=>hinj s s' g g' h h' k k' Ah Ah⟩;exact mh
end
section
theorem aN8(l:List Int)(h0:l≠[])(hl:l.length<=1000000)(σ:List aB):∃tok σ',sM prog 46 1 0 [.slice 1 (l.map i64.aA) .any] σ=some (.slice 1 (l.map i64.aA) tok,σ')/\kK σ' tok 3 1 l.length/\∀(id:Nat) (o:aB),σ[id]?=some o->σ'[id]?=some o:=by
 obtain⟨tok,σ',h1,h2,h3⟩:=aN9 (P:=prog) (σ:=σ) (t:=46) (e:=3) (k:=1) (b:=8) (s:=1) (z:=1) (xs:=l.map i64.aA) underlying46 Aj (.inr rfl) Bg Bg;refine⟨tok,σ',?_,by rw[yAe]at h2;exact h2,h3⟩;have hn:l.length≠0:=λh=>h0 (yAf h)
 rw[yAe,yAI hn]at h1;obtain⟨x,l',rfl⟩:=List.exists_cons_of_ne_nil h0;simp only[yAS]at h1 ⊢;have hr:fR prog 8 0 σ 46 (.slice 1 [] .full) (.slice 1 (i64.aA x::l'.map i64.aA) .any)=none:=by
  unfold fR;rw[yAI Ao]
 unfold sM pap;simp only[hr];have hs:(PD.slice (0+1) (i64.aA x::l'.map i64.aA) .any).strip=.slice (0+1) (i64.aA x::l'.map i64.aA) .any:=by
  have h:=fM.str (x::l');rw[aW,s7 h0]at h;exact h
 rw[hs];exact h1
variable{E E0:aE}(hU:aH E)
include hU
omit hU in
theorem aKd(h0:E 76=none)(h1:E 109=some (sM prog 46 1))(r:bB)(hr:fX r):aJ prog E 76 [Em.aG.aA r] (Em.aG.aA r):=by
 obtain⟨nm,tn,a,b,c,w⟩:=r;simp only[nN,aW]
 by_cases hw:w=[]
 .subst hw;have hC:∀fl σ k,sM prog 46 1 fl [.slice k [] .any] σ=some (.slice 0 [] .full,σ):=λfl σ k=>rfl
  refine aJ.aN 8 h0 func76 (h:=?_);refine aC (A2 h1 hC) ?_;exact bx
 rw[s7 hw];have hlen:(w.map i64.aA).length=w.length:=yAe ..;obtain⟨xs,hxs⟩:=gn (w.map i64.aA);obtain⟨X,hX⟩:=gn (aB.box (.agg [.str nm,.str tn,.int .i64 a,.int .i64 b,.int .i64 c,.slice 1 xs .any]));obtain⟨Y,hY⟩:=gn (aB.box (.agg [.str [],.str [],.int .i64 0,.int .i64 0,.int .i64 0,.slice 0 [] .full]));obtain⟨tok,σ',e1,e2,e3⟩:=aN8 w hw hr [X,Y];have g0:=e3 0 X rfl;have g1:=e3 1 Y rfl;rw[hxs]at e1 ⊢;obtain⟨w0,z0⟩:=yA.1 g0;rw[<-hX]at z0;obtain⟨w1,z1⟩:=yA.1 g1;rw[<-hY]at z1;rw[<-hX,<-hY]at e1;rw[<-hX]at g0;rw[<-hY]at g1;refine aJ.aN 8 h0 func76 (h:=?_);refine aC (A8 h1 e1 w0 @z0 @g0 @g1 w1 z1) ?_;refine⟨.agg [.str nm,.str tn,.int .i64 a,.int .i64 b,.int .i64 c,.slice 1 xs tok],(σ'.set 0 (.box (.agg [.str nm,.str tn,.int .i64 a,.int .i64 b,.int .i64 c,.slice 1 xs tok]))).set 1 (.box (.agg [.str nm,.str tn,.int .i64 a,.int .i64 b,.int .i64 c,.slice 1 xs tok])),?_,?_⟩
 .simp[cI,w1]
 .have h:=fM.str w;rw[aW,s7 hw,hxs]at h;have hx:(PD.slice 1 xs tok).strip=(PD.slice 1 xs .any).strip:=by
   obtain⟨x,l,rfl⟩:=List.exists_cons_of_ne_nil (show xs≠[]from λe=>hw (by rw[e]at hxs;exact List.map_eq_nil_iff.1 hxs));rfl
  simp only[PD.strip,PD.lF];rw[hx,h]
omit hU in
theorem mD.aQ{σ σ':Gb}{lo lo':Nat}{d:bD}{p:PD}{iS:Nat}{ss:Fz}{tG:Nat->Nat}{tgs:Fy}{tW:Nat->Nat->Nat}(h:mD σ lo d p iS ss tG tgs tW)(hl:lo'<=lo)(hk:∀(id:Nat) (o:aB),lo<=id->σ[id]?=some o->σ'[id]?=some o):mD σ' lo' d p iS ss tG tgs tW:=by
 obtain⟨h1,h2,h3,h4,h5⟩:=h;exact⟨h1,h2,λhp=>⟨yAV hl (h3 hp).1,hk _ _ (h3 hp).1 (h3 hp).2⟩,λg h=>⟨(h4 g h).1,(h4 g h).2.aQ hl hk⟩,h5⟩
structure iI (σ:List aB) (lo:Nat) (o:aP) (p:PD) (iR iD iC:Nat) (ds:List (List PD)) (tS:Nat->Nat) (tss:Nat->List (List PD)) (tG:Nat->Nat->Nat) (tgs:Nat->Nat->List (List PD)) (tW:Nat->Nat->Nat->Nat):Prop where
 p:p=.agg [.str o.name,hd 6 iR o.aM.length,hd 5 iD o.aD.length,hd 5 iC o.aO.length]
 aG:0<o.aM.length->lo<=iR/\σ[iR]?=some (.row 48 6 0 ((o.aM.map Em.aG.aA).flatMap PD.cells))
 aK:0<o.aO.length->lo<=iC/\σ[iC]?=some (.row 58 5 0 ((o.aO.map Em.aK.aA).flatMap PD.cells))
 len:ds.length=o.aD.length
 row:0<o.aD.length->lo<=iD/\σ[iD]?=some (.row 53 5 0 ds.flatten)
 at_:∀d (h:d<o.aD.length),ds[d]?=some [.str o.aD[d].name,.bool o.aD[d].eE,.int .i64 o.aD[d].low,.int .i64 o.aD[d].high,hd 4 (tS d) o.aD[d].stops.length] /\
  mD σ lo o.aD[d] (.agg [.str o.aD[d].name,.bool o.aD[d].eE,.int .i64 o.aD[d].low,.int .i64 o.aD[d].high,hd 4 (tS d) o.aD[d].stops.length]) (tS d) (tss d) (tG d) (tgs d) (tW d)
 XA:∀d d' (h:d<o.aD.length) (h':d'<o.aD.length),0<o.aD[d].stops.length->0<o.aD[d'].stops.length->tS d=tS d'->d=d'
 XK:∀d d' s s' g g' (h:d<o.aD.length) (h':d'<o.aD.length) (k:s<o.aD[d].stops.length) (k':s'<o.aD[d'].stops.length) (l:g<o.aD[d].stops[s].aU.length) (l':g'<o.aD[d'].stops[s'].aU.length),0<o.aD[d].stops[s].aU[g].aX.length->0<o.aD[d'].stops[s'].aU[g'].aX.length->tW d s g=tW d' s' g'->d=d'/\s=s'/\g=g'
theorem aM3(h0:E 41=none)(h1:E 73=some (iH 48 6))(h2:E 74=some (iH 53 5))(h3:E 75=some (iH 58 5))
  (h4:E 76=some (entry (bZ Em.aG Em.aG λr=>dP (fX r) (some r)))) (h5:E 77=some (eT prog E0 77))
  (hcs:∀(d:bD) (hs:fY d) (τ:List aB),aL prog E0 0 (.inl 77) [Em.div.aA d] τ (λp σ'=>(∃iS ss tG tgs tW,mD σ' τ.length d p iS ss tG tgs tW)/\τ.length<=σ'.length/\∀id,id<τ.length->σ'[id]?=τ[id]?))
  (o:aP) (ho:gG o) (τ:List aB) :
  aL prog E 0 (.inl 41) [Em.bM.aA o] τ (λp σ'=>(∃iR iD iC ds tS tss tG tgs tW,iI σ' τ.length o p iR iD iC ds tS tss tG tgs tW)/\τ.length<=σ'.length/\∀id,id<τ.length->σ'[id]?=τ[id]?):=by
 clear hU;obtain⟨nm,rs,ds,cs⟩:=o;obtain⟨⟨oE,jE⟩,⟨sE,jD⟩,dY⟩:=ho;simp only at oE jE sE jD dY;have hCR:=HR (em:=Em.aG) (e:=48) (k:=6) rs oE;have hCD:=HR (em:=Em.div) (e:=53) (k:=5) ds sE;have hCC:=HR (em:=Em.aK) (e:=58) (k:=5) cs dY;have kR:=λfl σ=>KO (fl:=fl) (σ:=σ) h1 (λfl=>hCR fl σ)
 have kD:=λfl σ=>KO (fl:=fl) (σ:=σ) h2 (λfl=>hCD fl σ)
 have kC:=λfl σ=>KO (fl:=fl) (σ:=σ) h3 (λfl=>hCC fl σ)
 simp only[gF,aW]at kR kD kC ⊢;obtain⟨B,hB⟩:=gn (τ.length);obtain⟨nR,hnR⟩:=gn (newRow 48 6 (rs.map Em.aG.aA));obtain⟨nD,hnD⟩:=gn (newRow 53 5 (ds.map Em.div.aA));obtain⟨nC,hnC⟩:=gn (newRow 58 5 (cs.map Em.aK.aA));rw[hnR]at kR;rw[hnD]at kD;rw[hnC]at kC;obtain⟨lR,hlR⟩:=gn (rs.map Em.aG.aA);obtain⟨lD,hlD⟩:=gn (ds.map Em.div.aA);obtain⟨lC,hlC⟩:=gn (cs.map Em.aK.aA);obtain⟨zR,hzR⟩:=gn (sz 6 rs);obtain⟨zD,hzD⟩:=gn (sz 5 ds);obtain⟨zC,hzC⟩:=gn (sz 5 cs);rw[hlR,hzR]at kR;rw[hlD,hzD]at kD;rw[hlC,hzC]at kC;rw[hlR,hlD,hlC,hzR,hzD,hzC];obtain⟨W,hW⟩:=gn (aB.box (.agg [.str nm,.slice zR lR .any,.slice zD lD .any,.slice zC lC .any]));obtain⟨Y,hY⟩:=gn (aB.box (.agg [.str [],.slice 0 [] .full,.slice 0 [] .full,.slice 0 [] .full]));obtain⟨iD,hiD⟩:=gn ((τ++W::Y::nR).length);obtain⟨iC,hiC⟩:=gn ((τ++W::Y::(nR++nD)).length);have KP:=λfl=>kR fl (τ++[W,Y])
 have KQ:=λfl=>kD fl (τ++W::Y::nR)
 have KR:=λfl=>kC fl (τ++W::Y::(nR++nD))
 have e2:(τ++[W,Y]).length=B+2:=by rw[yAa,hB];rfl
 rw[e2]at KP;rw[hiD]at KQ;rw[hiC]at KR;simp only[yAi,yAR,yAO]at KP KQ KR;obtain⟨hR,hhR⟩:=gn (Go.Kz.hd 6 (B+2) rs.length);obtain⟨hD,hhD⟩:=gn (Go.Kz.hd 5 iD ds.length);obtain⟨hC,hhC⟩:=gn (Go.Kz.hd 5 iC cs.length);have pR:hR.plain=true:=Az;have pD:hD.plain=true:=Ba;have pC:hC.plain=true:=Bb;unfold PD.plain at pR pD pC;have cR:hR.cells=[hR]:=Bw;have cD:hD.cells=[hD]:=Bx;have cC:hC.cells=[hC]:=Bz;rw[hhR]at KP;rw[hhD]at KQ;rw[hhC]at KR;rw[<-hW,<-hY]at KP KQ KR;have jG:∀(X:aB) L,(τ++X::L)[B]?=some X:=λX L=>Cp
 have jS:∀(X Y:aB) L,(τ++X::L).set B Y=τ++Y::L:=λX Y L=>Cp
 unfold PD.cells at cR cD cC;refine aL.aN 50 h0 func41 (h:=?_);refine aC trivial ?_;rw[hB];refine Wp.seq ?_;refine Wp.XL Ao ?_;refine oU (A11 KP KQ KR jG jS pR pD pC cR cD cC) ?_;apply SQ.nil;obtain⟨S0,wS⟩:=gn (τ++aB.box (.agg [.str nm,hR,hD,hC])::Y::(nR++(nD++nC)));have lR':j5 prog .len #[31] [hR]=some (.int .i64 rs.length):=by
  rw[<-hhR];unfold Go.Kz.hd;split
  .rename_i h;rw[h];rfl
  .rfl
 have lD':j5 prog .len #[32] [hD]=some (.int .i64 ds.length):=by
  rw[<-hhD];unfold Go.Kz.hd;split
  .rename_i h;rw[h];rfl
  .rfl
 have sR:0<rs.length->S0[B+2]?=some (.row 48 6 0 ((rs.map λr=>[PD.str r.name,.str r.jJ,.int .i64 r.num,.int .i64 r.den,.int .i64 r.first,fM.aA r.kX]).flatten)):=λh=>by
  rw[<-wS,<-hnR,<-aEr,yBS Ah,hB,yDS];show(newRow 48 6 (rs.map Em.aG.aA)++(nD++nC))[0]?=_
  unfold newRow;rw[yAI Bg];rfl
 have sD:0<ds.length->S0[iD]?=some (.row 53 5 0 ((ds.map λr=>[PD.str r.name,.bool r.eE,.int .i64 r.low,.int .i64 r.high,mX.aA r.stops]).flatten)):=λh=>by
  have h1:=XM (e:=53) (k:=5) (xs:=ds.map Em.div.aA) (τ++aB.box (.agg [.str nm,hR,hD,hC])::Y::nR) Cc;rw[<-wS,<-aOa,<-hnD,<-hiD];have h2:=cE (τ:=nC) h1;simpa using h2
 have sC:0<cs.length->S0[iC]?=some (.row 58 5 0 ((cs.map Em.aK.aA).flatMap PD.cells)):=λh=>by
  have h1:=XM (e:=58) (k:=5) (xs:=cs.map Em.aK.aA) (τ++aB.box (.agg [.str nm,hR,hD,hC])::Y::(nR++nD)) Cc;rw[<-wS,<-hnC,<-hiC];simpa using h1
 have sY:S0[B+1]?=some Y:=by
  rw[<-wS,yBS Ah,hB,yDS];rfl
 have sT:∀id,id<B->S0[id]?=τ[id]?:=λid h=>by rw[<-wS,yAg Ah]
 have iDl:B+2<=iD:=by rw[<-hiD,yAa,hB];simp
 have iCl:B+2<=iC:=by rw[<-hiC,yAa,hB];simp
 obtain⟨L0,sS⟩:=gn (S0.length);have XB:0<ds.length->iD<L0:=λh=>by rw[<-sS];exact(yA.1 (sD h)).1
 have sB:S0[B]?=some (.box (.agg [.str nm,hR,hD,hC])):=by rw[<-wS,<-hB];simp
 obtain⟨wB,zB⟩:=yA.1 sB;rw[hY,wS];simp[j5,underlying31]at lR';simp[j5,underlying32]at lD';refine aC (A4 lR' sB wB zB) ?_;refine Wp.cZ (λm fr σ=>∃(i:Nat) (σ1:List aB),∃gg:Nat->PD,(i+m=rs.length/\(∀(id:Nat) (x:aB),S0[id]?=some x->σ1[id]?=some x))/\fr=[gg 0,.ptr B 0,.ptr (B+1) 0,gg 3,gg 4,gg 5,gg 6,gg 7,gg 8,gg 9,gg 10,gg 11,gg 12,gg 13,gg 14,gg 15,gg 16,gg 17,gg 18,gg 19,hR,.int .i64 rs.length,.int .i64 i,gg 23,gg 24,gg 25,gg 26,gg 27,gg 28,gg 29,gg 30,gg 31,gg 32,gg 33,gg 34,gg 35,gg 36,gg 37,gg 38,gg 39,gg 40,gg 41,gg 42,gg 43,gg 44,gg 45,gg 46,gg 47,gg 48,gg 49]/\σ=σ1) ?_ (rs.length) (by refine⟨0,S0,?_⟩;exact cF (⟨Ah,λ_ _ h=>h⟩))
 rintro m fr σ ⟨i,σ1,gg,hI,rfl,rfl⟩
 obtain⟨hm,hk⟩:=hI;have v0:=hk _ _ sB;obtain⟨r0,y0⟩:=yA.1 v0
 by_cases hi:i<rs.length
 .have q1:(i:Int)<(rs.length:Int):=by omega
  have hRr:hR=.aR (B+2) 0 0 rs.length 6:=by rw[<-hhR];unfold Go.Kz.hd;rw[yAI Ah]
  have v2:=hk _ _ (sR Ah);obtain⟨gs,hgs⟩:=gn ((rs.map λr=>[PD.str r.name,.str r.jJ,.int .i64 r.num,.int .i64 r.den,.int .i64 r.first,fM.aA r.kX]));rw[hgs]at v2;have hgl:gs.length=rs.length:=by rw[<-hgs,yAe]
  have jC:∀g∈gs,g.length=6:=λg h=>by
   rw[<-hgs]at h;exact oh
  have hat:=tP (sz:=6) gs i Ah jC;have hlen:=nH (sz:=6) gs jC;have hgi:gs[i]' Ah=[.str rs[i].name,.str rs[i].jJ,.int .i64 rs[i].num,.int .i64 rs[i].den,.int .i64 rs[i].first,fM.aA rs[i].kX]:=by subst hgs;rw[yBE]
  have hzo:=jE _ (yAm hi);obtain⟨z,hz⟩:=gn (rs[i]);rw[hgi,hz]at hat;rw[hz]at hzo;have hfl:=wH (sz:=6) (new:=[.str z.name,.str z.jJ,.int .i64 z.num,.int .i64 z.den,.int .i64 z.first,fM.aA z.kX]) (j:=0) Ai gs i Ah jC;rw[hgi,hz]at hfl;have hset:dG [PD.str z.name,.str z.jJ,.int .i64 z.num,.int .i64 z.den,.int .i64 z.first,fM.aA z.kX] 0 [PD.str z.name,.str z.jJ,.int .i64 z.num,.int .i64 z.den,.int .i64 z.first,fM.aA z.kX]=[PD.str z.name,.str z.jJ,.int .i64 z.num,.int .i64 z.den,.int .i64 z.first,fM.aA z.kX]:=rfl;have hsm:gs.set i [PD.str z.name,.str z.jJ,.int .i64 z.num,.int .i64 z.den,.int .i64 z.first,fM.aA z.kX]=gs:=by rw[<-hz,<-hgi];exact yEk _
  rw[hset,yBo,hsm]at hfl;obtain⟨fs,hfs⟩:=gn (gs.flatten);rw[hfs]at v2 hlen hat hfl;obtain⟨r2,y2⟩:=yA.1 v2;have gK:i*6+6<=fs.length:=Ah;have xk:jZ prog 31 (.aR (B+2) 0 0 rs.length 6) (.int .i64 i)=some (.dH (B+2) 0 (i*6)):=by
   simp[lH,hi]
  have hdec:Em.aG.dec (Em.aG.aA z)=some z:=Em.cM (Em.aG.str z);have hK:∀fl σ,CO E fl (.inl 76) [Em.aG.aA z] σ=some (Em.aG.aA z,σ):=λfl σ=>by
   have h:=KO (τ:=[]) (fl:=fl) (σ:=σ) h4 (args:=[Em.aG.aA z]) (p:=Em.aG.aA z) (λfl=>by
    unfold entry bZ;simp only[hdec];rw[eV hzo,yAl])
   rwa [yAl]at h
  have kU:σ[B]?=some (.box (.agg [.str nm,.aR (B+2) 0 0 rs.length 6,hD,hC])):=by rw[<-hRr];exact v0
  obtain⟨_,tT⟩:=yA.1 kU;have u0:(σ++[aB.box (Em.aG.aA z)])[B]?=some (.box (.agg [.str nm,.aR (B+2) 0 0 rs.length 6,hD,hC])):=cE kU;have u7:(σ++[aB.box (Em.aG.aA z)])[B+2]?=some (.row 48 6 0 fs):=cE v2;obtain⟨r7,y7⟩:=yA.1 u7;obtain⟨w0,z0⟩:=yA.1 u0;have j0:∀x:aB,(σ++[x])[σ.length]?=some x:=λx=>Ai
  obtain⟨zn,zt,za,zb,zc,zw⟩:=z;simp only[nN,aW]at hat hK u0 w0 z0 u7 r7 y7 hfl;simp only[dG,yAT,yAQ,yAp,Nat.reduceAdd,yBW,yAi,yAR,yAO]at hfl;rw[hRr];refine aC zq ?_;refine Wp.XL Ao ?_;refine oU (A14 u0 w0 @z0 r0 tT j0 hK xk hi u7 r7 y7 gK hfl) ?_;apply SQ.nil;refine aC q1 ?_;refine bV.normal (m-1) Ah (by refine⟨i+1,(σ.set (B+2) (.row 48 6 0 fs)++[aB.box (.agg [.str zn,.str zt,.int .i64 za,.int .i64 zb,.int .i64 zc,.slice (sz 1 zw) (zw.map i64.aA) .any])]),?_⟩;exact eS (⟨Ah,λid x h=>cE (if e:id=B+2 then(by subst e;rw[yAj r2,<-v2];exact hk _ _ h)else(by rw[yAd (yAW e)];exact hk _ _ h))⟩) @hfl)
 .have q1:¬(i:Int)<(rs.length:Int):=by omega
  refine aC (A5 q1 @v0 r0 y0 lD') ?_;obtain⟨ρ,hρ⟩:=gn (σ);rw[hρ]at hk ⊢;obtain⟨g0,qM⟩:=gn ((ds.map λr=>[PD.str r.name,.bool r.eE,.int .i64 r.low,.int .i64 r.high,mX.aA r.stops]));rw[qM]at sD;have KS:∀g (h:g<ds.length),g0[g]?=some [.str ds[g].name,.bool ds[g].eE,.int .i64 ds[g].low,.int .i64 ds[g].high,mX.aA ds[g].stops]:=λg h=>by
   subst qM;rw[yAo,yAh h];rfl
  have KT:g0.length=ds.length:=by rw[<-qM,yAe]
  have KU:∀g∈g0,g.length=5:=λg h=>by
   rw[<-qM]at h;exact oh
  have lρ:L0<=ρ.length:=by
   by_cases e:L0=0
   .omega
   .have h1:=hk (L0-1) _ (yAh (show L0-1<S0.length by omega));have:=(yA.1 h1).1;omega
  have bL:B+2<=L0:=by
   have:=(yA.1 sY).1;omega
  obtain⟨Z,hZ⟩:=gn (aB.box (.agg [.str nm,hR,hD,hC]));rw[hZ]at sB;refine Wp.cZ (λm fr σ=>∃(i:Nat) (gs:List (List PD)) (tS:Nat->Nat) (tss:Nat->List (List PD)) (tG:Nat->Nat->Nat) (tgs:Nat->Nat->List (List PD)) (tW:Nat->Nat->Nat->Nat) (σ1:List aB),∃gg:Nat->PD,(i+m=ds.length/\gs.length=ds.length/\(∀g∈gs,g.length=5)/\(∀(id:Nat) (x:aB),(0<ds.length->id≠iD)->S0[id]?=some x->σ1[id]?=some x)/\(0<ds.length->σ1[iD]?=some (.row 53 5 0 gs.flatten))/\L0<=σ1.length/\(∀g (h:g<ds.length),i<=g->gs[g]?=some [.str ds[g].name,.bool ds[g].eE,.int .i64 ds[g].low,.int .i64 ds[g].high,mX.aA ds[g].stops])/\(∀s (h:s<ds.length),s<i->gs[s]?=some [.str ds[s].name,.bool ds[s].eE,.int .i64 ds[s].low,.int .i64 ds[s].high,Go.Kz.hd 4 (tS s) ds[s].stops.length]/\mD σ1 L0 ds[s] (.agg [.str ds[s].name,.bool ds[s].eE,.int .i64 ds[s].low,.int .i64 ds[s].high,Go.Kz.hd 4 (tS s) ds[s].stops.length]) (tS s) (tss s) (tG s) (tgs s) (tW s))/\(∀d d' (h:d<ds.length) (h':d'<ds.length),d<i->d'<i->0<ds[d].stops.length->0<ds[d'].stops.length->tS d=tS d'->d=d')/\(∀d d' s s' g g' (h:d<ds.length) (h':d'<ds.length) (k:s<ds[d].stops.length) (k':s'<ds[d'].stops.length) (l:g<ds[d].stops[s].aU.length) (l':g'<ds[d'].stops[s'].aU.length),d<i->d'<i->0<ds[d].stops[s].aU[g].aX.length->0<ds[d'].stops[s'].aU[g'].aX.length->tW d s g=tW d' s' g'->d=d'/\s=s'/\g=g'))/\fr=[gg 0,.ptr B 0,.ptr (B+1) 0,gg 3,gg 4,gg 5,gg 6,gg 7,gg 8,gg 9,gg 10,gg 11,gg 12,gg 13,gg 14,gg 15,gg 16,gg 17,gg 18,gg 19,gg 20,gg 21,gg 22,gg 23,gg 24,gg 25,gg 26,gg 27,gg 28,gg 29,gg 30,gg 31,gg 32,gg 33,gg 34,hD,.int .i64 ds.length,.int .i64 i,gg 38,gg 39,gg 40,gg 41,gg 42,gg 43,gg 44,gg 45,gg 46,gg 47,gg 48,gg 49]/\σ=σ1) ?_ (ds.length) (by refine⟨0,g0,(λ_=>0),(λ_=>[]),(λ_ _=>0),(λ_ _=>[]),(λ_ _ _=>0),ρ,?_⟩;exact cF (⟨Ah,KT,KU,λid x _ h=>hk id x h,λh=>hk _ _ (sD h),lρ,λg h _=>KS g h,λs _ h=>absurd h (yBb s),λd d' h h' h1=>absurd h1 (yBb d),λd d' s s' g g' h h' k k' l l' h1=>absurd h1 (yBb d)⟩))
  rintro m fr σ ⟨i,gs,tS,tss,tG,tgs,tW,σ1,gg,hI,rfl,rfl⟩
  obtain⟨hm,hgl,jC,hkeep,hrow,hlo,hrest,hdone,hiS,hiW⟩:=hI;have v0:=hkeep B _ (λ_=>Ah) sB;have v1:=hkeep (B+1) _ (λ_=>Ah) sY;obtain⟨r0,y0⟩:=yA.1 v0;obtain⟨r1,y1⟩:=yA.1 v1
  by_cases hi:i<ds.length
  .have q1:(i:Int)<(ds.length:Int):=by omega
   have hDr:hD=.aR iD 0 0 ds.length 5:=by rw[<-hhD];unfold Go.Kz.hd;rw[yAI Ah]
   have iDL:=XB Ah;have v2:=hrow Ah;have hzo:=jD _ (yAm hi);have hgi:=hrest i hi (yAk _);have hat:=tP (sz:=5) gs i Ah jC;have hlen:=nH (sz:=5) gs jC;have CP:gs[i]' Ah=[.str ds[i].name,.bool ds[i].eE,.int .i64 ds[i].low,.int .i64 ds[i].high,mX.aA ds[i].stops]:=(yA.1 hgi).2;obtain⟨z,hz⟩:=gn (ds[i]);rw[CP,hz]at hat;rw[hz]at hzo;have hW:=hcs z hzo (σ++[aB.box (Em.div.aA z)]);have hll:(σ++[aB.box (Em.div.aA z)]).length=σ.length+1:=Ai;obtain⟨pz,qN,hev,⟨iS,zss,zG,zgs,zW,hst⟩,HS,tU⟩:=hW.e0 Ai;rw[hll]at hst HS tU;have hpz:=hst.p;subst hpz;have hfl:=wH (sz:=5) (new:=[.str z.name,.bool z.eE,.int .i64 z.low,.int .i64 z.high,Go.Kz.hd 4 iS z.stops.length]) (j:=0) Ai gs i Ah jC;rw[CP,hz]at hfl;have hset:dG [PD.str z.name,.bool z.eE,.int .i64 z.low,.int .i64 z.high,mX.aA z.stops] 0 [.str z.name,.bool z.eE,.int .i64 z.low,.int .i64 z.high,Go.Kz.hd 4 iS z.stops.length]=[.str z.name,.bool z.eE,.int .i64 z.low,.int .i64 z.high,Go.Kz.hd 4 iS z.stops.length]:=rfl;rw[hset,yBo]at hfl;obtain⟨n7,n8⟩:=gn (gs.set i [PD.str z.name,.bool z.eE,.int .i64 z.low,.int .i64 z.high,Go.Kz.hd 4 iS z.stops.length]);rw[n8]at hfl;obtain⟨fs,hfs⟩:=gn (gs.flatten);rw[hfs]at v2 hlen hat hfl;obtain⟨r2,y2⟩:=yA.1 v2;obtain⟨KL,aEs⟩:=gn (n7.flatten);rw[aEs]at hfl;have gK:i*5+5<=fs.length:=Ah;have xk:jZ prog 32 (.aR iD 0 0 ds.length 5) (.int .i64 i)=some (.dH iD 0 (i*5)):=by
    simp[lH,hi]
   obtain⟨h9,kV⟩:=gn (Go.Kz.hd 4 iS z.stops.length);have p9:h9.plain=true:=Fp;have c9:h9.cells=[h9]:=Fq;rw[kV]at hev hfl;simp only[dG,yAT,yAQ,yAp,Nat.reduceAdd,yBW,yAi,yAR,yAO]at hfl;unfold PD.plain at p9;have kU:σ[B]?=some (.box (.agg [.str nm,hR,.aR iD 0 0 ds.length 5,hC])):=by rw[<-hDr,hZ];exact v0
   have u0:(σ++[aB.box (Em.div.aA z)])[B]?=some (.box (.agg [.str nm,hR,.aR iD 0 0 ds.length 5,hC])):=cE kU;have u7:qN[iD]?=some (.row 53 5 0 fs):=by rw[tU _ Ah];exact cE v2
   obtain⟨r7,y7⟩:=yA.1 u7;obtain⟨w0,z0⟩:=yA.1 u0;obtain⟨_,tT⟩:=yA.1 kU;have j0:∀x:aB,(σ++[x])[σ.length]?=some x:=λx=>Ai
   have hK:=o6 (B:=[B]) h5 hev (by rw[hll];exact HS) (λid h h3=>tU id (by rw[hll]at h3;exact h3));obtain⟨zn,zp,za,zb,zs⟩:=z;simp only[lX,aW]at hat hK u0 w0 z0 hll;rw[hDr];refine aC zq ?_;refine Wp.CL h5 ES Ai [(1,B),(6,σ.length)] [B] [some B] Ao ⟨⟨_,rfl⟩,⟨_,rfl⟩,trivial⟩ Aj Ch ?_;refine kH Ab ?_;apply SQ.nil;refine aC q1 ?_;have E7:∀id,id<σ.length->qN[id]?=σ[id]?:=λid h=>by rw[tU id Ah,yAg h]
   obtain⟨cY,eI⟩:=gn (qN.set iD (.row 53 5 0 KL));have jI:∀id,id≠iD->cY[id]?=qN[id]?:=λid h=>Bt
   have KV:cY[iD]?=some (.row 53 5 0 n7.flatten):=by rw[<-eI,aEs];exact yAj r7
   have KW:n7.length=ds.length:=by rw[<-n8,yAD,hgl]
   have KX:∀g∈n7,g.length=5:=λg h=>by
    exact jz
   have hlt:∀(id:Nat) (o:aB),σ[id]?=some o->id<σ.length:=λid o h=>(yA.1 h).1
   have PU:L0<=cY.length:=Dh;have hke:∀(id:Nat) (x:aB),(0<ds.length->id≠iD)->S0[id]?=some x->cY[id]?=some x:=λid x h1 h2=>by
    have h3:=hkeep id x h1 h2;rw[jI id (h1 Ah),E7 id (hlt _ _ h3)];exact h3
   have hdn:∀s (h:s<ds.length),s<i+1->n7[s]?=some [.str ds[s].name,.bool ds[s].eE,.int .i64 ds[s].low,.int .i64 ds[s].high,Go.Kz.hd 4 (if s=i then iS else tS s) ds[s].stops.length]/\mD cY L0 ds[s] (.agg [.str ds[s].name,.bool ds[s].eE,.int .i64 ds[s].low,.int .i64 ds[s].high,Go.Kz.hd 4 (if s=i then iS else tS s) ds[s].stops.length]) (if s=i then iS else tS s) (if s=i then zss else tss s) (if s=i then zG else tG s) (if s=i then zgs else tgs s) (if s=i then zW else tW s):=λs h h2=>by
    exact dy
   have aOb:∀d d' (h:d<ds.length) (h':d'<ds.length),d<i+1->d'<i+1->0<ds[d].stops.length->0<ds[d'].stops.length->(if d=i then iS else tS d)=(if d'=i then iS else tS d')->d=d':=λd d' h h' b1 b2 p1 p2 e=>by
    by_cases e1:d=i
    .by_cases e2:d'=i
     .rw[e1,e2]
     .rw[yAJ e1,yAI e2]at e;have h1:=hlt _ _ ((hdone d' h' Ah).2.row p2).2;subst e1;simp only[hz]at p1;have h2:=(hst.row p1).1;omega
    .by_cases e2:d'=i
     .rw[yAI e1,yAJ e2]at e;have h1:=hlt _ _ ((hdone d h Ah).2.row p1).2;subst e2;simp only[hz]at p2;have h2:=(hst.row p2).1;omega
     .rw[yAI e1,yAI e2]at e;exact hiS d d' h h' Ah Ah p1 p2 e
   have aOc:∀d d' s s' g g' (h:d<ds.length) (h':d'<ds.length) (k:s<ds[d].stops.length) (k':s'<ds[d'].stops.length) (l:g<ds[d].stops[s].aU.length) (l':g'<ds[d'].stops[s'].aU.length),d<i+1->d'<i+1->0<ds[d].stops[s].aU[g].aX.length->0<ds[d'].stops[s'].aU[g'].aX.length->(if d=i then zW else tW d) s g=(if d'=i then zW else tW d') s' g'->d=d'/\s=s'/\g=g':=λd d' s s' g g' h h' k k' l l' b1 b2 p1 p2 e=>by
    by_cases e1:d=i
    .by_cases e2:d'=i
     .subst e1;subst e2;simp only[yAL]at e;simp only[hz]at k k' l l' p1 p2;exact⟨rfl,hst.inj s s' g g' k k' l l' p1 p2 e⟩
     .rw[yAJ e1,yAI e2]at e;have h1:=hlt _ _ (((((hdone d' h' Ah).2.at_ s' k').2.at_ g' l').2) p2).2;subst e1;simp only[hz]at k l p1;have h2:=((((hst.at_ s k).2.at_ g l).2) p1).1;omega
    .by_cases e2:d'=i
     .rw[yAI e1,yAJ e2]at e;have h1:=hlt _ _ (((((hdone d h Ah).2.at_ s k).2.at_ g l).2) p1).2;subst e2;simp only[hz]at k' l' p2;have h2:=((((hst.at_ s' k').2.at_ g' l').2) p2).1;omega
     .rw[yAI e1,yAI e2]at e;exact hiW d d' s s' g g' h h' k k' l l' Ah Ah p1 p2 e
   refine bV.normal (m-1) Ah (by refine⟨i+1,n7,(λs=>if s=i then iS else tS s),(λs=>if s=i then zss else tss s),(λs=>if s=i then zG else tG s),(λs=>if s=i then zgs else tgs s),(λs=>if s=i then zW else tW s),cY,?_⟩;exact eS (⟨Ah,KW,KX,hke,λ_=>KV,PU,λg h h2=>by rw[<-n8,yAd Ah];exact hrest g h Ah,hdn,aOb,aOc⟩) @eI)
  .have q1:¬(i:Int)<(ds.length:Int):=by omega
   have kU:=v0;have v1':=v1;rw[<-hZ]at kU;rw[<-hY]at v1';obtain⟨_,tT⟩:=yA.1 kU;obtain⟨_,KY⟩:=yA.1 v1';refine aC (A10 q1 kU r0 tT v1' r1 KY pR pD pC) ?_;obtain⟨cY,eI⟩:=gn (σ.set (B+1) (.box (.agg [.str nm,hR,hD,hC])));rw[eI];have jI:∀id,id≠B+1->cY[id]?=σ[id]?:=λid h=>Bt
   have z1:cY[B+1]?=some (.box (.agg [.str nm,hR,hD,hC])):=Ft;refine⟨.agg [.str nm,hR,hD,hC],cY,by simp[cI,z1],⟨B+2,iD,iC,gs,tS,tss,tG,tgs,tW,?_⟩,Dh,λid h=>by rw[jI id Ah,<-sT id h];exact(by
    have h1:id<S0.length:=Ah;rw[hkeep id _ (λ_=>Ah) (yAh h1),yAh h1])⟩
   refine⟨by rw[hhR,hhD,hhC],λh=>⟨Ah,?_⟩,λh=>⟨Ah,?_⟩,hgl,λh=>⟨Ah,?_⟩,λs (h:s<ds.length)=>?_,λd d' (h:d<ds.length) (h':d'<ds.length)=>hiS d d' h h' Ah Ah,λd d' s s' g g' (h:d<ds.length) (h':d'<ds.length) k k' l l'=>hiW d d' s s' g g' h h' k k' l l' Ah Ah⟩
   .show cY[B+2]?=some (.row 48 6 0 ((rs.map Em.aG.aA).flatMap PD.cells))
    have h1:=sR h;rw[jI _ Ah,aEr];exact zg
   .show cY[iC]?=some (.row 58 5 0 ((cs.map Em.aK.aA).flatMap PD.cells))
    have h1:=sC h;rw[jI _ Ah];exact zg
   .show cY[iD]?=some (.row 53 5 0 gs.flatten)
    rw[jI _ Ah];exact hrow h
   .exact mh
end
end Go.Kz
