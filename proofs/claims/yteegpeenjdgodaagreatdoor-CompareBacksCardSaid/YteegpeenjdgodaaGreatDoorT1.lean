/- Steps of the proof. -/
import Derived.Test.YteegpeenjdgodaaGreatDoorS9
import Derived.Test.YteegpeenjdgodaaGreatDoorS3
set_option linter.all false
set_option maxHeartbeats 40000000
set_option maxRecDepth 100000
open Go.Proofs.Tryz
namespace Go.Kz
open Go Go.Proofs
section
def jD(l:List dQ):List PD:=(l.map λw=>[PD.int .i64 w.aN,.int .i64 w.shift]).flatten
theorem aEQ(R:List dQ):(R.map Em.draw.aB).flatMap PD.cells=jD R:=by
 unfold jD
 induction R with
 |nil=>rfl
 |cons r R ih=>simp only[yAV,yBx,yBD,ih];rfl
theorem aOq(R:List jE):(R.map Em.fB.aB).flatMap PD.cells=(R.map λr=>[PD.int .i64 r.lo,.int .i64 r.hi,gK.aB r.aR]).flatten:=by
 induction R with
 |nil=>rfl
 |cons r R ih=>simp only[yAV,yBx,yBD,ih];rfl
def DS(σ:List aA)(lo:Nat)(ds:List dQ)(id:Nat):Prop:=0<ds.length->lo<=id/\σ[id]?=some (.row 89 2 0 (jD ds))
structure rO (σ:List aA) (lo:Nat) (s:cO) (p:PD) (iG:Nat) (gs:List (List PD)) (iW:Nat->Nat):Prop where
 p:p=.agg [.str s.name,.int .i64 s.num,.int .i64 s.den,hd 3 iG s.aO.length]
 len:gs.length=s.aO.length
 row:0<s.aO.length->lo<=iG/\σ[iG]?=some (.row 92 3 0 gs.flatten)
 at_:∀g (h:g<s.aO.length),gs[g]?=some [.int .i64 s.aO[g].lo,.int .i64 s.aO[g].hi,hd 2 (iW g) s.aO[g].aR.length]/\DS σ lo s.aO[g].aR (iW g)
 inj:∀g g' (h:g<s.aO.length) (h':g'<s.aO.length),0<s.aO[g].aR.length->0<s.aO[g'].aR.length->iW g=iW g'->g=g'
theorem fN(k id n:Nat):(hd k id n).plain=true:=by unfold hd;split<;>rfl
theorem kY(k id n:Nat):(hd k id n).cells=[hd k id n]:=by unfold hd;split<;>rfl
theorem RH{e:TypeId}{k:Nat}{xs:Jk}(σ:List aA)(h:0<xs.length):(σ++newRow e k xs)[σ.length]?=some (.row e k 0 (xs.flatMap PD.cells)):=by
 unfold newRow;rw[yAI Cd];exact yAB
variable{E:aE}(hU:aJ E)
include hU
theorem X5(h0:E 86=none)(h1:E 118=some (jA 92 3))(h2:E 119=some (jA 89 2))(s:cO)(hs:jT s)(τ:List aA) :
  aK prog E 0 (.inl 86) [Em.stop.aB s] τ (λp σ'=>(∃iG gs iW,rO σ' τ.length s p iG gs iW)/\τ.length<=σ'.length/\∀id,id<τ.length->σ'[id]?=τ[id]?):=by
 clear hU;obtain⟨nm,a,b,l⟩:=s;obtain⟨hl,hld⟩:=hs;simp only at hl hld;have hC:=I5 (em:=Em.fB) (e:=92) (k:=3) l hl;simp only[pZ,bC]at hC ⊢
 by_cases hl0:l=[]
 .subst hl0;have e0:newRow 92 3 (([]:List jE).map Em.fB.aB)=[]:=rfl;have e1:∀id,hd 3 id ([]:List jE).length=.slice 0 [] .full:=λ_=>rfl
  simp only[e0,e1,yAl]at hC;refine aK.aG 27 h0 func86 (h:=?_);refine aC (A2 h1 hC) ?_;refine Wp.loop ?_;refine aC trivial ?_;obtain⟨X,hX⟩:=gn (aA.box (.agg [.str nm,.int .i64 a,.int .i64 b,.slice 0 [] .full]));refine⟨.agg [.str nm,.int .i64 a,.int .i64 b,.slice 0 [] .full],τ++[X,X],?_,⟨0,[],λ_=>0,⟨rfl,rfl,λh=>absurd h (yCG 0),λg h=>absurd h (yAZ g),λg g' h=>absurd h (yAZ g)⟩⟩,Ce,λid h=>yAg h⟩;rw[<-hX];simp[bV]
 have hp:0<l.length:=yCl.2 hl0;have e1:∀id,hd 3 id l.length=.aP id 0 0 l.length 3:=λid=>by unfold hd;rw[yAI Cd]
 have e2:newRow 92 3 (l.map Em.fB.aB)=[.row 92 3 0 ((l.map λr=>[PD.int .i64 r.lo,.int .i64 r.hi,gK.aB r.aR]).flatten)]:=by
  unfold newRow;rw[yAI Dk,aOq]
 simp only[e1,e2]at hC;obtain⟨g0,qJ⟩:=gn ((l.map λr=>[PD.int .i64 r.lo,.int .i64 r.hi,gK.aB r.aR]));rw[qJ]at hC;obtain⟨c0,hc0⟩:=gn (g0.flatten);rw[hc0]at hC;rw[tL hl0]at hC ⊢;obtain⟨xs,hxs⟩:=gn (l.map Em.fB.aB);rw[hxs]at hC ⊢;refine aK.aG 27 h0 func86 (h:=?_);refine aC (A2 h1 hC) ?_;obtain⟨B,hB⟩:=gn (τ.length);rw[hB];have MG:∀g (h:g<l.length),g0[g]?=some [.int .i64 l[g].lo,.int .i64 l[g].hi,gK.aB l[g].aR]:=λg h=>by
  subst qJ;rw[yAo,yAh h];rfl
 have MH:g0.length=l.length:=by rw[<-qJ,yAe]
 have MI:∀g∈g0,g.length=3:=λg h=>by
  rw[<-qJ]at h;exact qt
 obtain⟨X,hX⟩:=gn (aA.box (.agg [.str nm,.int .i64 a,.int .i64 b,.aP (B+2) 0 0 l.length 3]));obtain⟨Y,hY⟩:=gn (aA.box (.agg [.str [],.int .i64 0,.int .i64 0,.slice 0 [] .full]));refine Wp.dW (λm fr σ=>∃(i:Nat) (gs:List (List PD)) (iW:Nat->Nat) (σ1:List aA),∃gg:Nat->PD,(i+m=l.length/\gs.length=l.length/\(∀g∈gs,g.length=3)/\σ1[B]?=some X/\σ1[B+1]?=some Y/\σ1[B+2]?=some (.row 92 3 0 gs.flatten)/\(∀id,id<B->σ1[id]?=τ[id]?)/\(∀g (h:g<l.length),i<=g->gs[g]?=some [.int .i64 l[g].lo,.int .i64 l[g].hi,gK.aB l[g].aR])/\(∀g (h:g<l.length),g<i->gs[g]?=some [.int .i64 l[g].lo,.int .i64 l[g].hi,hd 2 (iW g) l[g].aR.length]/\(0<l[g].aR.length->B+2<iW g/\iW g<σ1.length/\σ1[iW g]?=some (.row 89 2 0 (jD l[g].aR))))/\(∀g g' (h:g<l.length) (h':g'<l.length),g<i->g'<i->0<l[g].aR.length->0<l[g'].aR.length->iW g=iW g'->g=g'))/\fr=[gg 0,.ptr B 0,.ptr (B+1) 0,gg 3,gg 4,gg 5,gg 6,gg 7,gg 8,gg 9,.aP (B+2) 0 0 l.length 3,.int .i64 l.length,.int .i64 i,gg 13,gg 14,gg 15,gg 16,gg 17,gg 18,gg 19,gg 20,gg 21,gg 22,gg 23,gg 24,gg 25,gg 26]/\σ=σ1) ?_ (l.length) (by refine⟨0,g0,(λ_=>0),(τ++[X,Y,.row 92 3 0 c0]),?_⟩;exact fU (⟨Cd,MH,MI,En,En,by rw[<-hB,hc0];simp,λid h=>by rw[yAg Cd],λg h _=>MG g h,λg h h2=>absurd h2 (yAZ g),λg g' h h' h2=>absurd h2 (yAZ g)⟩) (A3 hX hY hB))
 rintro m fr σ ⟨i,gs,iW,σ1,gg,hI,rfl,rfl⟩
 obtain⟨hm,hgl,gP,v0,v1,v2,hkeep,hrest,hdone,hinj⟩:=hI;have hlen:=lA (sz:=3) gs gP;obtain⟨r0,y0⟩:=yA.1 v0;obtain⟨r1,y1⟩:=yA.1 v1;obtain⟨r2,y2⟩:=yA.1 v2
 by_cases hi:i<l.length
 .have q1:(i:Int)<(l.length:Int):=by omega
  obtain⟨z,hz⟩:=gn (l[i]);have hzd:z.aR.length<=1000000:=hld z (hz▸yAm hi);have hgi:=hrest i hi (yAk _);have hat:=qX (sz:=3) gs i Cd gP;have D0:gs[i]' Cd=[.int .i64 l[i].lo,.int .i64 l[i].hi,gK.aB l[i].aR]:=(yA.1 hgi).2;rw[D0,hz]at hat;have hfl:=w8 (sz:=3) (new:=[hd 2 (σ.length+1) z.aR.length]) (j:=2) Ce gs i Cd gP;rw[D0,hz]at hfl;obtain⟨zl,zh,zd⟩:=z;simp only[bC]at hat hfl hzd;have hset:dL [PD.int .i64 zl,.int .i64 zh,.slice (sz 2 zd) (zd.map Em.draw.aB) .any] 2 [hd 2 (σ.length+1) zd.length]=[.int .i64 zl,.int .i64 zh,hd 2 (σ.length+1) zd.length]:=rfl;rw[hset]at hfl;obtain⟨o9,pA⟩:=gn (gs.set i [PD.int .i64 zl,.int .i64 zh,hd 2 (σ.length+1) zd.length]);rw[pA]at hfl;obtain⟨cs,hcs⟩:=gn (gs.flatten);rw[hcs]at v2 hlen hat hfl y2;obtain⟨HZ,MO⟩:=gn (o9.flatten);rw[MO]at hfl;have fJ:i*3+3<=cs.length:=Cd;have gl2:i*3+2+1<=cs.length:=Cd;have gl3:i*3+2<cs.length:=Cd;have xk:jH prog 54 (.aP (B+2) 0 0 l.length 3) (.int .i64 i)=some (.dM (B+2) 0 (i*3)):=by
   simp[jV,hi]
  have hD:=I5 (em:=Em.draw) (e:=89) (k:=2) zd hzd;simp only[bC]at hD;obtain⟨h9,j2⟩:=gn (hd 2 (σ.length+1) zd.length);have GG:=λfl=>hD fl (σ++[aA.box (.agg [.int .i64 zl,.int .i64 zh,.slice (sz 2 zd) (zd.map Em.draw.aB) .any])])
  have hll:(σ++[aA.box (.agg [.int .i64 zl,.int .i64 zh,.slice (sz 2 zd) (zd.map Em.draw.aB) .any])]).length=σ.length+1:=Ce;simp only[hll,j2]at GG;have hN1:=MC (fl:=0) h2 GG;rw[j2]at hfl;have p9:h9.plain=true:=Iq;have c9:h9.cells=[h9]:=Ir;unfold PD.plain at p9;unfold PD.cells at c9;simp only[dL,yAT,yAO,yAp,Nat.reduceAdd,yBW,yAi,yBt,yAW]at hfl;obtain⟨mW,GH⟩:=gn (σ++[aA.box (.agg [.int .i64 zl,.int .i64 zh,.slice (sz 2 zd) (zd.map Em.draw.aB) .any])]++newRow 89 2 (zd.map Em.draw.aB));rw[GH]at hN1;have mA:=v0;rw[<-hX]at mA;have u0:(σ++[aA.box (.agg [.int .i64 zl,.int .i64 zh,.slice (sz 2 zd) (zd.map Em.draw.aB) .any])])[B]?=some (.box (.agg [.str nm,.int .i64 a,.int .i64 b,.aP (B+2) 0 0 l.length 3])):=bR mA;have u7:mW[B+2]?=some (.row 92 3 0 cs):=by rw[<-GH];exact bR (bR v2)
  obtain⟨r7,y7⟩:=yA.1 u7;obtain⟨w0,z0⟩:=yA.1 u0;obtain⟨_,vR⟩:=yA.1 mA;have j0:∀x:aA,(σ++[x])[σ.length]?=some x:=λx=>Ce
  refine aC Bk ?_;refine Wp.YV Cj ?_;refine oQ (A17 u0 w0 @z0 r0 vR j0 hN1 xk hi p9 c9 u7 r7 y7 gl2 gl3 hfl) ?_;apply SQ.nil;refine aC q1 ?_;have CC:σ.length+1<=mW.length:=by rw[<-GH,yAa,yAa];simp
  have q9:∀(id:Nat) (o:aA),σ[id]?=some o->mW[id]?=some o:=λid o h=>by rw[<-GH];exact bR (bR h)
  obtain⟨cH,dH⟩:=gn (mW.set (B+2) (.row 92 3 0 HZ));have iJ:∀id,id≠B+2->cH[id]?=mW[id]?:=λid h=>Dh
  have RI:cH.length=mW.length:=by rw[<-dH,yAD]
  have MJ:cH[B+2]?=some (.row 92 3 0 o9.flatten):=by rw[<-dH,MO];exact yAj r7
  have MK:o9.length=l.length:=by rw[<-pA,yAD,hgl]
  have ML:∀g∈o9,g.length=3:=λg h=>by
   exact mj
  have hdn:∀g (h:g<l.length),g<i+1->o9[g]?=some [.int .i64 l[g].lo,.int .i64 l[g].hi,hd 2 (if g=i then σ.length+1 else iW g) l[g].aR.length]/\(0<l[g].aR.length->B+2<(if g=i then σ.length+1 else iW g)/\(if g=i then σ.length+1 else iW g)<cH.length/\cH[if g=i then σ.length+1 else iW g]?=some (.row 89 2 0 (jD l[g].aR))):=λg h h2=>by
   by_cases e:g=i
   .subst e;simp only[yAK,hz];refine⟨?_,λjY=>⟨Cd,?_,?_⟩⟩
    .rw[<-pA,yAj Cd,j2]
    .rw[RI,<-GH,yAa,hll];unfold newRow;rw[yAI Dk];simp
    .rw[iJ _ Cd,<-GH,<-hll,RH _ (by rw[yAe];exact jY),aEQ]
   .rw[yAI e];obtain⟨d1,d2⟩:=hdone g h Cd;refine⟨?_,λjY=>?_⟩
    .rw[<-pA,yAd (yAU e)];exact d1
    .obtain⟨k1,k2,k3⟩:=d2 jY;exact⟨k1,by rw[RI];omega,by rw[iJ _ Cd];exact q9 _ _ k3⟩
  have hin:∀g g' (h:g<l.length) (h':g'<l.length),g<i+1->g'<i+1->0<l[g].aR.length->0<l[g'].aR.length->(if g=i then σ.length+1 else iW g)=(if g'=i then σ.length+1 else iW g')->g=g':=λg g' h h' b1 b2 p1 p2 e=>by
   by_cases e1:g=i
   .by_cases e2:g'=i
    .rw[e1,e2]
    .rw[yAJ e1,yAI e2]at e;have:=((hdone g' h' Cd).2 p2).2.1;omega
   .by_cases e2:g'=i
    .rw[yAI e1,yAJ e2]at e;have:=((hdone g h Cd).2 p1).2.1;omega
    .rw[yAI e1,yAI e2]at e;exact hinj g g' h h' Cd Cd p1 p2 e
  refine bU.normal (m-1) Cd (by refine⟨i+1,o9,(λg=>if g=i then σ.length+1 else iW g),cH,?_⟩;exact fU (⟨Cd,MK,ML,by rw[iJ B Cd];exact q9 _ _ v0,by rw[iJ (B+1) Cd];exact q9 _ _ v1,MJ,λid h=>by rw[iJ id Cd,<-GH,yAg Co,yAg Cd];exact hkeep id h,λg h h2=>by rw[<-pA,yAd Cd];exact hrest g h Cd,hdn,hin⟩) @dH)
 .have q1:¬(i:Int)<(l.length:Int):=by omega
  have mA:=v0;have v1':=v1;rw[<-hX]at mA;rw[<-hY]at v1';obtain⟨_,vR⟩:=yA.1 mA;obtain⟨_,MM⟩:=yA.1 v1';refine aC (A7 q1 mA r0 vR v1' r1 MM) ?_;obtain⟨cH,dH⟩:=gn (σ.set (B+1) (.box (.agg [.str nm,.int .i64 a,.int .i64 b,.aP (B+2) 0 0 l.length 3])));rw[dH];have iJ:∀id,id≠B+1->cH[id]?=σ[id]?:=λid h=>Dh
  have z1:cH[B+1]?=some (.box (.agg [.str nm,.int .i64 a,.int .i64 b,.aP (B+2) 0 0 l.length 3])):=Iw;refine⟨.agg [.str nm,.int .i64 a,.int .i64 b,.aP (B+2) 0 0 l.length 3],cH,by simp[bV,z1],⟨B+2,gs,iW,?_⟩,Eu,λid h=>by rw[iJ id Cd];exact hkeep id h⟩;refine⟨by rw[e1],hgl,λ_=>⟨Cd,by rw[iJ _ Cd];exact v2⟩,λg (h:g<l.length)=>?_,λg g' (h:g<l.length) (h':g'<l.length)=>hinj g g' h h' Cd Cd⟩;obtain⟨d1,d2⟩:=hdone g h Cd;exact⟨d1,λjY=>by obtain⟨k1,k2,k3⟩:=d2 jY;exact⟨Cd,by rw[iJ _ Cd];exact k3⟩⟩
end
section
structure mU (σ:List aA) (lo:Nat) (d:bO) (p:PD) (iS:Nat) (ss:List (List PD)) (tG:Nat->Nat) (tgs:Nat->List (List PD)) (tW:Nat->Nat->Nat):Prop where
 p:p=.agg [.str d.name,.bool d.dV,.int .i64 d.low,.int .i64 d.high,hd 4 iS d.stops.length]
 len:ss.length=d.stops.length
 row:0<d.stops.length->lo<=iS/\σ[iS]?=some (.row 56 4 0 ss.flatten)
 at_:∀s (h:s<d.stops.length),ss[s]?=some [.str d.stops[s].name,.int .i64 d.stops[s].num,.int .i64 d.stops[s].den,hd 3 (tG s) d.stops[s].aO.length] /\
  rO σ lo d.stops[s] (.agg [.str d.stops[s].name,.int .i64 d.stops[s].num,.int .i64 d.stops[s].den,hd 3 (tG s) d.stops[s].aO.length]) (tG s) (tgs s) (tW s)
 inj:∀s s' g g' (h:s<d.stops.length) (h':s'<d.stops.length) (k:g<d.stops[s].aO.length) (k':g'<d.stops[s'].aO.length),0<d.stops[s].aO[g].aR.length->0<d.stops[s'].aO[g'].aR.length->tW s g=tW s' g'->s=s'/\g=g'
theorem rO.aM{σ σ':Jj}{lo lo':Nat}{s:cO}{p:PD}{iG:Nat}{gs:Jh}{iW:Nat->Nat}(h:rO σ lo s p iG gs iW)(hl:lo'<=lo)(hk:∀(id:Nat) (o:aA),lo<=id->σ[id]?=some o->σ'[id]?=some o):rO σ' lo' s p iG gs iW:=by
 obtain⟨h1,h2,h3,h4,h5⟩:=h;exact⟨h1,h2,λhp=>⟨yAQ hl (h3 hp).1,hk _ _ (h3 hp).1 (h3 hp).2⟩,λg h=>⟨(h4 g h).1,λhp=>⟨yAQ hl ((h4 g h).2 hp).1,hk _ _ ((h4 g h).2 hp).1 ((h4 g h).2 hp).2⟩⟩,h5⟩
variable{E E0:aE}(hU:aJ E)
include hU
theorem aEw(h0:E 77=none)(h1:E 110=some (jA 56 4))(h2:E 86=some (dO prog E0 86))
  (hcs:∀(s:cO) (hs:jT s) (τ:List aA),aK prog E0 0 (.inl 86) [Em.stop.aB s] τ (λp σ'=>(∃iG gs iW,rO σ' τ.length s p iG gs iW)/\τ.length<=σ'.length/\∀id,id<τ.length->σ'[id]?=τ[id]?)) (d:bO) (hd:gV d) (τ:List aA) :
  aK prog E 0 (.inl 77) [Em.div.aB d] τ (λp σ'=>(∃iS ss tG tgs tW,mU σ' τ.length d p iS ss tG tgs tW)/\τ.length<=σ'.length/\∀id,id<τ.length->σ'[id]?=τ[id]?):=by
 clear hU;obtain⟨nm,pe,a,b,l⟩:=d;obtain⟨hl,hld⟩:=hd;simp only at hl hld;have hC:=I5 (em:=Em.stop) (e:=56) (k:=4) l hl;simp only[nJ,bC]at hC ⊢
 by_cases hl0:l=[]
 .subst hl0;have e0:newRow 56 4 (([]:List cO).map Em.stop.aB)=[]:=rfl;have e1:∀id,Go.Kz.hd 4 id ([]:List cO).length=.slice 0 [] .full:=λ_=>rfl
  simp only[e0,e1,yAl]at hC;refine aK.aG 25 h0 func77 (h:=?_);refine aC (A2 h1 hC) ?_;refine Wp.loop ?_;refine aC trivial ?_;obtain⟨X,hX⟩:=gn (aA.box (.agg [.str nm,.bool pe,.int .i64 a,.int .i64 b,.slice 0 [] .full]));refine⟨.agg [.str nm,.bool pe,.int .i64 a,.int .i64 b,.slice 0 [] .full],τ++[X,X],?_,⟨0,[],λ_=>0,λ_=>[],λ_ _=>0,⟨rfl,rfl,λh=>absurd h (yCG 0),λg h=>absurd h (yAZ g),λs s' g g' h=>absurd h (yAZ s)⟩⟩,Ce,λid h=>yAg h⟩;rw[<-hX];simp[bV]
 have hp:0<l.length:=yCl.2 hl0;have e1:∀id,Go.Kz.hd 4 id l.length=.aP id 0 0 l.length 4:=λid=>by unfold Go.Kz.hd;rw[yAI Cd]
 have e2:newRow 56 4 (l.map Em.stop.aB)=[.row 56 4 0 ((l.map λr=>[PD.str r.name,.int .i64 r.num,.int .i64 r.den,oP.aB r.aO]).flatten)]:=by
  unfold newRow;rw[yAI Dk,aOo]
 simp only[e1,e2]at hC;obtain⟨g0,qJ⟩:=gn ((l.map λr=>[PD.str r.name,.int .i64 r.num,.int .i64 r.den,oP.aB r.aO]));rw[qJ]at hC;obtain⟨c0,hc0⟩:=gn (g0.flatten);rw[hc0]at hC;rw[tL hl0]at hC ⊢;obtain⟨xs,hxs⟩:=gn (l.map Em.stop.aB);rw[hxs]at hC ⊢;refine aK.aG 25 h0 func77 (h:=?_);refine aC (A2 h1 hC) ?_;obtain⟨B,hB⟩:=gn (τ.length);rw[hB];have MG:∀g (h:g<l.length),g0[g]?=some [.str l[g].name,.int .i64 l[g].num,.int .i64 l[g].den,oP.aB l[g].aO]:=λg h=>by
  subst qJ;rw[yAo,yAh h];rfl
 have MH:g0.length=l.length:=by rw[<-qJ,yAe]
 have MI:∀g∈g0,g.length=4:=λg h=>by
  rw[<-qJ]at h;exact qt
 obtain⟨X,hX⟩:=gn (aA.box (.agg [.str nm,.bool pe,.int .i64 a,.int .i64 b,.aP (B+2) 0 0 l.length 4]));obtain⟨Y,hY⟩:=gn (aA.box (.agg [.str [],.bool false,.int .i64 0,.int .i64 0,.slice 0 [] .full]));refine Wp.dW (λm fr σ=>∃(i:Nat) (gs:List (List PD)) (tG:Nat->Nat) (tgs:Nat->List (List PD)) (tW:Nat->Nat->Nat) (σ1:List aA),∃gg:Nat->PD,(i+m=l.length/\gs.length=l.length/\(∀g∈gs,g.length=4)/\σ1[B]?=some X/\σ1[B+1]?=some Y/\σ1[B+2]?=some (.row 56 4 0 gs.flatten)/\(∀id,id<B->σ1[id]?=τ[id]?)/\(∀g (h:g<l.length),i<=g->gs[g]?=some [.str l[g].name,.int .i64 l[g].num,.int .i64 l[g].den,oP.aB l[g].aO])/\(∀s (h:s<l.length),s<i->gs[s]?=some [.str l[s].name,.int .i64 l[s].num,.int .i64 l[s].den,Go.Kz.hd 3 (tG s) l[s].aO.length]/\rO σ1 (B+3) l[s] (.agg [.str l[s].name,.int .i64 l[s].num,.int .i64 l[s].den,Go.Kz.hd 3 (tG s) l[s].aO.length]) (tG s) (tgs s) (tW s))/\(∀s s' g g' (h:s<l.length) (h':s'<l.length) (k:g<l[s].aO.length) (k':g'<l[s'].aO.length),s<i->s'<i->0<l[s].aO[g].aR.length->0<l[s'].aO[g'].aR.length->tW s g=tW s' g'->s=s'/\g=g'))/\fr=[gg 0,.ptr B 0,.ptr (B+1) 0,gg 3,gg 4,gg 5,gg 6,gg 7,gg 8,gg 9,.aP (B+2) 0 0 l.length 4,.int .i64 l.length,.int .i64 i,gg 13,gg 14,gg 15,gg 16,gg 17,gg 18,gg 19,gg 20,gg 21,gg 22,gg 23,gg 24]/\σ=σ1) ?_ (l.length) (by refine⟨0,g0,(λ_=>0),(λ_=>[]),(λ_ _=>0),(τ++[X,Y,.row 56 4 0 c0]),?_⟩;exact fU (⟨Cd,MH,MI,En,En,by rw[<-hB,hc0];simp,λid h=>by rw[yAg Cd],λg h _=>MG g h,λg h h2=>absurd h2 (yAZ g),λs s' g g' h h' k k' h2=>absurd h2 (yAZ s)⟩) (A3 hX hY hB))
 rintro m fr σ ⟨i,gs,tG,tgs,tW,σ1,gg,hI,rfl,rfl⟩
 obtain⟨hm,hgl,gP,v0,v1,v2,hkeep,hrest,hdone,hinj⟩:=hI;have hlen:=lA (sz:=4) gs gP;obtain⟨r0,y0⟩:=yA.1 v0;obtain⟨r1,y1⟩:=yA.1 v1;obtain⟨r2,y2⟩:=yA.1 v2
 by_cases hi:i<l.length
 .have q1:(i:Int)<(l.length:Int):=by omega
  have hzo:=hld _ (yAm hi);have hgi:=hrest i hi (yAk _);have hat:=qX (sz:=4) gs i Cd gP;have D0:gs[i]' Cd=[.str l[i].name,.int .i64 l[i].num,.int .i64 l[i].den,oP.aB l[i].aO]:=(yA.1 hgi).2;obtain⟨z,hz⟩:=gn (l[i]);rw[D0,hz]at hat;rw[hz]at hzo;have hW:=hcs z hzo (σ++[aA.box (Em.stop.aB z)]);have hll:(σ++[aA.box (Em.stop.aB z)]).length=σ.length+1:=Ce;obtain⟨pz,mW,hev,⟨iG,zgs,iW,hst⟩,CC,q9⟩:=hW.e0 Ce;rw[hll]at hst CC q9;have hpz:=hst.p;subst hpz;have hfl:=w8 (sz:=4) (new:=[.str z.name,.int .i64 z.num,.int .i64 z.den,Go.Kz.hd 3 iG z.aO.length]) (j:=0) Ce gs i Cd gP;rw[D0,hz]at hfl;have hset:dL [PD.str z.name,.int .i64 z.num,.int .i64 z.den,oP.aB z.aO] 0 [.str z.name,.int .i64 z.num,.int .i64 z.den,Go.Kz.hd 3 iG z.aO.length]=[.str z.name,.int .i64 z.num,.int .i64 z.den,Go.Kz.hd 3 iG z.aO.length]:=rfl;rw[hset,yBk]at hfl;obtain⟨o9,pA⟩:=gn (gs.set i [PD.str z.name,.int .i64 z.num,.int .i64 z.den,Go.Kz.hd 3 iG z.aO.length]);rw[pA]at hfl;obtain⟨cs,aOp⟩:=gn (gs.flatten);rw[aOp]at v2 hlen hat hfl y2;obtain⟨HZ,MO⟩:=gn (o9.flatten);rw[MO]at hfl;have fJ:i*4+4<=cs.length:=Cd;have xk:jH prog 51 (.aP (B+2) 0 0 l.length 4) (.int .i64 i)=some (.dM (B+2) 0 (i*4)):=by
   simp[jV,hi]
  obtain⟨h9,j2⟩:=gn (Go.Kz.hd 3 iG z.aO.length);have p9:h9.plain=true:=Iq;have c9:h9.cells=[h9]:=Ir;rw[j2]at hev hfl;simp only[dL,yAT,yAO,yAp,Nat.reduceAdd,yBW,yAi,yBt,yAW]at hfl;unfold PD.plain at p9;have mA:=v0;rw[<-hX]at mA;have u0:(σ++[aA.box (Em.stop.aB z)])[B]?=some (.box (.agg [.str nm,.bool pe,.int .i64 a,.int .i64 b,.aP (B+2) 0 0 l.length 4])):=bR mA;have u7:mW[B+2]?=some (.row 56 4 0 cs):=by rw[q9 _ Cd];exact bR v2
  obtain⟨r7,y7⟩:=yA.1 u7;obtain⟨w0,z0⟩:=yA.1 u0;obtain⟨_,vR⟩:=yA.1 mA;have j0:∀x:aA,(σ++[x])[σ.length]?=some x:=λx=>Ce
  have hK:=pP (B:=[B]) h2 hev (by rw[hll];exact CC) (λid h h3=>q9 id (by rw[hll]at h3;exact h3));obtain⟨zn,za,zb,zs⟩:=z;simp only[pZ,bC]at hat hK u0 w0 z0 hll;refine aC Bk ?_;refine Wp.DT h2 DR Ce [(1,B),(4,σ.length)] [B] [some B] Cj ⟨⟨_,rfl⟩,⟨_,rfl⟩,trivial⟩ Cf Ek ?_;refine oQ Bs ?_;apply SQ.nil;refine aC q1 ?_;have yF:∀id,id<σ.length->mW[id]?=σ[id]?:=λid h=>by rw[q9 id Cd,yAg h]
  obtain⟨cH,dH⟩:=gn (mW.set (B+2) (.row 56 4 0 HZ));have iJ:∀id,id≠B+2->cH[id]?=mW[id]?:=λid h=>Dh
  have MJ:cH[B+2]?=some (.row 56 4 0 o9.flatten):=by rw[<-dH,MO];exact yAj r7
  have MK:o9.length=l.length:=by rw[<-pA,yAD,hgl]
  have ML:∀g∈o9,g.length=4:=λg h=>by
   exact mj
  have hlt:∀(id:Nat) (o:aA),σ[id]?=some o->id<σ.length:=λid o h=>(yA.1 h).1
  have hdn:∀s (h:s<l.length),s<i+1->o9[s]?=some [.str l[s].name,.int .i64 l[s].num,.int .i64 l[s].den,Go.Kz.hd 3 (if s=i then iG else tG s) l[s].aO.length]/\rO cH (B+3) l[s] (.agg [.str l[s].name,.int .i64 l[s].num,.int .i64 l[s].den,Go.Kz.hd 3 (if s=i then iG else tG s) l[s].aO.length]) (if s=i then iG else tG s) (if s=i then zgs else tgs s) (if s=i then iW else tW s):=λs h h2=>by
   exact ep
  have hin:∀s s' g g' (h:s<l.length) (h':s'<l.length) (k:g<l[s].aO.length) (k':g'<l[s'].aO.length),s<i+1->s'<i+1->0<l[s].aO[g].aR.length->0<l[s'].aO[g'].aR.length->(if s=i then iW else tW s) g=(if s'=i then iW else tW s') g'->s=s'/\g=g':=λs s' g g' h h' k k' b1 b2 p1 p2 e=>by
   by_cases e1:s=i
   .by_cases e2:s'=i
    .subst e1;subst e2;simp only[yAK]at e;simp only[hz]at k k' p1 p2;exact⟨rfl,hst.inj g g' k k' p1 p2 e⟩
    .rw[yAJ e1,yAI e2]at e;have h1:=hlt _ _ (((hdone s' h' Cd).2.at_ g' k').2 p2).2;subst e1;simp only[hz]at k p1;have h2:=((hst.at_ g k).2 p1).1;omega
   .by_cases e2:s'=i
    .rw[yAI e1,yAJ e2]at e;have h1:=hlt _ _ (((hdone s h Cd).2.at_ g k).2 p1).2;subst e2;simp only[hz]at k' p2;have h2:=((hst.at_ g' k').2 p2).1;omega
    .exact uh
  refine bU.normal (m-1) Cd (by refine⟨i+1,o9,(λs=>if s=i then iG else tG s),(λs=>if s=i then zgs else tgs s),(λs=>if s=i then iW else tW s),cH,?_⟩;exact fU (⟨Cd,MK,ML,by rw[iJ B Cd,yF B r0];exact v0,by rw[iJ (B+1) Cd,yF _ r1];exact v1,MJ,λid h=>by rw[iJ id Cd,yF id Cd];exact hkeep id h,λg h h2=>by rw[<-pA,yAd Cd];exact hrest g h Cd,hdn,hin⟩) @dH)
 .have q1:¬(i:Int)<(l.length:Int):=by omega
  have mA:=v0;have v1':=v1;rw[<-hX]at mA;rw[<-hY]at v1';obtain⟨_,vR⟩:=yA.1 mA;obtain⟨_,MM⟩:=yA.1 v1';refine aC (A7 q1 mA r0 vR v1' r1 MM) ?_;obtain⟨cH,dH⟩:=gn (σ.set (B+1) (.box (.agg [.str nm,.bool pe,.int .i64 a,.int .i64 b,.aP (B+2) 0 0 l.length 4])));rw[dH];have iJ:∀id,id≠B+1->cH[id]?=σ[id]?:=λid h=>Dh
  have z1:cH[B+1]?=some (.box (.agg [.str nm,.bool pe,.int .i64 a,.int .i64 b,.aP (B+2) 0 0 l.length 4])):=Iw;refine⟨.agg [.str nm,.bool pe,.int .i64 a,.int .i64 b,.aP (B+2) 0 0 l.length 4],cH,by simp[bV,z1],⟨B+2,gs,tG,tgs,tW,?_⟩,Eu,λid h=>by rw[iJ id Cd];exact hkeep id h⟩;refine⟨by rw[e1],hgl,λ_=>⟨Cd,by rw[iJ _ Cd];exact v2⟩,λs (h:s<l.length)=>?_,λs s' g g' (h:s<l.length) (h':s'<l.length) k k'=>hinj s s' g g' h h' k k' Cd Cd⟩;exact og
end
section
theorem aOj(l:List Int)(h0:l≠[])(hl:l.length<=1000000)(σ:List aA):∃tok σ',uF prog 46 1 0 [.slice 1 (l.map i64.aB) .any] σ=some (.slice 1 (l.map i64.aB) tok,σ')/\lI σ' tok 3 1 l.length/\∀(id:Nat) (o:aA),σ[id]?=some o->σ'[id]?=some o:=by
 obtain⟨tok,σ',h1,h2,h3⟩:=aOk (P:=prog) (σ:=σ) (t:=46) (e:=3) (k:=1) (b:=8) (s:=1) (z:=1) (xs:=l.map i64.aB) underlying46 Cf (.inr rfl) Dk Dk;refine⟨tok,σ',?_,by rw[yAe]at h2;exact h2,h3⟩;have hn:l.length≠0:=λh=>h0 (yAf h)
 rw[yAe,yAI hn]at h1;obtain⟨x,l',rfl⟩:=List.exists_cons_of_ne_nil h0;simp only[yAV]at h1 ⊢;have hr:dY prog 8 0 σ 46 (.slice 1 [] .full) (.slice 1 (i64.aB x::l'.map i64.aB) .any)=none:=by
  unfold dY;rw[yAI Cj]
 unfold uF pap;simp only[hr];have hs:(PD.slice (0+1) (i64.aB x::l'.map i64.aB) .any).strip=.slice (0+1) (i64.aB x::l'.map i64.aB) .any:=by
  have h:=gJ.str (x::l');rw[bC,tL h0]at h;exact h
 rw[hs];exact h1
variable{E E0:aE}(hU:aJ E)
include hU
omit hU in
theorem aKz(h0:E 76=none)(h1:E 109=some (uF prog 46 1))(r:bP)(hr:gU r):aI prog E 76 [Em.aN.aB r] (Em.aN.aB r):=by
 obtain⟨nm,tn,a,b,c,w⟩:=r;simp only[oA,bC]
 by_cases hw:w=[]
 .subst hw;have hC:∀fl σ k,uF prog 46 1 fl [.slice k [] .any] σ=some (.slice 0 [] .full,σ):=λfl σ k=>rfl
  refine aI.aG 8 h0 func76 (h:=?_);refine aC (A2 h1 hC) ?_;exact cg
 rw[tL hw];have hlen:(w.map i64.aB).length=w.length:=yAe ..;obtain⟨xs,hxs⟩:=gn (w.map i64.aB);obtain⟨X,hX⟩:=gn (aA.box (.agg [.str nm,.str tn,.int .i64 a,.int .i64 b,.int .i64 c,.slice 1 xs .any]));obtain⟨Y,hY⟩:=gn (aA.box (.agg [.str [],.str [],.int .i64 0,.int .i64 0,.int .i64 0,.slice 0 [] .full]));obtain⟨tok,σ',e1,e2,e3⟩:=aOj w hw hr [X,Y];have g0:=e3 0 X rfl;have g1:=e3 1 Y rfl;rw[hxs]at e1 ⊢;obtain⟨w0,z0⟩:=yA.1 g0;rw[<-hX]at z0;obtain⟨w1,z1⟩:=yA.1 g1;rw[<-hY]at z1;rw[<-hX,<-hY]at e1;rw[<-hX]at g0;rw[<-hY]at g1;refine aI.aG 8 h0 func76 (h:=?_);refine aC (A8 h1 e1 w0 @z0 @g0 @g1 w1 z1) ?_;refine⟨.agg [.str nm,.str tn,.int .i64 a,.int .i64 b,.int .i64 c,.slice 1 xs tok],(σ'.set 0 (.box (.agg [.str nm,.str tn,.int .i64 a,.int .i64 b,.int .i64 c,.slice 1 xs tok]))).set 1 (.box (.agg [.str nm,.str tn,.int .i64 a,.int .i64 b,.int .i64 c,.slice 1 xs tok])),?_,?_⟩
 .simp[bV,w1]
 .have h:=gJ.str w;rw[bC,tL hw,hxs]at h;have hx:(PD.slice 1 xs tok).strip=(PD.slice 1 xs .any).strip:=by
   obtain⟨x,l,rfl⟩:=List.exists_cons_of_ne_nil (show xs≠[]from λe=>hw (by rw[e]at hxs;exact List.map_eq_nil_iff.1 hxs));rfl
  simp only[PD.strip,PD.mF];rw[hx,h]
omit hU in
theorem mU.aM{σ σ':Jj}{lo lo':Nat}{d:bO}{p:PD}{iS:Nat}{ss:Jh}{tG:Nat->Nat}{tgs:Jg}{tW:Nat->Nat->Nat}(h:mU σ lo d p iS ss tG tgs tW)(hl:lo'<=lo)(hk:∀(id:Nat) (o:aA),lo<=id->σ[id]?=some o->σ'[id]?=some o):mU σ' lo' d p iS ss tG tgs tW:=by
 obtain⟨h1,h2,h3,h4,h5⟩:=h;exact⟨h1,h2,λhp=>⟨yAQ hl (h3 hp).1,hk _ _ (h3 hp).1 (h3 hp).2⟩,λg h=>⟨(h4 g h).1,(h4 g h).2.aM hl hk⟩,h5⟩
structure jC (σ:List aA) (lo:Nat) (o:aY) (p:PD) (iR iD iC:Nat) (ds:List (List PD)) (tS:Nat->Nat) (tss:Nat->List (List PD)) (tG:Nat->Nat->Nat) (tgs:Nat->Nat->List (List PD)) (tW:Nat->Nat->Nat->Nat):Prop where
 p:p=.agg [.str o.name,hd 6 iR o.aQ.length,hd 5 iD o.aD.length,hd 5 iC o.aL.length]
 aN:0<o.aQ.length->lo<=iR/\σ[iR]?=some (.row 48 6 0 ((o.aQ.map Em.aN.aB).flatMap PD.cells))
 bF:0<o.aL.length->lo<=iC/\σ[iC]?=some (.row 58 5 0 ((o.aL.map Em.bF.aB).flatMap PD.cells))
 len:ds.length=o.aD.length
 row:0<o.aD.length->lo<=iD/\σ[iD]?=some (.row 53 5 0 ds.flatten)
 at_:∀d (h:d<o.aD.length),ds[d]?=some [.str o.aD[d].name,.bool o.aD[d].dV,.int .i64 o.aD[d].low,.int .i64 o.aD[d].high,hd 4 (tS d) o.aD[d].stops.length] /\
  mU σ lo o.aD[d] (.agg [.str o.aD[d].name,.bool o.aD[d].dV,.int .i64 o.aD[d].low,.int .i64 o.aD[d].high,hd 4 (tS d) o.aD[d].stops.length]) (tS d) (tss d) (tG d) (tgs d) (tW d)
 YH:∀d d' (h:d<o.aD.length) (h':d'<o.aD.length),0<o.aD[d].stops.length->0<o.aD[d'].stops.length->tS d=tS d'->d=d'
 MB:∀d d' s s' g g' (h:d<o.aD.length) (h':d'<o.aD.length) (k:s<o.aD[d].stops.length) (k':s'<o.aD[d'].stops.length) (l:g<o.aD[d].stops[s].aO.length) (l':g'<o.aD[d'].stops[s'].aO.length),0<o.aD[d].stops[s].aO[g].aR.length->0<o.aD[d'].stops[s'].aO[g'].aR.length->tW d s g=tW d' s' g'->d=d'/\s=s'/\g=g'
theorem aNp(h0:E 41=none)(h1:E 73=some (jA 48 6))(h2:E 74=some (jA 53 5))(h3:E 75=some (jA 58 5))
  (h4:E 76=some (entry (cU Em.aN Em.aN λr=>eL (gU r) (some r)))) (h5:E 77=some (dO prog E0 77))
  (hcs:∀(d:bO) (hs:gV d) (τ:List aA),aK prog E0 0 (.inl 77) [Em.div.aB d] τ (λp σ'=>(∃iS ss tG tgs tW,mU σ' τ.length d p iS ss tG tgs tW)/\τ.length<=σ'.length/\∀id,id<τ.length->σ'[id]?=τ[id]?))
  (o:aY) (ho:fX o) (τ:List aA) :
  aK prog E 0 (.inl 41) [Em.bY.aB o] τ (λp σ'=>(∃iR iD iC ds tS tss tG tgs tW,jC σ' τ.length o p iR iD iC ds tS tss tG tgs tW)/\τ.length<=σ'.length/\∀id,id<τ.length->σ'[id]?=τ[id]?):=by
 clear hU;obtain⟨nm,rs,ds,cs⟩:=o;obtain⟨⟨nS,zL⟩,⟨rK,jI⟩,eQ⟩:=ho;simp only at nS zL rK jI eQ;have hCR:=I5 (em:=Em.aN) (e:=48) (k:=6) rs nS;have hCD:=I5 (em:=Em.div) (e:=53) (k:=5) ds rK;have hCC:=I5 (em:=Em.bF) (e:=58) (k:=5) cs eQ;have kR:=λfl σ=>MC (fl:=fl) (σ:=σ) h1 (λfl=>hCR fl σ)
 have kD:=λfl σ=>MC (fl:=fl) (σ:=σ) h2 (λfl=>hCD fl σ)
 have kC:=λfl σ=>MC (fl:=fl) (σ:=σ) h3 (λfl=>hCC fl σ)
 simp only[fE,bC]at kR kD kC ⊢;obtain⟨B,hB⟩:=gn (τ.length);obtain⟨nR,hnR⟩:=gn (newRow 48 6 (rs.map Em.aN.aB));obtain⟨nD,hnD⟩:=gn (newRow 53 5 (ds.map Em.div.aB));obtain⟨nC,hnC⟩:=gn (newRow 58 5 (cs.map Em.bF.aB));rw[hnR]at kR;rw[hnD]at kD;rw[hnC]at kC;obtain⟨lR,hlR⟩:=gn (rs.map Em.aN.aB);obtain⟨lD,hlD⟩:=gn (ds.map Em.div.aB);obtain⟨lC,hlC⟩:=gn (cs.map Em.bF.aB);obtain⟨zR,hzR⟩:=gn (sz 6 rs);obtain⟨zD,hzD⟩:=gn (sz 5 ds);obtain⟨zC,hzC⟩:=gn (sz 5 cs);rw[hlR,hzR]at kR;rw[hlD,hzD]at kD;rw[hlC,hzC]at kC;rw[hlR,hlD,hlC,hzR,hzD,hzC];obtain⟨W,hW⟩:=gn (aA.box (.agg [.str nm,.slice zR lR .any,.slice zD lD .any,.slice zC lC .any]));obtain⟨Y,hY⟩:=gn (aA.box (.agg [.str [],.slice 0 [] .full,.slice 0 [] .full,.slice 0 [] .full]));obtain⟨iD,hiD⟩:=gn ((τ++W::Y::nR).length);obtain⟨iC,hiC⟩:=gn ((τ++W::Y::(nR++nD)).length);have MD:=λfl=>kR fl (τ++[W,Y])
 have ME:=λfl=>kD fl (τ++W::Y::nR)
 have MF:=λfl=>kC fl (τ++W::Y::(nR++nD))
 have e2:(τ++[W,Y]).length=B+2:=by rw[yAa,hB];rfl
 rw[e2]at MD;rw[hiD]at ME;rw[hiC]at MF;simp only[yAi,yBt,yAW]at MD ME MF;obtain⟨hR,hhR⟩:=gn (Go.Kz.hd 6 (B+2) rs.length);obtain⟨hD,hhD⟩:=gn (Go.Kz.hd 5 iD ds.length);obtain⟨hC,hhC⟩:=gn (Go.Kz.hd 5 iC cs.length);have pR:hR.plain=true:=Cu;have pD:hD.plain=true:=Cv;have pC:hC.plain=true:=Cw;unfold PD.plain at pR pD pC;have cR:hR.cells=[hR]:=Ed;have cD:hD.cells=[hD]:=Ee;have cC:hC.cells=[hC]:=Ef;rw[hhR]at MD;rw[hhD]at ME;rw[hhC]at MF;rw[<-hW,<-hY]at MD ME MF;have jG:∀(X:aA) L,(τ++X::L)[B]?=some X:=λX L=>En
 have jS:∀(X Y:aA) L,(τ++X::L).set B Y=τ++Y::L:=λX Y L=>En
 unfold PD.cells at cR cD cC;refine aK.aG 50 h0 func41 (h:=?_);refine aC trivial ?_;rw[hB];refine Wp.seq ?_;refine Wp.YV Cj ?_;refine oQ (A11 MD ME MF jG jS pR pD pC cR cD cC) ?_;apply SQ.nil;obtain⟨S0,pU⟩:=gn (τ++aA.box (.agg [.str nm,hR,hD,hC])::Y::(nR++(nD++nC)));have lR':gF prog .len #[31] [hR]=some (.int .i64 rs.length):=by
  rw[<-hhR];unfold Go.Kz.hd;split
  .rename_i h;rw[h];rfl
  .rfl
 have lD':gF prog .len #[32] [hD]=some (.int .i64 ds.length):=by
  rw[<-hhD];unfold Go.Kz.hd;split
  .rename_i h;rw[h];rfl
  .rfl
 have sR:0<rs.length->S0[B+2]?=some (.row 48 6 0 ((rs.map λr=>[PD.str r.name,.str r.j9,.int .i64 r.num,.int .i64 r.den,.int .i64 r.first,gJ.aB r.mC]).flatten)):=λh=>by
  rw[<-pU,<-hnR,<-aEO,yBJ Cd,hB,yCP];show(newRow 48 6 (rs.map Em.aN.aB)++(nD++nC))[0]?=_
  unfold newRow;rw[yAI Dk];rfl
 have sD:0<ds.length->S0[iD]?=some (.row 53 5 0 ((ds.map λr=>[PD.str r.name,.bool r.dV,.int .i64 r.low,.int .i64 r.high,oB.aB r.stops]).flatten)):=λh=>by
  have h1:=RH (e:=53) (k:=5) (xs:=ds.map Em.div.aB) (τ++aA.box (.agg [.str nm,hR,hD,hC])::Y::nR) Eb;rw[<-pU,<-aOl,<-hnD,<-hiD];have h2:=bR (τ:=nC) h1;simpa using h2
 have sC:0<cs.length->S0[iC]?=some (.row 58 5 0 ((cs.map Em.bF.aB).flatMap PD.cells)):=λh=>by
  have h1:=RH (e:=58) (k:=5) (xs:=cs.map Em.bF.aB) (τ++aA.box (.agg [.str nm,hR,hD,hC])::Y::(nR++nD)) Eb;rw[<-pU,<-hnC,<-hiC];simpa using h1
 have sY:S0[B+1]?=some Y:=by
  rw[<-pU,yBJ Cd,hB,yCP];rfl
 have sT:∀id,id<B->S0[id]?=τ[id]?:=λid h=>by rw[<-pU,yAg Cd]
 have iDl:B+2<=iD:=by rw[<-hiD,yAa,hB];simp
 have iCl:B+2<=iC:=by rw[<-hiC,yAa,hB];simp
 obtain⟨L0,lO⟩:=gn (S0.length);have YI:0<ds.length->iD<L0:=λh=>by rw[<-lO];exact(yA.1 (sD h)).1
 have sB:S0[B]?=some (.box (.agg [.str nm,hR,hD,hC])):=by rw[<-pU,<-hB];simp
 obtain⟨wB,zB⟩:=yA.1 sB;rw[hY,pU];simp[gF,underlying31]at lR';simp[gF,underlying32]at lD';refine aC (A4 lR' sB wB zB) ?_;refine Wp.dW (λm fr σ=>∃(i:Nat) (σ1:List aA),∃gg:Nat->PD,(i+m=rs.length/\(∀(id:Nat) (x:aA),S0[id]?=some x->σ1[id]?=some x))/\fr=[gg 0,.ptr B 0,.ptr (B+1) 0,gg 3,gg 4,gg 5,gg 6,gg 7,gg 8,gg 9,gg 10,gg 11,gg 12,gg 13,gg 14,gg 15,gg 16,gg 17,gg 18,gg 19,hR,.int .i64 rs.length,.int .i64 i,gg 23,gg 24,gg 25,gg 26,gg 27,gg 28,gg 29,gg 30,gg 31,gg 32,gg 33,gg 34,gg 35,gg 36,gg 37,gg 38,gg 39,gg 40,gg 41,gg 42,gg 43,gg 44,gg 45,gg 46,gg 47,gg 48,gg 49]/\σ=σ1) ?_ (rs.length) (by refine⟨0,S0,?_⟩;exact cL (⟨Cd,λ_ _ h=>h⟩))
 rintro m fr σ ⟨i,σ1,gg,hI,rfl,rfl⟩
 obtain⟨hm,hk⟩:=hI;have v0:=hk _ _ sB;obtain⟨r0,y0⟩:=yA.1 v0
 by_cases hi:i<rs.length
 .have q1:(i:Int)<(rs.length:Int):=by omega
  have hRr:hR=.aP (B+2) 0 0 rs.length 6:=by rw[<-hhR];unfold Go.Kz.hd;rw[yAI Cd]
  have v2:=hk _ _ (sR Cd);obtain⟨gs,hgs⟩:=gn ((rs.map λr=>[PD.str r.name,.str r.j9,.int .i64 r.num,.int .i64 r.den,.int .i64 r.first,gJ.aB r.mC]));rw[hgs]at v2;have hgl:gs.length=rs.length:=by rw[<-hgs,yAe]
  have gP:∀g∈gs,g.length=6:=λg h=>by
   rw[<-hgs]at h;exact qt
  have hat:=qX (sz:=6) gs i Cd gP;have hlen:=lA (sz:=6) gs gP;have hgi:gs[i]' Cd=[.str rs[i].name,.str rs[i].j9,.int .i64 rs[i].num,.int .i64 rs[i].den,.int .i64 rs[i].first,gJ.aB rs[i].mC]:=by subst hgs;rw[yBp]
  have hzo:=zL _ (yAm hi);obtain⟨z,hz⟩:=gn (rs[i]);rw[hgi,hz]at hat;rw[hz]at hzo;have hfl:=w8 (sz:=6) (new:=[.str z.name,.str z.j9,.int .i64 z.num,.int .i64 z.den,.int .i64 z.first,gJ.aB z.mC]) (j:=0) Ce gs i Cd gP;rw[hgi,hz]at hfl;have hset:dL [PD.str z.name,.str z.j9,.int .i64 z.num,.int .i64 z.den,.int .i64 z.first,gJ.aB z.mC] 0 [PD.str z.name,.str z.j9,.int .i64 z.num,.int .i64 z.den,.int .i64 z.first,gJ.aB z.mC]=[PD.str z.name,.str z.j9,.int .i64 z.num,.int .i64 z.den,.int .i64 z.first,gJ.aB z.mC]:=rfl;have hsm:gs.set i [PD.str z.name,.str z.j9,.int .i64 z.num,.int .i64 z.den,.int .i64 z.first,gJ.aB z.mC]=gs:=by rw[<-hz,<-hgi];exact List.set_getElem_self _
  rw[hset,yBk,hsm]at hfl;obtain⟨fs,hfs⟩:=gn (gs.flatten);rw[hfs]at v2 hlen hat hfl;obtain⟨r2,y2⟩:=yA.1 v2;have fJ:i*6+6<=fs.length:=Cd;have xk:jH prog 31 (.aP (B+2) 0 0 rs.length 6) (.int .i64 i)=some (.dM (B+2) 0 (i*6)):=by
   simp[jV,hi]
  have hdec:Em.aN.dec (Em.aN.aB z)=some z:=Em.dC (Em.aN.str z);have hK:∀fl σ,DZ E fl (.inl 76) [Em.aN.aB z] σ=some (Em.aN.aB z,σ):=λfl σ=>by
   have h:=MC (τ:=[]) (fl:=fl) (σ:=σ) h4 (args:=[Em.aN.aB z]) (p:=Em.aN.aB z) (λfl=>by
    unfold entry cU;simp only[hdec];rw[fY hzo,yAl])
   rwa [yAl]at h
  have mA:σ[B]?=some (.box (.agg [.str nm,.aP (B+2) 0 0 rs.length 6,hD,hC])):=by rw[<-hRr];exact v0
  obtain⟨_,vR⟩:=yA.1 mA;have u0:(σ++[aA.box (Em.aN.aB z)])[B]?=some (.box (.agg [.str nm,.aP (B+2) 0 0 rs.length 6,hD,hC])):=bR mA;have u7:(σ++[aA.box (Em.aN.aB z)])[B+2]?=some (.row 48 6 0 fs):=bR v2;obtain⟨r7,y7⟩:=yA.1 u7;obtain⟨w0,z0⟩:=yA.1 u0;have j0:∀x:aA,(σ++[x])[σ.length]?=some x:=λx=>Ce
  obtain⟨zn,zt,za,zb,zc,zw⟩:=z;simp only[oA,bC]at hat hK u0 w0 z0 u7 r7 y7 hfl;simp only[dL,yAT,yAO,yAp,Nat.reduceAdd,yBW,yAi,yBt,yAW]at hfl;rw[hRr];refine aC Bk ?_;refine Wp.YV Cj ?_;refine oQ (A14 u0 w0 @z0 r0 vR j0 hK xk hi u7 r7 y7 fJ hfl) ?_;apply SQ.nil;refine aC q1 ?_;refine bU.normal (m-1) Cd (by refine⟨i+1,(σ.set (B+2) (.row 48 6 0 fs)++[aA.box (.agg [.str zn,.str zt,.int .i64 za,.int .i64 zb,.int .i64 zc,.slice (sz 1 zw) (zw.map i64.aB) .any])]),?_⟩;exact fU (⟨Cd,λid x h=>bR (if e:id=B+2 then(by subst e;rw[yAj r2,<-v2];exact hk _ _ h)else(by rw[yAd (yAU e)];exact hk _ _ h))⟩) @hfl)
 .have q1:¬(i:Int)<(rs.length:Int):=by omega
  refine aC (A5 q1 @v0 r0 y0 lD') ?_;obtain⟨ρ,hρ⟩:=gn (σ);rw[hρ]at hk ⊢;obtain⟨g0,qJ⟩:=gn ((ds.map λr=>[PD.str r.name,.bool r.dV,.int .i64 r.low,.int .i64 r.high,oB.aB r.stops]));rw[qJ]at sD;have MG:∀g (h:g<ds.length),g0[g]?=some [.str ds[g].name,.bool ds[g].dV,.int .i64 ds[g].low,.int .i64 ds[g].high,oB.aB ds[g].stops]:=λg h=>by
   subst qJ;rw[yAo,yAh h];rfl
  have MH:g0.length=ds.length:=by rw[<-qJ,yAe]
  have MI:∀g∈g0,g.length=5:=λg h=>by
   rw[<-qJ]at h;exact qt
  have lρ:L0<=ρ.length:=by
   by_cases e:L0=0
   .omega
   .have h1:=hk (L0-1) _ (yAh (show L0-1<S0.length by omega));have:=(yA.1 h1).1;omega
  have bL:B+2<=L0:=by
   have:=(yA.1 sY).1;omega
  obtain⟨Z,hZ⟩:=gn (aA.box (.agg [.str nm,hR,hD,hC]));rw[hZ]at sB;refine Wp.dW (λm fr σ=>∃(i:Nat) (gs:List (List PD)) (tS:Nat->Nat) (tss:Nat->List (List PD)) (tG:Nat->Nat->Nat) (tgs:Nat->Nat->List (List PD)) (tW:Nat->Nat->Nat->Nat) (σ1:List aA),∃gg:Nat->PD,(i+m=ds.length/\gs.length=ds.length/\(∀g∈gs,g.length=5)/\(∀(id:Nat) (x:aA),(0<ds.length->id≠iD)->S0[id]?=some x->σ1[id]?=some x)/\(0<ds.length->σ1[iD]?=some (.row 53 5 0 gs.flatten))/\L0<=σ1.length/\(∀g (h:g<ds.length),i<=g->gs[g]?=some [.str ds[g].name,.bool ds[g].dV,.int .i64 ds[g].low,.int .i64 ds[g].high,oB.aB ds[g].stops])/\(∀s (h:s<ds.length),s<i->gs[s]?=some [.str ds[s].name,.bool ds[s].dV,.int .i64 ds[s].low,.int .i64 ds[s].high,Go.Kz.hd 4 (tS s) ds[s].stops.length]/\mU σ1 L0 ds[s] (.agg [.str ds[s].name,.bool ds[s].dV,.int .i64 ds[s].low,.int .i64 ds[s].high,Go.Kz.hd 4 (tS s) ds[s].stops.length]) (tS s) (tss s) (tG s) (tgs s) (tW s))/\(∀d d' (h:d<ds.length) (h':d'<ds.length),d<i->d'<i->0<ds[d].stops.length->0<ds[d'].stops.length->tS d=tS d'->d=d')/\(∀d d' s s' g g' (h:d<ds.length) (h':d'<ds.length) (k:s<ds[d].stops.length) (k':s'<ds[d'].stops.length) (l:g<ds[d].stops[s].aO.length) (l':g'<ds[d'].stops[s'].aO.length),d<i->d'<i->0<ds[d].stops[s].aO[g].aR.length->0<ds[d'].stops[s'].aO[g'].aR.length->tW d s g=tW d' s' g'->d=d'/\s=s'/\g=g'))/\fr=[gg 0,.ptr B 0,.ptr (B+1) 0,gg 3,gg 4,gg 5,gg 6,gg 7,gg 8,gg 9,gg 10,gg 11,gg 12,gg 13,gg 14,gg 15,gg 16,gg 17,gg 18,gg 19,gg 20,gg 21,gg 22,gg 23,gg 24,gg 25,gg 26,gg 27,gg 28,gg 29,gg 30,gg 31,gg 32,gg 33,gg 34,hD,.int .i64 ds.length,.int .i64 i,gg 38,gg 39,gg 40,gg 41,gg 42,gg 43,gg 44,gg 45,gg 46,gg 47,gg 48,gg 49]/\σ=σ1) ?_ (ds.length) (by refine⟨0,g0,(λ_=>0),(λ_=>[]),(λ_ _=>0),(λ_ _=>[]),(λ_ _ _=>0),ρ,?_⟩;exact cL (⟨Cd,MH,MI,λid x _ h=>hk id x h,λh=>hk _ _ (sD h),lρ,λg h _=>MG g h,λs _ h=>absurd h (yAZ s),λd d' h h' h1=>absurd h1 (yAZ d),λd d' s s' g g' h h' k k' l l' h1=>absurd h1 (yAZ d)⟩))
  rintro m fr σ ⟨i,gs,tS,tss,tG,tgs,tW,σ1,gg,hI,rfl,rfl⟩
  obtain⟨hm,hgl,gP,hkeep,hrow,hlo,hrest,hdone,hiS,hiW⟩:=hI;have v0:=hkeep B _ (λ_=>Cd) sB;have v1:=hkeep (B+1) _ (λ_=>Cd) sY;obtain⟨r0,y0⟩:=yA.1 v0;obtain⟨r1,y1⟩:=yA.1 v1
  by_cases hi:i<ds.length
  .have q1:(i:Int)<(ds.length:Int):=by omega
   have hDr:hD=.aP iD 0 0 ds.length 5:=by rw[<-hhD];unfold Go.Kz.hd;rw[yAI Cd]
   have iDL:=YI Cd;have v2:=hrow Cd;have hzo:=jI _ (yAm hi);have hgi:=hrest i hi (yAk _);have hat:=qX (sz:=5) gs i Cd gP;have hlen:=lA (sz:=5) gs gP;have D0:gs[i]' Cd=[.str ds[i].name,.bool ds[i].dV,.int .i64 ds[i].low,.int .i64 ds[i].high,oB.aB ds[i].stops]:=(yA.1 hgi).2;obtain⟨z,hz⟩:=gn (ds[i]);rw[D0,hz]at hat;rw[hz]at hzo;have hW:=hcs z hzo (σ++[aA.box (Em.div.aB z)]);have hll:(σ++[aA.box (Em.div.aB z)]).length=σ.length+1:=Ce;obtain⟨pz,mW,hev,⟨iS,zss,zG,zgs,zW,hst⟩,CC,q9⟩:=hW.e0 Ce;rw[hll]at hst CC q9;have hpz:=hst.p;subst hpz;have hfl:=w8 (sz:=5) (new:=[.str z.name,.bool z.dV,.int .i64 z.low,.int .i64 z.high,Go.Kz.hd 4 iS z.stops.length]) (j:=0) Ce gs i Cd gP;rw[D0,hz]at hfl;have hset:dL [PD.str z.name,.bool z.dV,.int .i64 z.low,.int .i64 z.high,oB.aB z.stops] 0 [.str z.name,.bool z.dV,.int .i64 z.low,.int .i64 z.high,Go.Kz.hd 4 iS z.stops.length]=[.str z.name,.bool z.dV,.int .i64 z.low,.int .i64 z.high,Go.Kz.hd 4 iS z.stops.length]:=rfl;rw[hset,yBk]at hfl;obtain⟨o9,pA⟩:=gn (gs.set i [PD.str z.name,.bool z.dV,.int .i64 z.low,.int .i64 z.high,Go.Kz.hd 4 iS z.stops.length]);rw[pA]at hfl;obtain⟨fs,hfs⟩:=gn (gs.flatten);rw[hfs]at v2 hlen hat hfl;obtain⟨r2,y2⟩:=yA.1 v2;obtain⟨I1,aEP⟩:=gn (o9.flatten);rw[aEP]at hfl;have fJ:i*5+5<=fs.length:=Cd;have xk:jH prog 32 (.aP iD 0 0 ds.length 5) (.int .i64 i)=some (.dM iD 0 (i*5)):=by
    simp[jV,hi]
   obtain⟨h9,j2⟩:=gn (Go.Kz.hd 4 iS z.stops.length);have p9:h9.plain=true:=Iq;have c9:h9.cells=[h9]:=Ir;rw[j2]at hev hfl;simp only[dL,yAT,yAO,yAp,Nat.reduceAdd,yBW,yAi,yBt,yAW]at hfl;unfold PD.plain at p9;have mA:σ[B]?=some (.box (.agg [.str nm,hR,.aP iD 0 0 ds.length 5,hC])):=by rw[<-hDr,hZ];exact v0
   have u0:(σ++[aA.box (Em.div.aB z)])[B]?=some (.box (.agg [.str nm,hR,.aP iD 0 0 ds.length 5,hC])):=bR mA;have u7:mW[iD]?=some (.row 53 5 0 fs):=by rw[q9 _ Cd];exact bR v2
   obtain⟨r7,y7⟩:=yA.1 u7;obtain⟨w0,z0⟩:=yA.1 u0;obtain⟨_,vR⟩:=yA.1 mA;have j0:∀x:aA,(σ++[x])[σ.length]?=some x:=λx=>Ce
   have hK:=pP (B:=[B]) h5 hev (by rw[hll];exact CC) (λid h h3=>q9 id (by rw[hll]at h3;exact h3));obtain⟨zn,zp,za,zb,zs⟩:=z;simp only[nJ,bC]at hat hK u0 w0 z0 hll;rw[hDr];refine aC Bk ?_;refine Wp.DT h5 DR Ce [(1,B),(6,σ.length)] [B] [some B] Cj ⟨⟨_,rfl⟩,⟨_,rfl⟩,trivial⟩ Cf Ek ?_;refine nL Bs ?_;apply SQ.nil;refine aC q1 ?_;have yF:∀id,id<σ.length->mW[id]?=σ[id]?:=λid h=>by rw[q9 id Cd,yAg h]
   obtain⟨cH,dH⟩:=gn (mW.set iD (.row 53 5 0 I1));have iJ:∀id,id≠iD->cH[id]?=mW[id]?:=λid h=>Dh
   have MJ:cH[iD]?=some (.row 53 5 0 o9.flatten):=by rw[<-dH,aEP];exact yAj r7
   have MK:o9.length=ds.length:=by rw[<-pA,yAD,hgl]
   have ML:∀g∈o9,g.length=5:=λg h=>by
    exact mj
   have hlt:∀(id:Nat) (o:aA),σ[id]?=some o->id<σ.length:=λid o h=>(yA.1 h).1
   have RI:L0<=cH.length:=Eu;have hke:∀(id:Nat) (x:aA),(0<ds.length->id≠iD)->S0[id]?=some x->cH[id]?=some x:=λid x h1 h2=>by
    have h3:=hkeep id x h1 h2;rw[iJ id (h1 Cd),yF id (hlt _ _ h3)];exact h3
   have hdn:∀s (h:s<ds.length),s<i+1->o9[s]?=some [.str ds[s].name,.bool ds[s].dV,.int .i64 ds[s].low,.int .i64 ds[s].high,Go.Kz.hd 4 (if s=i then iS else tS s) ds[s].stops.length]/\mU cH L0 ds[s] (.agg [.str ds[s].name,.bool ds[s].dV,.int .i64 ds[s].low,.int .i64 ds[s].high,Go.Kz.hd 4 (if s=i then iS else tS s) ds[s].stops.length]) (if s=i then iS else tS s) (if s=i then zss else tss s) (if s=i then zG else tG s) (if s=i then zgs else tgs s) (if s=i then zW else tW s):=λs h h2=>by
    exact ep
   have aOm:∀d d' (h:d<ds.length) (h':d'<ds.length),d<i+1->d'<i+1->0<ds[d].stops.length->0<ds[d'].stops.length->(if d=i then iS else tS d)=(if d'=i then iS else tS d')->d=d':=λd d' h h' b1 b2 p1 p2 e=>by
    by_cases e1:d=i
    .by_cases e2:d'=i
     .rw[e1,e2]
     .rw[yAJ e1,yAI e2]at e;have h1:=hlt _ _ ((hdone d' h' Cd).2.row p2).2;subst e1;simp only[hz]at p1;have h2:=(hst.row p1).1;omega
    .by_cases e2:d'=i
     .rw[yAI e1,yAJ e2]at e;have h1:=hlt _ _ ((hdone d h Cd).2.row p1).2;subst e2;simp only[hz]at p2;have h2:=(hst.row p2).1;omega
     .exact xe
   have aOn:∀d d' s s' g g' (h:d<ds.length) (h':d'<ds.length) (k:s<ds[d].stops.length) (k':s'<ds[d'].stops.length) (l:g<ds[d].stops[s].aO.length) (l':g'<ds[d'].stops[s'].aO.length),d<i+1->d'<i+1->0<ds[d].stops[s].aO[g].aR.length->0<ds[d'].stops[s'].aO[g'].aR.length->(if d=i then zW else tW d) s g=(if d'=i then zW else tW d') s' g'->d=d'/\s=s'/\g=g':=λd d' s s' g g' h h' k k' l l' b1 b2 p1 p2 e=>by
    by_cases e1:d=i
    .by_cases e2:d'=i
     .exact mo
     .rw[yAJ e1,yAI e2]at e;have h1:=hlt _ _ (((((hdone d' h' Cd).2.at_ s' k').2.at_ g' l').2) p2).2;subst e1;simp only[hz]at k l p1;have h2:=((((hst.at_ s k).2.at_ g l).2) p1).1;omega
    .by_cases e2:d'=i
     .rw[yAI e1,yAJ e2]at e;have h1:=hlt _ _ (((((hdone d h Cd).2.at_ s k).2.at_ g l).2) p1).2;subst e2;simp only[hz]at k' l' p2;have h2:=((((hst.at_ s' k').2.at_ g' l').2) p2).1;omega
     .exact so
   refine bU.normal (m-1) Cd (by refine⟨i+1,o9,(λs=>if s=i then iS else tS s),(λs=>if s=i then zss else tss s),(λs=>if s=i then zG else tG s),(λs=>if s=i then zgs else tgs s),(λs=>if s=i then zW else tW s),cH,?_⟩;exact fU (⟨Cd,MK,ML,hke,λ_=>MJ,RI,λg h h2=>by rw[<-pA,yAd Cd];exact hrest g h Cd,hdn,aOm,aOn⟩) @dH)
  .have q1:¬(i:Int)<(ds.length:Int):=by omega
   have mA:=v0;have v1':=v1;rw[<-hZ]at mA;rw[<-hY]at v1';obtain⟨_,vR⟩:=yA.1 mA;obtain⟨_,MM⟩:=yA.1 v1';refine aC (A10 q1 mA r0 vR v1' r1 MM pR pD pC) ?_;obtain⟨cH,dH⟩:=gn (σ.set (B+1) (.box (.agg [.str nm,hR,hD,hC])));rw[dH];have iJ:∀id,id≠B+1->cH[id]?=σ[id]?:=λid h=>Dh
   have z1:cH[B+1]?=some (.box (.agg [.str nm,hR,hD,hC])):=Iw;refine⟨.agg [.str nm,hR,hD,hC],cH,by simp[bV,z1],⟨B+2,iD,iC,gs,tS,tss,tG,tgs,tW,?_⟩,Eu,λid h=>by rw[iJ id Cd,<-sT id h];exact(by
    have h1:id<S0.length:=Cd;rw[hkeep id _ (λ_=>Cd) (yAh h1),yAh h1])⟩
   refine⟨by rw[hhR,hhD,hhC],λh=>⟨Cd,?_⟩,λh=>⟨Cd,?_⟩,hgl,λh=>⟨Cd,?_⟩,λs (h:s<ds.length)=>?_,λd d' (h:d<ds.length) (h':d'<ds.length)=>hiS d d' h h' Cd Cd,λd d' s s' g g' (h:d<ds.length) (h':d'<ds.length) k k' l l'=>hiW d d' s s' g g' h h' k k' l l' Cd Cd⟩
   .show cH[B+2]?=some (.row 48 6 0 ((rs.map Em.aN.aB).flatMap PD.cells))
    have h1:=sR h;rw[iJ _ Cd,aEO];exact Bf
   .show cH[iC]?=some (.row 58 5 0 ((cs.map Em.bF.aB).flatMap PD.cells))
    have h1:=sC h;rw[iJ _ Cd];exact Bf
   .show cH[iD]?=some (.row 53 5 0 gs.flatten)
    rw[iJ _ Cd];exact hrow h
   .exact og
end
end Go.Kz
