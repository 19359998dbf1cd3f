/- Steps of the proof. -/
import Derived.Test.YteegpeenjdgodaaGreatDoorP9
import Derived.Test.YteegpeenjdgodaaGreatDoorP3
import Derived.Shelf.Spec.SlicesInsert
import Derived.Test.YteegpeenjdgodaaGreatDoorP5d
set_option linter.all false
set_option maxHeartbeats 40000000
set_option maxRecDepth 100000
open Go.Proofs.Tryz
namespace Go.Kz
open Go Go.Proofs
section
def iZ(l:List dL):List PD:=(l.map λw=>[PD.int .i64 w.aL,.int .i64 w.shift]).flatten
theorem aFr(R:List dL):(R.map Em.draw.aB).flatMap PD.cells=iZ R:=by
 unfold iZ
 induction R with
 |nil=>rfl
 |cons r R ih=>simp only[yAW,yBw,yBB,ih];rfl
theorem aOY(R:List jA):(R.map Em.eZ.aB).flatMap PD.cells=(R.map λr=>[PD.int .i64 r.lo,.int .i64 r.hi,gJ.aB r.aQ]).flatten:=by
 induction R with
 |nil=>rfl
 |cons r R ih=>simp only[yAW,yBw,yBB,ih];rfl
def D0(σ:List aA)(lo:Nat)(ds:List dL)(id:Nat):Prop:=0<ds.length->lo<=id/\σ[id]?=some (.row 89 2 0 (iZ ds))
structure rO (σ:List aA) (lo:Nat) (s:cJ) (p:PD) (iG:Nat) (gs:List (List PD)) (iW:Nat->Nat):Prop where
 p:p=.agg [.str s.name,.int .i64 s.num,.int .i64 s.den,hd 3 iG s.aN.length]
 len:gs.length=s.aN.length
 row:0<s.aN.length->lo<=iG/\σ[iG]?=some (.row 92 3 0 gs.flatten)
 at_:∀g (h:g<s.aN.length),gs[g]?=some [.int .i64 s.aN[g].lo,.int .i64 s.aN[g].hi,hd 2 (iW g) s.aN[g].aQ.length]/\D0 σ lo s.aN[g].aQ (iW g)
 inj:∀g g' (h:g<s.aN.length) (h':g'<s.aN.length),0<s.aN[g].aQ.length->0<s.aN[g'].aQ.length->iW g=iW g'->g=g'
theorem fL(k id n:Nat):(hd k id n).plain=true:=by unfold hd;split<;>rfl
theorem lE(k id n:Nat):(hd k id n).cells=[hd k id n]:=by unfold hd;split<;>rfl
theorem R8{e:TypeId}{k:Nat}{xs:Jq}(σ:List aA)(h:0<xs.length):(σ++newRow e k xs)[σ.length]?=some (.row e k 0 (xs.flatMap PD.cells)):=by
 unfold newRow;rw[yAI Cj];exact yAB
variable{E:aE}(hU:aJ E)
include hU
theorem YZ(h0:E 86=none)(h1:E 118=some (iX 92 3))(h2:E 119=some (iX 89 2))(s:cJ)(hs:jQ s)(τ:List aA) :
  aK prog E 0 (.inl 86) [Em.stop.aB s] τ (λp σ'=>(∃iG gs iW,rO σ' τ.length s p iG gs iW)/\τ.length<=σ'.length/\∀id,id<τ.length->σ'[id]?=τ[id]?):=by
 clear hU;obtain⟨nm,a,b,l⟩:=s;obtain⟨hl,hld⟩:=hs;simp only at hl hld;have hC:=JE (em:=Em.eZ) (e:=92) (k:=3) l hl;simp only[pZ,aU]at hC ⊢
 by_cases hl0:l=[]
 .subst hl0;have e0:newRow 92 3 (([]:List jA).map Em.eZ.aB)=[]:=rfl;have e1:∀id,hd 3 id ([]:List jA).length=.slice 0 [] .full:=λ_=>rfl
  simp only[e0,e1,yAl]at hC;refine aK.aG 27 h0 func86 (h:=?_);refine aC (A2 h1 hC) ?_;refine Wp.loop ?_;refine aC trivial ?_;obtain⟨X,hX⟩:=gn (aA.box (.agg [.str nm,.int .i64 a,.int .i64 b,.slice 0 [] .full]));refine⟨.agg [.str nm,.int .i64 a,.int .i64 b,.slice 0 [] .full],τ++[X,X],?_,⟨0,[],λ_=>0,⟨rfl,rfl,λh=>absurd h (yCG 0),λg h=>absurd h (yAZ g),λg g' h=>absurd h (yAZ g)⟩⟩,Ck,λid h=>yAg h⟩;rw[<-hX];simp[bQ]
 have hp:0<l.length:=yCo.2 hl0;have e1:∀id,hd 3 id l.length=.aO id 0 0 l.length 3:=λid=>by unfold hd;rw[yAI Cj]
 have e2:newRow 92 3 (l.map Em.eZ.aB)=[.row 92 3 0 ((l.map λr=>[PD.int .i64 r.lo,.int .i64 r.hi,gJ.aB r.aQ]).flatten)]:=by
  unfold newRow;rw[yAI Dq,aOY]
 simp only[e1,e2]at hC;obtain⟨g0,rU⟩:=gn ((l.map λr=>[PD.int .i64 r.lo,.int .i64 r.hi,gJ.aB r.aQ]));rw[rU]at hC;obtain⟨c0,hc0⟩:=gn (g0.flatten);rw[hc0]at hC;rw[tK hl0]at hC ⊢;obtain⟨xs,hxs⟩:=gn (l.map Em.eZ.aB);rw[hxs]at hC ⊢;refine aK.aG 27 h0 func86 (h:=?_);refine aC (A2 h1 hC) ?_;obtain⟨B,hB⟩:=gn (τ.length);rw[hB];have M0:∀g (h:g<l.length),g0[g]?=some [.int .i64 l[g].lo,.int .i64 l[g].hi,gJ.aB l[g].aQ]:=λg h=>by
  subst rU;rw[yAo,yAh h];rfl
 have M1:g0.length=l.length:=by rw[<-rU,yAe]
 have M5:∀g∈g0,g.length=3:=λg h=>by
  rw[<-rU]at h;exact qz
 obtain⟨X,hX⟩:=gn (aA.box (.agg [.str nm,.int .i64 a,.int .i64 b,.aO (B+2) 0 0 l.length 3]));obtain⟨Y,hY⟩:=gn (aA.box (.agg [.str [],.int .i64 0,.int .i64 0,.slice 0 [] .full]));refine Wp.dJ (λm fr σ=>∃(i:Nat) (gs:List (List PD)) (iW:Nat->Nat) (σ1:List aA),∃gg:Nat->PD,(i+m=l.length/\gs.length=l.length/\(∀g∈gs,g.length=3)/\σ1[B]?=some X/\σ1[B+1]?=some Y/\σ1[B+2]?=some (.row 92 3 0 gs.flatten)/\(∀id,id<B->σ1[id]?=τ[id]?)/\(∀g (h:g<l.length),i<=g->gs[g]?=some [.int .i64 l[g].lo,.int .i64 l[g].hi,gJ.aB l[g].aQ])/\(∀g (h:g<l.length),g<i->gs[g]?=some [.int .i64 l[g].lo,.int .i64 l[g].hi,hd 2 (iW g) l[g].aQ.length]/\(0<l[g].aQ.length->B+2<iW g/\iW g<σ1.length/\σ1[iW g]?=some (.row 89 2 0 (iZ l[g].aQ))))/\(∀g g' (h:g<l.length) (h':g'<l.length),g<i->g'<i->0<l[g].aQ.length->0<l[g'].aQ.length->iW g=iW g'->g=g'))/\fr=[gg 0,.ptr B 0,.ptr (B+1) 0,gg 3,gg 4,gg 5,gg 6,gg 7,gg 8,gg 9,.aO (B+2) 0 0 l.length 3,.int .i64 l.length,.int .i64 i,gg 13,gg 14,gg 15,gg 16,gg 17,gg 18,gg 19,gg 20,gg 21,gg 22,gg 23,gg 24,gg 25,gg 26]/\σ=σ1) ?_ (l.length) (by refine⟨0,g0,(λ_=>0),(τ++[X,Y,.row 92 3 0 c0]),?_⟩;exact fQ (⟨Cj,M1,M5,En,En,by rw[<-hB,hc0];simp,λid h=>by rw[yAg Cj],λg h _=>M0 g h,λg h h2=>absurd h2 (yAZ g),λg g' h h' h2=>absurd h2 (yAZ g)⟩) (A3 hX hY hB))
 rintro m fr σ ⟨i,gs,iW,σ1,gg,hI,rfl,rfl⟩
 obtain⟨hm,hgl,gO,v0,v1,v2,hkeep,hrest,hdone,hinj⟩:=hI;have hlen:=lF (sz:=3) gs gO;obtain⟨r0,y0⟩:=yA.1 v0;obtain⟨r1,y1⟩:=yA.1 v1;obtain⟨r2,y2⟩:=yA.1 v2
 by_cases hi:i<l.length
 .have q1:(i:Int)<(l.length:Int):=by omega
  obtain⟨z,hz⟩:=gn (l[i]);have hzd:z.aQ.length<=1000000:=hld z (hz▸yAm hi);have hgi:=hrest i hi (yAk _);have hat:=qX (sz:=3) gs i Cj gO;have D6:gs[i]' Cj=[.int .i64 l[i].lo,.int .i64 l[i].hi,gJ.aB l[i].aQ]:=(yA.1 hgi).2;rw[D6,hz]at hat;have hfl:=wY (sz:=3) (new:=[hd 2 (σ.length+1) z.aQ.length]) (j:=2) Ck gs i Cj gO;rw[D6,hz]at hfl;obtain⟨zl,zh,zd⟩:=z;simp only[aU]at hat hfl hzd;have hset:dF [PD.int .i64 zl,.int .i64 zh,.slice (sz 2 zd) (zd.map Em.draw.aB) .any] 2 [hd 2 (σ.length+1) zd.length]=[.int .i64 zl,.int .i64 zh,hd 2 (σ.length+1) zd.length]:=rfl;rw[hset]at hfl;obtain⟨o8,o9⟩:=gn (gs.set i [PD.int .i64 zl,.int .i64 zh,hd 2 (σ.length+1) zd.length]);rw[o9]at hfl;obtain⟨cs,hcs⟩:=gn (gs.flatten);rw[hcs]at v2 hlen hat hfl y2;obtain⟨LQ,NA⟩:=gn (o8.flatten);rw[NA]at hfl;have fG:i*3+3<=cs.length:=Cj;have gl2:i*3+2+1<=cs.length:=Cj;have gl3:i*3+2<cs.length:=Cj;have xk:jD prog 54 (.aO (B+2) 0 0 l.length 3) (.int .i64 i)=some (.dG (B+2) 0 (i*3)):=by
   simp[jT,hi]
  have hD:=JE (em:=Em.draw) (e:=89) (k:=2) zd hzd;simp only[aU]at hD;obtain⟨h9,jY⟩:=gn (hd 2 (σ.length+1) zd.length);have GP:=λfl=>hD fl (σ++[aA.box (.agg [.int .i64 zl,.int .i64 zh,.slice (sz 2 zd) (zd.map Em.draw.aB) .any])])
  have hll:(σ++[aA.box (.agg [.int .i64 zl,.int .i64 zh,.slice (sz 2 zd) (zd.map Em.draw.aB) .any])]).length=σ.length+1:=Ck;simp only[hll,jY]at GP;have hN1:=MV (fl:=0) h2 GP;rw[jY]at hfl;have p9:h9.plain=true:=Iv;have c9:h9.cells=[h9]:=Iw;unfold PD.plain at p9;unfold PD.cells at c9;simp only[dF,yAT,yAO,yAp,Nat.reduceAdd,yBX,yAi,yBs,yAV]at hfl;obtain⟨nE,GQ⟩:=gn (σ++[aA.box (.agg [.int .i64 zl,.int .i64 zh,.slice (sz 2 zd) (zd.map Em.draw.aB) .any])]++newRow 89 2 (zd.map Em.draw.aB));rw[GQ]at hN1;have mD:=v0;rw[<-hX]at mD;have u0:(σ++[aA.box (.agg [.int .i64 zl,.int .i64 zh,.slice (sz 2 zd) (zd.map Em.draw.aB) .any])])[B]?=some (.box (.agg [.str nm,.int .i64 a,.int .i64 b,.aO (B+2) 0 0 l.length 3])):=bG mD;have u7:nE[B+2]?=some (.row 92 3 0 cs):=by rw[<-GQ];exact bG (bG v2)
  obtain⟨r7,y7⟩:=yA.1 u7;obtain⟨w0,z0⟩:=yA.1 u0;obtain⟨_,vP⟩:=yA.1 mD;have j0:∀x:aA,(σ++[x])[σ.length]?=some x:=λx=>Ck
  refine aC Bq ?_;refine Wp.ZQ Cp ?_;refine oS (A17 u0 w0 @z0 r0 vP j0 hN1 xk hi p9 c9 u7 r7 y7 gl2 gl3 hfl) ?_;apply SQ.nil;refine aC q1 ?_;have CJ:σ.length+1<=nE.length:=by rw[<-GQ,yAa,yAa];simp
  have q9:∀(id:Nat) (o:aA),σ[id]?=some o->nE[id]?=some o:=λid o h=>by rw[<-GQ];exact bG (bG h)
  obtain⟨bW,dB⟩:=gn (nE.set (B+2) (.row 92 3 0 LQ));have iH:∀id,id≠B+2->bW[id]?=nE[id]?:=λid h=>Dm
  have R9:bW.length=nE.length:=by rw[<-dB,yAD]
  have M6:bW[B+2]?=some (.row 92 3 0 o8.flatten):=by rw[<-dB,NA];exact yAj r7
  have M7:o8.length=l.length:=by rw[<-o9,yAD,hgl]
  have M8:∀g∈o8,g.length=3:=λg h=>by
   exact mq
  have hdn:∀g (h:g<l.length),g<i+1->o8[g]?=some [.int .i64 l[g].lo,.int .i64 l[g].hi,hd 2 (if g=i then σ.length+1 else iW g) l[g].aQ.length]/\(0<l[g].aQ.length->B+2<(if g=i then σ.length+1 else iW g)/\(if g=i then σ.length+1 else iW g)<bW.length/\bW[if g=i then σ.length+1 else iW g]?=some (.row 89 2 0 (iZ l[g].aQ))):=λg h h2=>by
   by_cases e:g=i
   .subst e;simp only[yAK,hz];refine⟨?_,λjW=>⟨Cj,?_,?_⟩⟩
    .rw[<-o9,yAj Cj,jY]
    .rw[R9,<-GQ,yAa,hll];unfold newRow;rw[yAI Dq];simp
    .rw[iH _ Cj,<-GQ,<-hll,R8 _ (by rw[yAe];exact jW),aFr]
   .rw[yAI e];obtain⟨d1,d2⟩:=hdone g h Cj;refine⟨?_,λjW=>?_⟩
    .rw[<-o9,yAd (yAU e)];exact d1
    .obtain⟨k1,k2,k3⟩:=d2 jW;exact⟨k1,by rw[R9];omega,by rw[iH _ Cj];exact q9 _ _ k3⟩
  have hin:∀g g' (h:g<l.length) (h':g'<l.length),g<i+1->g'<i+1->0<l[g].aQ.length->0<l[g'].aQ.length->(if g=i then σ.length+1 else iW g)=(if g'=i then σ.length+1 else iW g')->g=g':=λg g' h h' b1 b2 p1 p2 e=>by
   by_cases e1:g=i
   .by_cases e2:g'=i
    .rw[e1,e2]
    .rw[yAJ e1,yAI e2]at e;have:=((hdone g' h' Cj).2 p2).2.1;omega
   .by_cases e2:g'=i
    .rw[yAI e1,yAJ e2]at e;have:=((hdone g h Cj).2 p1).2.1;omega
    .rw[yAI e1,yAI e2]at e;exact hinj g g' h h' Cj Cj p1 p2 e
  refine bM.normal (m-1) Cj (by refine⟨i+1,o8,(λg=>if g=i then σ.length+1 else iW g),bW,?_⟩;exact fQ (⟨Cj,M7,M8,by rw[iH B Cj];exact q9 _ _ v0,by rw[iH (B+1) Cj];exact q9 _ _ v1,M6,λid h=>by rw[iH id Cj,<-GQ,yAg Cu,yAg Cj];exact hkeep id h,λg h h2=>by rw[<-o9,yAd Cj];exact hrest g h Cj,hdn,hin⟩) @dB)
 .have q1:¬(i:Int)<(l.length:Int):=by omega
  have mD:=v0;have v1':=v1;rw[<-hX]at mD;rw[<-hY]at v1';obtain⟨_,vP⟩:=yA.1 mD;obtain⟨_,M9⟩:=yA.1 v1';refine aC (A7 q1 mD r0 vP v1' r1 M9) ?_;obtain⟨bW,dB⟩:=gn (σ.set (B+1) (.box (.agg [.str nm,.int .i64 a,.int .i64 b,.aO (B+2) 0 0 l.length 3])));rw[dB];have iH:∀id,id≠B+1->bW[id]?=σ[id]?:=λid h=>Dm
  have z1:bW[B+1]?=some (.box (.agg [.str nm,.int .i64 a,.int .i64 b,.aO (B+2) 0 0 l.length 3])):=Jc;refine⟨.agg [.str nm,.int .i64 a,.int .i64 b,.aO (B+2) 0 0 l.length 3],bW,by simp[bQ,z1],⟨B+2,gs,iW,?_⟩,Ew,λid h=>by rw[iH id Cj];exact hkeep id h⟩;refine⟨by rw[e1],hgl,λ_=>⟨Cj,by rw[iH _ Cj];exact v2⟩,λg (h:g<l.length)=>?_,λg g' (h:g<l.length) (h':g'<l.length)=>hinj g g' h h' Cj Cj⟩;obtain⟨d1,d2⟩:=hdone g h Cj;exact⟨d1,λjW=>by obtain⟨k1,k2,k3⟩:=d2 jW;exact⟨Cj,by rw[iH _ Cj];exact k3⟩⟩
end
section
structure mZ (σ:List aA) (lo:Nat) (d:bI) (p:PD) (iS:Nat) (ss:List (List PD)) (tG:Nat->Nat) (tgs:Nat->List (List PD)) (tW:Nat->Nat->Nat):Prop where
 p:p=.agg [.str d.name,.bool d.dO,.int .i64 d.low,.int .i64 d.high,hd 4 iS d.stops.length]
 len:ss.length=d.stops.length
 row:0<d.stops.length->lo<=iS/\σ[iS]?=some (.row 56 4 0 ss.flatten)
 at_:∀s (h:s<d.stops.length),ss[s]?=some [.str d.stops[s].name,.int .i64 d.stops[s].num,.int .i64 d.stops[s].den,hd 3 (tG s) d.stops[s].aN.length] /\
  rO σ lo d.stops[s] (.agg [.str d.stops[s].name,.int .i64 d.stops[s].num,.int .i64 d.stops[s].den,hd 3 (tG s) d.stops[s].aN.length]) (tG s) (tgs s) (tW s)
 inj:∀s s' g g' (h:s<d.stops.length) (h':s'<d.stops.length) (k:g<d.stops[s].aN.length) (k':g'<d.stops[s'].aN.length),0<d.stops[s].aN[g].aQ.length->0<d.stops[s'].aN[g'].aQ.length->tW s g=tW s' g'->s=s'/\g=g'
theorem rO.aM{σ σ':Jp}{lo lo':Nat}{s:cJ}{p:PD}{iG:Nat}{gs:Jn}{iW:Nat->Nat}(h:rO σ lo s p iG gs iW)(hl:lo'<=lo)(hk:∀(id:Nat) (o:aA),lo<=id->σ[id]?=some o->σ'[id]?=some o):rO σ' lo' s p iG gs iW:=by
 obtain⟨h1,h2,h3,h4,h5⟩:=h;exact⟨h1,h2,λhp=>⟨yAQ hl (h3 hp).1,hk _ _ (h3 hp).1 (h3 hp).2⟩,λg h=>⟨(h4 g h).1,λhp=>⟨yAQ hl ((h4 g h).2 hp).1,hk _ _ ((h4 g h).2 hp).1 ((h4 g h).2 hp).2⟩⟩,h5⟩
variable{E E0:aE}(hU:aJ E)
include hU
theorem aE7(h0:E 77=none)(h1:E 110=some (iX 56 4))(h2:E 86=some (dI prog E0 86))
  (hcs:∀(s:cJ) (hs:jQ s) (τ:List aA),aK prog E0 0 (.inl 86) [Em.stop.aB s] τ (λp σ'=>(∃iG gs iW,rO σ' τ.length s p iG gs iW)/\τ.length<=σ'.length/\∀id,id<τ.length->σ'[id]?=τ[id]?)) (d:bI) (hd:gT d) (τ:List aA) :
  aK prog E 0 (.inl 77) [Em.div.aB d] τ (λp σ'=>(∃iS ss tG tgs tW,mZ σ' τ.length d p iS ss tG tgs tW)/\τ.length<=σ'.length/\∀id,id<τ.length->σ'[id]?=τ[id]?):=by
 clear hU;obtain⟨nm,pe,a,b,l⟩:=d;obtain⟨hl,hld⟩:=hd;simp only at hl hld;have hC:=JE (em:=Em.stop) (e:=56) (k:=4) l hl;simp only[nL,aU]at hC ⊢
 by_cases hl0:l=[]
 .subst hl0;have e0:newRow 56 4 (([]:List cJ).map Em.stop.aB)=[]:=rfl;have e1:∀id,Go.Kz.hd 4 id ([]:List cJ).length=.slice 0 [] .full:=λ_=>rfl
  simp only[e0,e1,yAl]at hC;refine aK.aG 25 h0 func77 (h:=?_);refine aC (A2 h1 hC) ?_;refine Wp.loop ?_;refine aC trivial ?_;obtain⟨X,hX⟩:=gn (aA.box (.agg [.str nm,.bool pe,.int .i64 a,.int .i64 b,.slice 0 [] .full]));refine⟨.agg [.str nm,.bool pe,.int .i64 a,.int .i64 b,.slice 0 [] .full],τ++[X,X],?_,⟨0,[],λ_=>0,λ_=>[],λ_ _=>0,⟨rfl,rfl,λh=>absurd h (yCG 0),λg h=>absurd h (yAZ g),λs s' g g' h=>absurd h (yAZ s)⟩⟩,Ck,λid h=>yAg h⟩;rw[<-hX];simp[bQ]
 have hp:0<l.length:=yCo.2 hl0;have e1:∀id,Go.Kz.hd 4 id l.length=.aO id 0 0 l.length 4:=λid=>by unfold Go.Kz.hd;rw[yAI Cj]
 have e2:newRow 56 4 (l.map Em.stop.aB)=[.row 56 4 0 ((l.map λr=>[PD.str r.name,.int .i64 r.num,.int .i64 r.den,oQ.aB r.aN]).flatten)]:=by
  unfold newRow;rw[yAI Dq,aOW]
 simp only[e1,e2]at hC;obtain⟨g0,rU⟩:=gn ((l.map λr=>[PD.str r.name,.int .i64 r.num,.int .i64 r.den,oQ.aB r.aN]));rw[rU]at hC;obtain⟨c0,hc0⟩:=gn (g0.flatten);rw[hc0]at hC;rw[tK hl0]at hC ⊢;obtain⟨xs,hxs⟩:=gn (l.map Em.stop.aB);rw[hxs]at hC ⊢;refine aK.aG 25 h0 func77 (h:=?_);refine aC (A2 h1 hC) ?_;obtain⟨B,hB⟩:=gn (τ.length);rw[hB];have M0:∀g (h:g<l.length),g0[g]?=some [.str l[g].name,.int .i64 l[g].num,.int .i64 l[g].den,oQ.aB l[g].aN]:=λg h=>by
  subst rU;rw[yAo,yAh h];rfl
 have M1:g0.length=l.length:=by rw[<-rU,yAe]
 have M5:∀g∈g0,g.length=4:=λg h=>by
  rw[<-rU]at h;exact qz
 obtain⟨X,hX⟩:=gn (aA.box (.agg [.str nm,.bool pe,.int .i64 a,.int .i64 b,.aO (B+2) 0 0 l.length 4]));obtain⟨Y,hY⟩:=gn (aA.box (.agg [.str [],.bool false,.int .i64 0,.int .i64 0,.slice 0 [] .full]));refine Wp.dJ (λm fr σ=>∃(i:Nat) (gs:List (List PD)) (tG:Nat->Nat) (tgs:Nat->List (List PD)) (tW:Nat->Nat->Nat) (σ1:List aA),∃gg:Nat->PD,(i+m=l.length/\gs.length=l.length/\(∀g∈gs,g.length=4)/\σ1[B]?=some X/\σ1[B+1]?=some Y/\σ1[B+2]?=some (.row 56 4 0 gs.flatten)/\(∀id,id<B->σ1[id]?=τ[id]?)/\(∀g (h:g<l.length),i<=g->gs[g]?=some [.str l[g].name,.int .i64 l[g].num,.int .i64 l[g].den,oQ.aB l[g].aN])/\(∀s (h:s<l.length),s<i->gs[s]?=some [.str l[s].name,.int .i64 l[s].num,.int .i64 l[s].den,Go.Kz.hd 3 (tG s) l[s].aN.length]/\rO σ1 (B+3) l[s] (.agg [.str l[s].name,.int .i64 l[s].num,.int .i64 l[s].den,Go.Kz.hd 3 (tG s) l[s].aN.length]) (tG s) (tgs s) (tW s))/\(∀s s' g g' (h:s<l.length) (h':s'<l.length) (k:g<l[s].aN.length) (k':g'<l[s'].aN.length),s<i->s'<i->0<l[s].aN[g].aQ.length->0<l[s'].aN[g'].aQ.length->tW s g=tW s' g'->s=s'/\g=g'))/\fr=[gg 0,.ptr B 0,.ptr (B+1) 0,gg 3,gg 4,gg 5,gg 6,gg 7,gg 8,gg 9,.aO (B+2) 0 0 l.length 4,.int .i64 l.length,.int .i64 i,gg 13,gg 14,gg 15,gg 16,gg 17,gg 18,gg 19,gg 20,gg 21,gg 22,gg 23,gg 24]/\σ=σ1) ?_ (l.length) (by refine⟨0,g0,(λ_=>0),(λ_=>[]),(λ_ _=>0),(τ++[X,Y,.row 56 4 0 c0]),?_⟩;exact fQ (⟨Cj,M1,M5,En,En,by rw[<-hB,hc0];simp,λid h=>by rw[yAg Cj],λg h _=>M0 g h,λg h h2=>absurd h2 (yAZ g),λs s' g g' h h' k k' h2=>absurd h2 (yAZ s)⟩) (A3 hX hY hB))
 rintro m fr σ ⟨i,gs,tG,tgs,tW,σ1,gg,hI,rfl,rfl⟩
 obtain⟨hm,hgl,gO,v0,v1,v2,hkeep,hrest,hdone,hinj⟩:=hI;have hlen:=lF (sz:=4) gs gO;obtain⟨r0,y0⟩:=yA.1 v0;obtain⟨r1,y1⟩:=yA.1 v1;obtain⟨r2,y2⟩:=yA.1 v2
 by_cases hi:i<l.length
 .have q1:(i:Int)<(l.length:Int):=by omega
  have hzo:=hld _ (yAm hi);have hgi:=hrest i hi (yAk _);have hat:=qX (sz:=4) gs i Cj gO;have D6:gs[i]' Cj=[.str l[i].name,.int .i64 l[i].num,.int .i64 l[i].den,oQ.aB l[i].aN]:=(yA.1 hgi).2;obtain⟨z,hz⟩:=gn (l[i]);rw[D6,hz]at hat;rw[hz]at hzo;have hW:=hcs z hzo (σ++[aA.box (Em.stop.aB z)]);have hll:(σ++[aA.box (Em.stop.aB z)]).length=σ.length+1:=Ck;obtain⟨pz,nE,hev,⟨iG,zgs,iW,hst⟩,CJ,q9⟩:=hW.e0 Ck;rw[hll]at hst CJ q9;have hpz:=hst.p;subst hpz;have hfl:=wY (sz:=4) (new:=[.str z.name,.int .i64 z.num,.int .i64 z.den,Go.Kz.hd 3 iG z.aN.length]) (j:=0) Ck gs i Cj gO;rw[D6,hz]at hfl;have hset:dF [PD.str z.name,.int .i64 z.num,.int .i64 z.den,oQ.aB z.aN] 0 [.str z.name,.int .i64 z.num,.int .i64 z.den,Go.Kz.hd 3 iG z.aN.length]=[.str z.name,.int .i64 z.num,.int .i64 z.den,Go.Kz.hd 3 iG z.aN.length]:=rfl;rw[hset,yBm]at hfl;obtain⟨o8,o9⟩:=gn (gs.set i [PD.str z.name,.int .i64 z.num,.int .i64 z.den,Go.Kz.hd 3 iG z.aN.length]);rw[o9]at hfl;obtain⟨cs,aOX⟩:=gn (gs.flatten);rw[aOX]at v2 hlen hat hfl y2;obtain⟨LQ,NA⟩:=gn (o8.flatten);rw[NA]at hfl;have fG:i*4+4<=cs.length:=Cj;have xk:jD prog 51 (.aO (B+2) 0 0 l.length 4) (.int .i64 i)=some (.dG (B+2) 0 (i*4)):=by
   simp[jT,hi]
  obtain⟨h9,jY⟩:=gn (Go.Kz.hd 3 iG z.aN.length);have p9:h9.plain=true:=Iv;have c9:h9.cells=[h9]:=Iw;rw[jY]at hev hfl;simp only[dF,yAT,yAO,yAp,Nat.reduceAdd,yBX,yAi,yBs,yAV]at hfl;unfold PD.plain at p9;have mD:=v0;rw[<-hX]at mD;have u0:(σ++[aA.box (Em.stop.aB z)])[B]?=some (.box (.agg [.str nm,.bool pe,.int .i64 a,.int .i64 b,.aO (B+2) 0 0 l.length 4])):=bG mD;have u7:nE[B+2]?=some (.row 56 4 0 cs):=by rw[q9 _ Cj];exact bG v2
  obtain⟨r7,y7⟩:=yA.1 u7;obtain⟨w0,z0⟩:=yA.1 u0;obtain⟨_,vP⟩:=yA.1 mD;have j0:∀x:aA,(σ++[x])[σ.length]?=some x:=λx=>Ck
  have hK:=pT (B:=[B]) h2 hev (by rw[hll];exact CJ) (λid h h3=>q9 id (by rw[hll]at h3;exact h3));obtain⟨zn,za,zb,zs⟩:=z;simp only[pZ,aU]at hat hK u0 w0 z0 hll;refine aC Bq ?_;refine Wp.D1 h2 DZ Ck [(1,B),(4,σ.length)] [B] [some B] Cp ⟨⟨_,rfl⟩,⟨_,rfl⟩,trivial⟩ Cl Ek ?_;refine oS Bz ?_;apply SQ.nil;refine aC q1 ?_;have x6:∀id,id<σ.length->nE[id]?=σ[id]?:=λid h=>by rw[q9 id Cj,yAg h]
  obtain⟨bW,dB⟩:=gn (nE.set (B+2) (.row 56 4 0 LQ));have iH:∀id,id≠B+2->bW[id]?=nE[id]?:=λid h=>Dm
  have M6:bW[B+2]?=some (.row 56 4 0 o8.flatten):=by rw[<-dB,NA];exact yAj r7
  have M7:o8.length=l.length:=by rw[<-o9,yAD,hgl]
  have M8:∀g∈o8,g.length=4:=λg h=>by
   exact mq
  have hlt:∀(id:Nat) (o:aA),σ[id]?=some o->id<σ.length:=λid o h=>(yA.1 h).1
  have hdn:∀s (h:s<l.length),s<i+1->o8[s]?=some [.str l[s].name,.int .i64 l[s].num,.int .i64 l[s].den,Go.Kz.hd 3 (if s=i then iG else tG s) l[s].aN.length]/\rO bW (B+3) l[s] (.agg [.str l[s].name,.int .i64 l[s].num,.int .i64 l[s].den,Go.Kz.hd 3 (if s=i then iG else tG s) l[s].aN.length]) (if s=i then iG else tG s) (if s=i then zgs else tgs s) (if s=i then iW else tW s):=λs h h2=>by
   exact ep
  have hin:∀s s' g g' (h:s<l.length) (h':s'<l.length) (k:g<l[s].aN.length) (k':g'<l[s'].aN.length),s<i+1->s'<i+1->0<l[s].aN[g].aQ.length->0<l[s'].aN[g'].aQ.length->(if s=i then iW else tW s) g=(if s'=i then iW else tW s') g'->s=s'/\g=g':=λs s' g g' h h' k k' b1 b2 p1 p2 e=>by
   by_cases e1:s=i
   .by_cases e2:s'=i
    .subst e1;subst e2;simp only[yAK]at e;simp only[hz]at k k' p1 p2;exact⟨rfl,hst.inj g g' k k' p1 p2 e⟩
    .rw[yAJ e1,yAI e2]at e;have h1:=hlt _ _ (((hdone s' h' Cj).2.at_ g' k').2 p2).2;subst e1;simp only[hz]at k p1;have h2:=((hst.at_ g k).2 p1).1;omega
   .by_cases e2:s'=i
    .rw[yAI e1,yAJ e2]at e;have h1:=hlt _ _ (((hdone s h Cj).2.at_ g k).2 p1).2;subst e2;simp only[hz]at k' p2;have h2:=((hst.at_ g' k').2 p2).1;omega
    .exact uw
  refine bM.normal (m-1) Cj (by refine⟨i+1,o8,(λs=>if s=i then iG else tG s),(λs=>if s=i then zgs else tgs s),(λs=>if s=i then iW else tW s),bW,?_⟩;exact fQ (⟨Cj,M7,M8,by rw[iH B Cj,x6 B r0];exact v0,by rw[iH (B+1) Cj,x6 _ r1];exact v1,M6,λid h=>by rw[iH id Cj,x6 id Cj];exact hkeep id h,λg h h2=>by rw[<-o9,yAd Cj];exact hrest g h Cj,hdn,hin⟩) @dB)
 .have q1:¬(i:Int)<(l.length:Int):=by omega
  have mD:=v0;have v1':=v1;rw[<-hX]at mD;rw[<-hY]at v1';obtain⟨_,vP⟩:=yA.1 mD;obtain⟨_,M9⟩:=yA.1 v1';refine aC (A7 q1 mD r0 vP v1' r1 M9) ?_;obtain⟨bW,dB⟩:=gn (σ.set (B+1) (.box (.agg [.str nm,.bool pe,.int .i64 a,.int .i64 b,.aO (B+2) 0 0 l.length 4])));rw[dB];have iH:∀id,id≠B+1->bW[id]?=σ[id]?:=λid h=>Dm
  have z1:bW[B+1]?=some (.box (.agg [.str nm,.bool pe,.int .i64 a,.int .i64 b,.aO (B+2) 0 0 l.length 4])):=Jc;refine⟨.agg [.str nm,.bool pe,.int .i64 a,.int .i64 b,.aO (B+2) 0 0 l.length 4],bW,by simp[bQ,z1],⟨B+2,gs,tG,tgs,tW,?_⟩,Ew,λid h=>by rw[iH id Cj];exact hkeep id h⟩;refine⟨by rw[e1],hgl,λ_=>⟨Cj,by rw[iH _ Cj];exact v2⟩,λs (h:s<l.length)=>?_,λs s' g g' (h:s<l.length) (h':s'<l.length) k k'=>hinj s s' g g' h h' k k' Cj Cj⟩;exact oq
end
section
theorem aOR(l:List Int)(h0:l≠[])(hl:l.length<=1000000)(σ:List aA):∃tok σ',uF prog 46 1 0 [.slice 1 (l.map i64.aB) .any] σ=some (.slice 1 (l.map i64.aB) tok,σ')/\lK σ' tok 3 1 l.length/\∀(id:Nat) (o:aA),σ[id]?=some o->σ'[id]?=some o:=by
 obtain⟨tok,σ',h1,h2,h3⟩:=aOS (P:=prog) (σ:=σ) (t:=46) (e:=3) (k:=1) (b:=8) (s:=1) (z:=1) (xs:=l.map i64.aB) underlying46 Cl (.inr rfl) Dq Dq;refine⟨tok,σ',?_,by rw[yAe]at h2;exact h2,h3⟩;have hn:l.length≠0:=λh=>h0 (yAf h)
 rw[yAe,yAI hn]at h1;obtain⟨x,l',rfl⟩:=List.exists_cons_of_ne_nil h0;simp only[yAW]at h1 ⊢;have hr:dM prog 8 0 σ 46 (.slice 1 [] .full) (.slice 1 (i64.aB x::l'.map i64.aB) .any)=none:=by
  unfold dM;rw[yAI Cp]
 unfold uF pap;simp only[hr];have hs:(PD.slice (0+1) (i64.aB x::l'.map i64.aB) .any).strip=.slice (0+1) (i64.aB x::l'.map i64.aB) .any:=by
  have h:=gH.str (x::l');rw[aU,tK h0]at h;exact h
 rw[hs];exact h1
variable{E E0:aE}(hU:aJ E)
include hU
omit hU in
theorem aK7(h0:E 76=none)(h1:E 109=some (uF prog 46 1))(r:bH)(hr:gS r):aI prog E 76 [Em.aL.aB r] (Em.aL.aB r):=by
 obtain⟨nm,tn,a,b,c,w⟩:=r;simp only[oB,aU]
 by_cases hw:w=[]
 .subst hw;have hC:∀fl σ k,uF prog 46 1 fl [.slice k [] .any] σ=some (.slice 0 [] .full,σ):=λfl σ k=>rfl
  refine aI.aG 8 h0 func76 (h:=?_);refine aC (A2 h1 hC) ?_;exact cg
 rw[tK hw];have hlen:(w.map i64.aB).length=w.length:=yAe ..;obtain⟨xs,hxs⟩:=gn (w.map i64.aB);obtain⟨X,hX⟩:=gn (aA.box (.agg [.str nm,.str tn,.int .i64 a,.int .i64 b,.int .i64 c,.slice 1 xs .any]));obtain⟨Y,hY⟩:=gn (aA.box (.agg [.str [],.str [],.int .i64 0,.int .i64 0,.int .i64 0,.slice 0 [] .full]));obtain⟨tok,σ',e1,e2,e3⟩:=aOR w hw hr [X,Y];have g0:=e3 0 X rfl;have g1:=e3 1 Y rfl;rw[hxs]at e1 ⊢;obtain⟨w0,z0⟩:=yA.1 g0;rw[<-hX]at z0;obtain⟨w1,z1⟩:=yA.1 g1;rw[<-hY]at z1;rw[<-hX,<-hY]at e1;rw[<-hX]at g0;rw[<-hY]at g1;refine aI.aG 8 h0 func76 (h:=?_);refine aC (A8 h1 e1 w0 @z0 @g0 @g1 w1 z1) ?_;refine⟨.agg [.str nm,.str tn,.int .i64 a,.int .i64 b,.int .i64 c,.slice 1 xs tok],(σ'.set 0 (.box (.agg [.str nm,.str tn,.int .i64 a,.int .i64 b,.int .i64 c,.slice 1 xs tok]))).set 1 (.box (.agg [.str nm,.str tn,.int .i64 a,.int .i64 b,.int .i64 c,.slice 1 xs tok])),?_,?_⟩
 .simp[bQ,w1]
 .have h:=gH.str w;rw[aU,tK hw,hxs]at h;have hx:(PD.slice 1 xs tok).strip=(PD.slice 1 xs .any).strip:=by
   obtain⟨x,l,rfl⟩:=List.exists_cons_of_ne_nil (show xs≠[]from λe=>hw (by rw[e]at hxs;exact List.map_eq_nil_iff.1 hxs));rfl
  simp only[PD.strip,PD.mJ];rw[hx,h]
omit hU in
theorem mZ.aM{σ σ':Jp}{lo lo':Nat}{d:bI}{p:PD}{iS:Nat}{ss:Jn}{tG:Nat->Nat}{tgs:Jm}{tW:Nat->Nat->Nat}(h:mZ σ lo d p iS ss tG tgs tW)(hl:lo'<=lo)(hk:∀(id:Nat) (o:aA),lo<=id->σ[id]?=some o->σ'[id]?=some o):mZ σ' lo' d p iS ss tG tgs tW:=by
 obtain⟨h1,h2,h3,h4,h5⟩:=h;exact⟨h1,h2,λhp=>⟨yAQ hl (h3 hp).1,hk _ _ (h3 hp).1 (h3 hp).2⟩,λg h=>⟨(h4 g h).1,(h4 g h).2.aM hl hk⟩,h5⟩
structure iY (σ:List aA) (lo:Nat) (o:aV) (p:PD) (iR iD iC:Nat) (ds:List (List PD)) (tS:Nat->Nat) (tss:Nat->List (List PD)) (tG:Nat->Nat->Nat) (tgs:Nat->Nat->List (List PD)) (tW:Nat->Nat->Nat->Nat):Prop where
 p:p=.agg [.str o.name,hd 6 iR o.aR.length,hd 5 iD o.aD.length,hd 5 iC o.aP.length]
 aL:0<o.aR.length->lo<=iR/\σ[iR]?=some (.row 48 6 0 ((o.aR.map Em.aL.aB).flatMap PD.cells))
 aZ:0<o.aP.length->lo<=iC/\σ[iC]?=some (.row 58 5 0 ((o.aP.map Em.aZ.aB).flatMap PD.cells))
 len:ds.length=o.aD.length
 row:0<o.aD.length->lo<=iD/\σ[iD]?=some (.row 53 5 0 ds.flatten)
 at_:∀d (h:d<o.aD.length),ds[d]?=some [.str o.aD[d].name,.bool o.aD[d].dO,.int .i64 o.aD[d].low,.int .i64 o.aD[d].high,hd 4 (tS d) o.aD[d].stops.length] /\
  mZ σ lo o.aD[d] (.agg [.str o.aD[d].name,.bool o.aD[d].dO,.int .i64 o.aD[d].low,.int .i64 o.aD[d].high,hd 4 (tS d) o.aD[d].stops.length]) (tS d) (tss d) (tG d) (tgs d) (tW d)
 ZC:∀d d' (h:d<o.aD.length) (h':d'<o.aD.length),0<o.aD[d].stops.length->0<o.aD[d'].stops.length->tS d=tS d'->d=d'
 MU:∀d d' s s' g g' (h:d<o.aD.length) (h':d'<o.aD.length) (k:s<o.aD[d].stops.length) (k':s'<o.aD[d'].stops.length) (l:g<o.aD[d].stops[s].aN.length) (l':g'<o.aD[d'].stops[s'].aN.length),0<o.aD[d].stops[s].aN[g].aQ.length->0<o.aD[d'].stops[s'].aN[g'].aQ.length->tW d s g=tW d' s' g'->d=d'/\s=s'/\g=g'
theorem aNX(h0:E 41=none)(h1:E 73=some (iX 48 6))(h2:E 74=some (iX 53 5))(h3:E 75=some (iX 58 5))
  (h4:E 76=some (entry (cK Em.aL Em.aL λr=>dY (gS r) (some r)))) (h5:E 77=some (dI prog E0 77))
  (hcs:∀(d:bI) (hs:gT d) (τ:List aA),aK prog E0 0 (.inl 77) [Em.div.aB d] τ (λp σ'=>(∃iS ss tG tgs tW,mZ σ' τ.length d p iS ss tG tgs tW)/\τ.length<=σ'.length/\∀id,id<τ.length->σ'[id]?=τ[id]?))
  (o:aV) (ho:eF o) (τ:List aA) :
  aK prog E 0 (.inl 41) [Em.bB.aB o] τ (λp σ'=>(∃iR iD iC ds tS tss tG tgs tW,iY σ' τ.length o p iR iD iC ds tS tss tG tgs tW)/\τ.length<=σ'.length/\∀id,id<τ.length->σ'[id]?=τ[id]?):=by
 clear hU;obtain⟨nm,rs,ds,cs⟩:=o;obtain⟨⟨nU,zF⟩,⟨rL,jE⟩,dX⟩:=ho;simp only at nU zF rL jE dX;have hCR:=JE (em:=Em.aL) (e:=48) (k:=6) rs nU;have hCD:=JE (em:=Em.div) (e:=53) (k:=5) ds rL;have hCC:=JE (em:=Em.aZ) (e:=58) (k:=5) cs dX;have kR:=λfl σ=>MV (fl:=fl) (σ:=σ) h1 (λfl=>hCR fl σ)
 have kD:=λfl σ=>MV (fl:=fl) (σ:=σ) h2 (λfl=>hCD fl σ)
 have kC:=λfl σ=>MV (fl:=fl) (σ:=σ) h3 (λfl=>hCC fl σ)
 simp only[dT,aU]at kR kD kC ⊢;obtain⟨B,hB⟩:=gn (τ.length);obtain⟨nR,hnR⟩:=gn (newRow 48 6 (rs.map Em.aL.aB));obtain⟨nD,hnD⟩:=gn (newRow 53 5 (ds.map Em.div.aB));obtain⟨nC,hnC⟩:=gn (newRow 58 5 (cs.map Em.aZ.aB));rw[hnR]at kR;rw[hnD]at kD;rw[hnC]at kC;obtain⟨lR,hlR⟩:=gn (rs.map Em.aL.aB);obtain⟨lD,hlD⟩:=gn (ds.map Em.div.aB);obtain⟨lC,hlC⟩:=gn (cs.map Em.aZ.aB);obtain⟨zR,hzR⟩:=gn (sz 6 rs);obtain⟨zD,hzD⟩:=gn (sz 5 ds);obtain⟨zC,hzC⟩:=gn (sz 5 cs);rw[hlR,hzR]at kR;rw[hlD,hzD]at kD;rw[hlC,hzC]at kC;rw[hlR,hlD,hlC,hzR,hzD,hzC];obtain⟨W,hW⟩:=gn (aA.box (.agg [.str nm,.slice zR lR .any,.slice zD lD .any,.slice zC lC .any]));obtain⟨Y,hY⟩:=gn (aA.box (.agg [.str [],.slice 0 [] .full,.slice 0 [] .full,.slice 0 [] .full]));obtain⟨iD,hiD⟩:=gn ((τ++W::Y::nR).length);obtain⟨iC,hiC⟩:=gn ((τ++W::Y::(nR++nD)).length);have MW:=λfl=>kR fl (τ++[W,Y])
 have MY:=λfl=>kD fl (τ++W::Y::nR)
 have MZ:=λfl=>kC fl (τ++W::Y::(nR++nD))
 have e2:(τ++[W,Y]).length=B+2:=by rw[yAa,hB];rfl
 rw[e2]at MW;rw[hiD]at MY;rw[hiC]at MZ;simp only[yAi,yBs,yAV]at MW MY MZ;obtain⟨hR,hhR⟩:=gn (Go.Kz.hd 6 (B+2) rs.length);obtain⟨hD,hhD⟩:=gn (Go.Kz.hd 5 iD ds.length);obtain⟨hC,hhC⟩:=gn (Go.Kz.hd 5 iC cs.length);have pR:hR.plain=true:=Da;have pD:hD.plain=true:=Db;have pC:hC.plain=true:=Dc;unfold PD.plain at pR pD pC;have cR:hR.cells=[hR]:=Ee;have cD:hD.cells=[hD]:=Ef;have cC:hC.cells=[hC]:=Eg;rw[hhR]at MW;rw[hhD]at MY;rw[hhC]at MZ;rw[<-hW,<-hY]at MW MY MZ;have jG:∀(X:aA) L,(τ++X::L)[B]?=some X:=λX L=>En
 have jS:∀(X Y:aA) L,(τ++X::L).set B Y=τ++Y::L:=λX Y L=>En
 unfold PD.cells at cR cD cC;refine aK.aG 50 h0 func41 (h:=?_);refine aC trivial ?_;rw[hB];refine Wp.seq ?_;refine Wp.ZQ Cp ?_;refine oS (A11 MW MY MZ jG jS pR pD pC cR cD cC) ?_;apply SQ.nil;obtain⟨S0,pV⟩:=gn (τ++aA.box (.agg [.str nm,hR,hD,hC])::Y::(nR++(nD++nC)));have lR':gA prog .len #[31] [hR]=some (.int .i64 rs.length):=by
  rw[<-hhR];unfold Go.Kz.hd;split
  .rename_i h;rw[h];rfl
  .rfl
 have lD':gA prog .len #[32] [hD]=some (.int .i64 ds.length):=by
  rw[<-hhD];unfold Go.Kz.hd;split
  .rename_i h;rw[h];rfl
  .rfl
 have sR:0<rs.length->S0[B+2]?=some (.row 48 6 0 ((rs.map λr=>[PD.str r.name,.str r.kH,.int .i64 r.num,.int .i64 r.den,.int .i64 r.first,gH.aB r.mG]).flatten)):=λh=>by
  rw[<-pV,<-hnR,<-aFp,yBP Cj,hB,yCN];show(newRow 48 6 (rs.map Em.aL.aB)++(nD++nC))[0]?=_
  unfold newRow;rw[yAI Dq];rfl
 have sD:0<ds.length->S0[iD]?=some (.row 53 5 0 ((ds.map λr=>[PD.str r.name,.bool r.dO,.int .i64 r.low,.int .i64 r.high,oC.aB r.stops]).flatten)):=λh=>by
  have h1:=R8 (e:=53) (k:=5) (xs:=ds.map Em.div.aB) (τ++aA.box (.agg [.str nm,hR,hD,hC])::Y::nR) Ed;rw[<-pV,<-aOT,<-hnD,<-hiD];have h2:=bG (τ:=nC) h1;simpa using h2
 have sC:0<cs.length->S0[iC]?=some (.row 58 5 0 ((cs.map Em.aZ.aB).flatMap PD.cells)):=λh=>by
  have h1:=R8 (e:=58) (k:=5) (xs:=cs.map Em.aZ.aB) (τ++aA.box (.agg [.str nm,hR,hD,hC])::Y::(nR++nD)) Ed;rw[<-pV,<-hnC,<-hiC];simpa using h1
 have sY:S0[B+1]?=some Y:=by
  rw[<-pV,yBP Cj,hB,yCN];rfl
 have sT:∀id,id<B->S0[id]?=τ[id]?:=λid h=>by rw[<-pV,yAg Cj]
 have iDl:B+2<=iD:=by rw[<-hiD,yAa,hB];simp
 have iCl:B+2<=iC:=by rw[<-hiC,yAa,hB];simp
 obtain⟨L0,lT⟩:=gn (S0.length);have ZD:0<ds.length->iD<L0:=λh=>by rw[<-lT];exact(yA.1 (sD h)).1
 have sB:S0[B]?=some (.box (.agg [.str nm,hR,hD,hC])):=by rw[<-pV,<-hB];simp
 obtain⟨wB,zB⟩:=yA.1 sB;rw[hY,pV];simp[gA,underlying31]at lR';simp[gA,underlying32]at lD';refine aC (A4 lR' sB wB zB) ?_;refine Wp.dJ (λm fr σ=>∃(i:Nat) (σ1:List aA),∃gg:Nat->PD,(i+m=rs.length/\(∀(id:Nat) (x:aA),S0[id]?=some x->σ1[id]?=some x))/\fr=[gg 0,.ptr B 0,.ptr (B+1) 0,gg 3,gg 4,gg 5,gg 6,gg 7,gg 8,gg 9,gg 10,gg 11,gg 12,gg 13,gg 14,gg 15,gg 16,gg 17,gg 18,gg 19,hR,.int .i64 rs.length,.int .i64 i,gg 23,gg 24,gg 25,gg 26,gg 27,gg 28,gg 29,gg 30,gg 31,gg 32,gg 33,gg 34,gg 35,gg 36,gg 37,gg 38,gg 39,gg 40,gg 41,gg 42,gg 43,gg 44,gg 45,gg 46,gg 47,gg 48,gg 49]/\σ=σ1) ?_ (rs.length) (by refine⟨0,S0,?_⟩;exact cE (⟨Cj,λ_ _ h=>h⟩))
 rintro m fr σ ⟨i,σ1,gg,hI,rfl,rfl⟩
 obtain⟨hm,hk⟩:=hI;have v0:=hk _ _ sB;obtain⟨r0,y0⟩:=yA.1 v0
 by_cases hi:i<rs.length
 .have q1:(i:Int)<(rs.length:Int):=by omega
  have hRr:hR=.aO (B+2) 0 0 rs.length 6:=by rw[<-hhR];unfold Go.Kz.hd;rw[yAI Cj]
  have v2:=hk _ _ (sR Cj);obtain⟨gs,hgs⟩:=gn ((rs.map λr=>[PD.str r.name,.str r.kH,.int .i64 r.num,.int .i64 r.den,.int .i64 r.first,gH.aB r.mG]));rw[hgs]at v2;have hgl:gs.length=rs.length:=by rw[<-hgs,yAe]
  have gO:∀g∈gs,g.length=6:=λg h=>by
   rw[<-hgs]at h;exact qz
  have hat:=qX (sz:=6) gs i Cj gO;have hlen:=lF (sz:=6) gs gO;have hgi:gs[i]' Cj=[.str rs[i].name,.str rs[i].kH,.int .i64 rs[i].num,.int .i64 rs[i].den,.int .i64 rs[i].first,gH.aB rs[i].mG]:=by subst hgs;rw[yBq]
  have hzo:=zF _ (yAm hi);obtain⟨z,hz⟩:=gn (rs[i]);rw[hgi,hz]at hat;rw[hz]at hzo;have hfl:=wY (sz:=6) (new:=[.str z.name,.str z.kH,.int .i64 z.num,.int .i64 z.den,.int .i64 z.first,gH.aB z.mG]) (j:=0) Ck gs i Cj gO;rw[hgi,hz]at hfl;have hset:dF [PD.str z.name,.str z.kH,.int .i64 z.num,.int .i64 z.den,.int .i64 z.first,gH.aB z.mG] 0 [PD.str z.name,.str z.kH,.int .i64 z.num,.int .i64 z.den,.int .i64 z.first,gH.aB z.mG]=[PD.str z.name,.str z.kH,.int .i64 z.num,.int .i64 z.den,.int .i64 z.first,gH.aB z.mG]:=rfl;have hsm:gs.set i [PD.str z.name,.str z.kH,.int .i64 z.num,.int .i64 z.den,.int .i64 z.first,gH.aB z.mG]=gs:=by rw[<-hz,<-hgi];exact List.set_getElem_self _
  rw[hset,yBm,hsm]at hfl;obtain⟨fs,hfs⟩:=gn (gs.flatten);rw[hfs]at v2 hlen hat hfl;obtain⟨r2,y2⟩:=yA.1 v2;have fG:i*6+6<=fs.length:=Cj;have xk:jD prog 31 (.aO (B+2) 0 0 rs.length 6) (.int .i64 i)=some (.dG (B+2) 0 (i*6)):=by
   simp[jT,hi]
  have hdec:Em.aL.dec (Em.aL.aB z)=some z:=Em.cT (Em.aL.str z);have hK:∀fl σ,D5 E fl (.inl 76) [Em.aL.aB z] σ=some (Em.aL.aB z,σ):=λfl σ=>by
   have h:=MV (τ:=[]) (fl:=fl) (σ:=σ) h4 (args:=[Em.aL.aB z]) (p:=Em.aL.aB z) (λfl=>by
    unfold entry cK;simp only[hdec];rw[fM hzo,yAl])
   rwa [yAl]at h
  have mD:σ[B]?=some (.box (.agg [.str nm,.aO (B+2) 0 0 rs.length 6,hD,hC])):=by rw[<-hRr];exact v0
  obtain⟨_,vP⟩:=yA.1 mD;have u0:(σ++[aA.box (Em.aL.aB z)])[B]?=some (.box (.agg [.str nm,.aO (B+2) 0 0 rs.length 6,hD,hC])):=bG mD;have u7:(σ++[aA.box (Em.aL.aB z)])[B+2]?=some (.row 48 6 0 fs):=bG v2;obtain⟨r7,y7⟩:=yA.1 u7;obtain⟨w0,z0⟩:=yA.1 u0;have j0:∀x:aA,(σ++[x])[σ.length]?=some x:=λx=>Ck
  obtain⟨zn,zt,za,zb,zc,zw⟩:=z;simp only[oB,aU]at hat hK u0 w0 z0 u7 r7 y7 hfl;simp only[dF,yAT,yAO,yAp,Nat.reduceAdd,yBX,yAi,yBs,yAV]at hfl;rw[hRr];refine aC Bq ?_;refine Wp.ZQ Cp ?_;refine oS (A14 u0 w0 @z0 r0 vP j0 hK xk hi u7 r7 y7 fG hfl) ?_;apply SQ.nil;refine aC q1 ?_;refine bM.normal (m-1) Cj (by refine⟨i+1,(σ.set (B+2) (.row 48 6 0 fs)++[aA.box (.agg [.str zn,.str zt,.int .i64 za,.int .i64 zb,.int .i64 zc,.slice (sz 1 zw) (zw.map i64.aB) .any])]),?_⟩;exact fQ (⟨Cj,λid x h=>bG (if e:id=B+2 then(by subst e;rw[yAj r2,<-v2];exact hk _ _ h)else(by rw[yAd (yAU e)];exact hk _ _ h))⟩) @hfl)
 .have q1:¬(i:Int)<(rs.length:Int):=by omega
  refine aC (A5 q1 @v0 r0 y0 lD') ?_;obtain⟨ρ,hρ⟩:=gn (σ);rw[hρ]at hk ⊢;obtain⟨g0,rU⟩:=gn ((ds.map λr=>[PD.str r.name,.bool r.dO,.int .i64 r.low,.int .i64 r.high,oC.aB r.stops]));rw[rU]at sD;have M0:∀g (h:g<ds.length),g0[g]?=some [.str ds[g].name,.bool ds[g].dO,.int .i64 ds[g].low,.int .i64 ds[g].high,oC.aB ds[g].stops]:=λg h=>by
   subst rU;rw[yAo,yAh h];rfl
  have M1:g0.length=ds.length:=by rw[<-rU,yAe]
  have M5:∀g∈g0,g.length=5:=λg h=>by
   rw[<-rU]at h;exact qz
  have lρ:L0<=ρ.length:=by
   by_cases e:L0=0
   .omega
   .have h1:=hk (L0-1) _ (yAh (show L0-1<S0.length by omega));have:=(yA.1 h1).1;omega
  have bL:B+2<=L0:=by
   have:=(yA.1 sY).1;omega
  obtain⟨Z,hZ⟩:=gn (aA.box (.agg [.str nm,hR,hD,hC]));rw[hZ]at sB;refine Wp.dJ (λm fr σ=>∃(i:Nat) (gs:List (List PD)) (tS:Nat->Nat) (tss:Nat->List (List PD)) (tG:Nat->Nat->Nat) (tgs:Nat->Nat->List (List PD)) (tW:Nat->Nat->Nat->Nat) (σ1:List aA),∃gg:Nat->PD,(i+m=ds.length/\gs.length=ds.length/\(∀g∈gs,g.length=5)/\(∀(id:Nat) (x:aA),(0<ds.length->id≠iD)->S0[id]?=some x->σ1[id]?=some x)/\(0<ds.length->σ1[iD]?=some (.row 53 5 0 gs.flatten))/\L0<=σ1.length/\(∀g (h:g<ds.length),i<=g->gs[g]?=some [.str ds[g].name,.bool ds[g].dO,.int .i64 ds[g].low,.int .i64 ds[g].high,oC.aB ds[g].stops])/\(∀s (h:s<ds.length),s<i->gs[s]?=some [.str ds[s].name,.bool ds[s].dO,.int .i64 ds[s].low,.int .i64 ds[s].high,Go.Kz.hd 4 (tS s) ds[s].stops.length]/\mZ σ1 L0 ds[s] (.agg [.str ds[s].name,.bool ds[s].dO,.int .i64 ds[s].low,.int .i64 ds[s].high,Go.Kz.hd 4 (tS s) ds[s].stops.length]) (tS s) (tss s) (tG s) (tgs s) (tW s))/\(∀d d' (h:d<ds.length) (h':d'<ds.length),d<i->d'<i->0<ds[d].stops.length->0<ds[d'].stops.length->tS d=tS d'->d=d')/\(∀d d' s s' g g' (h:d<ds.length) (h':d'<ds.length) (k:s<ds[d].stops.length) (k':s'<ds[d'].stops.length) (l:g<ds[d].stops[s].aN.length) (l':g'<ds[d'].stops[s'].aN.length),d<i->d'<i->0<ds[d].stops[s].aN[g].aQ.length->0<ds[d'].stops[s'].aN[g'].aQ.length->tW d s g=tW d' s' g'->d=d'/\s=s'/\g=g'))/\fr=[gg 0,.ptr B 0,.ptr (B+1) 0,gg 3,gg 4,gg 5,gg 6,gg 7,gg 8,gg 9,gg 10,gg 11,gg 12,gg 13,gg 14,gg 15,gg 16,gg 17,gg 18,gg 19,gg 20,gg 21,gg 22,gg 23,gg 24,gg 25,gg 26,gg 27,gg 28,gg 29,gg 30,gg 31,gg 32,gg 33,gg 34,hD,.int .i64 ds.length,.int .i64 i,gg 38,gg 39,gg 40,gg 41,gg 42,gg 43,gg 44,gg 45,gg 46,gg 47,gg 48,gg 49]/\σ=σ1) ?_ (ds.length) (by refine⟨0,g0,(λ_=>0),(λ_=>[]),(λ_ _=>0),(λ_ _=>[]),(λ_ _ _=>0),ρ,?_⟩;exact cE (⟨Cj,M1,M5,λid x _ h=>hk id x h,λh=>hk _ _ (sD h),lρ,λg h _=>M0 g h,λs _ h=>absurd h (yAZ s),λd d' h h' h1=>absurd h1 (yAZ d),λd d' s s' g g' h h' k k' l l' h1=>absurd h1 (yAZ d)⟩))
  rintro m fr σ ⟨i,gs,tS,tss,tG,tgs,tW,σ1,gg,hI,rfl,rfl⟩
  obtain⟨hm,hgl,gO,hkeep,hrow,hlo,hrest,hdone,hiS,hiW⟩:=hI;have v0:=hkeep B _ (λ_=>Cj) sB;have v1:=hkeep (B+1) _ (λ_=>Cj) sY;obtain⟨r0,y0⟩:=yA.1 v0;obtain⟨r1,y1⟩:=yA.1 v1
  by_cases hi:i<ds.length
  .have q1:(i:Int)<(ds.length:Int):=by omega
   have hDr:hD=.aO iD 0 0 ds.length 5:=by rw[<-hhD];unfold Go.Kz.hd;rw[yAI Cj]
   have iDL:=ZD Cj;have v2:=hrow Cj;have hzo:=jE _ (yAm hi);have hgi:=hrest i hi (yAk _);have hat:=qX (sz:=5) gs i Cj gO;have hlen:=lF (sz:=5) gs gO;have D6:gs[i]' Cj=[.str ds[i].name,.bool ds[i].dO,.int .i64 ds[i].low,.int .i64 ds[i].high,oC.aB ds[i].stops]:=(yA.1 hgi).2;obtain⟨z,hz⟩:=gn (ds[i]);rw[D6,hz]at hat;rw[hz]at hzo;have hW:=hcs z hzo (σ++[aA.box (Em.div.aB z)]);have hll:(σ++[aA.box (Em.div.aB z)]).length=σ.length+1:=Ck;obtain⟨pz,nE,hev,⟨iS,zss,zG,zgs,zW,hst⟩,CJ,q9⟩:=hW.e0 Ck;rw[hll]at hst CJ q9;have hpz:=hst.p;subst hpz;have hfl:=wY (sz:=5) (new:=[.str z.name,.bool z.dO,.int .i64 z.low,.int .i64 z.high,Go.Kz.hd 4 iS z.stops.length]) (j:=0) Ck gs i Cj gO;rw[D6,hz]at hfl;have hset:dF [PD.str z.name,.bool z.dO,.int .i64 z.low,.int .i64 z.high,oC.aB z.stops] 0 [.str z.name,.bool z.dO,.int .i64 z.low,.int .i64 z.high,Go.Kz.hd 4 iS z.stops.length]=[.str z.name,.bool z.dO,.int .i64 z.low,.int .i64 z.high,Go.Kz.hd 4 iS z.stops.length]:=rfl;rw[hset,yBm]at hfl;obtain⟨o8,o9⟩:=gn (gs.set i [PD.str z.name,.bool z.dO,.int .i64 z.low,.int .i64 z.high,Go.Kz.hd 4 iS z.stops.length]);rw[o9]at hfl;obtain⟨fs,hfs⟩:=gn (gs.flatten);rw[hfs]at v2 hlen hat hfl;obtain⟨r2,y2⟩:=yA.1 v2;obtain⟨MP,aFq⟩:=gn (o8.flatten);rw[aFq]at hfl;have fG:i*5+5<=fs.length:=Cj;have xk:jD prog 32 (.aO iD 0 0 ds.length 5) (.int .i64 i)=some (.dG iD 0 (i*5)):=by
    simp[jT,hi]
   obtain⟨h9,jY⟩:=gn (Go.Kz.hd 4 iS z.stops.length);have p9:h9.plain=true:=Iv;have c9:h9.cells=[h9]:=Iw;rw[jY]at hev hfl;simp only[dF,yAT,yAO,yAp,Nat.reduceAdd,yBX,yAi,yBs,yAV]at hfl;unfold PD.plain at p9;have mD:σ[B]?=some (.box (.agg [.str nm,hR,.aO iD 0 0 ds.length 5,hC])):=by rw[<-hDr,hZ];exact v0
   have u0:(σ++[aA.box (Em.div.aB z)])[B]?=some (.box (.agg [.str nm,hR,.aO iD 0 0 ds.length 5,hC])):=bG mD;have u7:nE[iD]?=some (.row 53 5 0 fs):=by rw[q9 _ Cj];exact bG v2
   obtain⟨r7,y7⟩:=yA.1 u7;obtain⟨w0,z0⟩:=yA.1 u0;obtain⟨_,vP⟩:=yA.1 mD;have j0:∀x:aA,(σ++[x])[σ.length]?=some x:=λx=>Ck
   have hK:=pT (B:=[B]) h5 hev (by rw[hll];exact CJ) (λid h h3=>q9 id (by rw[hll]at h3;exact h3));obtain⟨zn,zp,za,zb,zs⟩:=z;simp only[nL,aU]at hat hK u0 w0 z0 hll;rw[hDr];refine aC Bq ?_;refine Wp.D1 h5 DZ Ck [(1,B),(6,σ.length)] [B] [some B] Cp ⟨⟨_,rfl⟩,⟨_,rfl⟩,trivial⟩ Cl Ek ?_;refine nN Bz ?_;apply SQ.nil;refine aC q1 ?_;have x6:∀id,id<σ.length->nE[id]?=σ[id]?:=λid h=>by rw[q9 id Cj,yAg h]
   obtain⟨bW,dB⟩:=gn (nE.set iD (.row 53 5 0 MP));have iH:∀id,id≠iD->bW[id]?=nE[id]?:=λid h=>Dm
   have M6:bW[iD]?=some (.row 53 5 0 o8.flatten):=by rw[<-dB,aFq];exact yAj r7
   have M7:o8.length=ds.length:=by rw[<-o9,yAD,hgl]
   have M8:∀g∈o8,g.length=5:=λg h=>by
    exact mq
   have hlt:∀(id:Nat) (o:aA),σ[id]?=some o->id<σ.length:=λid o h=>(yA.1 h).1
   have R9:L0<=bW.length:=Ew;have hke:∀(id:Nat) (x:aA),(0<ds.length->id≠iD)->S0[id]?=some x->bW[id]?=some x:=λid x h1 h2=>by
    have h3:=hkeep id x h1 h2;rw[iH id (h1 Cj),x6 id (hlt _ _ h3)];exact h3
   have hdn:∀s (h:s<ds.length),s<i+1->o8[s]?=some [.str ds[s].name,.bool ds[s].dO,.int .i64 ds[s].low,.int .i64 ds[s].high,Go.Kz.hd 4 (if s=i then iS else tS s) ds[s].stops.length]/\mZ bW L0 ds[s] (.agg [.str ds[s].name,.bool ds[s].dO,.int .i64 ds[s].low,.int .i64 ds[s].high,Go.Kz.hd 4 (if s=i then iS else tS s) ds[s].stops.length]) (if s=i then iS else tS s) (if s=i then zss else tss s) (if s=i then zG else tG s) (if s=i then zgs else tgs s) (if s=i then zW else tW s):=λs h h2=>by
    exact ep
   have aOU:∀d d' (h:d<ds.length) (h':d'<ds.length),d<i+1->d'<i+1->0<ds[d].stops.length->0<ds[d'].stops.length->(if d=i then iS else tS d)=(if d'=i then iS else tS d')->d=d':=λd d' h h' b1 b2 p1 p2 e=>by
    by_cases e1:d=i
    .by_cases e2:d'=i
     .rw[e1,e2]
     .rw[yAJ e1,yAI e2]at e;have h1:=hlt _ _ ((hdone d' h' Cj).2.row p2).2;subst e1;simp only[hz]at p1;have h2:=(hst.row p1).1;omega
    .by_cases e2:d'=i
     .rw[yAI e1,yAJ e2]at e;have h1:=hlt _ _ ((hdone d h Cj).2.row p1).2;subst e2;simp only[hz]at p2;have h2:=(hst.row p2).1;omega
     .exact xq
   have aOV:∀d d' s s' g g' (h:d<ds.length) (h':d'<ds.length) (k:s<ds[d].stops.length) (k':s'<ds[d'].stops.length) (l:g<ds[d].stops[s].aN.length) (l':g'<ds[d'].stops[s'].aN.length),d<i+1->d'<i+1->0<ds[d].stops[s].aN[g].aQ.length->0<ds[d'].stops[s'].aN[g'].aQ.length->(if d=i then zW else tW d) s g=(if d'=i then zW else tW d') s' g'->d=d'/\s=s'/\g=g':=λd d' s s' g g' h h' k k' l l' b1 b2 p1 p2 e=>by
    by_cases e1:d=i
    .by_cases e2:d'=i
     .exact mw
     .rw[yAJ e1,yAI e2]at e;have h1:=hlt _ _ (((((hdone d' h' Cj).2.at_ s' k').2.at_ g' l').2) p2).2;subst e1;simp only[hz]at k l p1;have h2:=((((hst.at_ s k).2.at_ g l).2) p1).1;omega
    .by_cases e2:d'=i
     .rw[yAI e1,yAJ e2]at e;have h1:=hlt _ _ (((((hdone d h Cj).2.at_ s k).2.at_ g l).2) p1).2;subst e2;simp only[hz]at k' l' p2;have h2:=((((hst.at_ s' k').2.at_ g' l').2) p2).1;omega
     .exact tq
   refine bM.normal (m-1) Cj (by refine⟨i+1,o8,(λs=>if s=i then iS else tS s),(λs=>if s=i then zss else tss s),(λs=>if s=i then zG else tG s),(λs=>if s=i then zgs else tgs s),(λs=>if s=i then zW else tW s),bW,?_⟩;exact fQ (⟨Cj,M7,M8,hke,λ_=>M6,R9,λg h h2=>by rw[<-o9,yAd Cj];exact hrest g h Cj,hdn,aOU,aOV⟩) @dB)
  .have q1:¬(i:Int)<(ds.length:Int):=by omega
   have mD:=v0;have v1':=v1;rw[<-hZ]at mD;rw[<-hY]at v1';obtain⟨_,vP⟩:=yA.1 mD;obtain⟨_,M9⟩:=yA.1 v1';refine aC (A10 q1 mD r0 vP v1' r1 M9 pR pD pC) ?_;obtain⟨bW,dB⟩:=gn (σ.set (B+1) (.box (.agg [.str nm,hR,hD,hC])));rw[dB];have iH:∀id,id≠B+1->bW[id]?=σ[id]?:=λid h=>Dm
   have z1:bW[B+1]?=some (.box (.agg [.str nm,hR,hD,hC])):=Jc;refine⟨.agg [.str nm,hR,hD,hC],bW,by simp[bQ,z1],⟨B+2,iD,iC,gs,tS,tss,tG,tgs,tW,?_⟩,Ew,λid h=>by rw[iH id Cj,<-sT id h];exact(by
    have h1:id<S0.length:=Cj;rw[hkeep id _ (λ_=>Cj) (yAh h1),yAh h1])⟩
   refine⟨by rw[hhR,hhD,hhC],λh=>⟨Cj,?_⟩,λh=>⟨Cj,?_⟩,hgl,λh=>⟨Cj,?_⟩,λs (h:s<ds.length)=>?_,λd d' (h:d<ds.length) (h':d'<ds.length)=>hiS d d' h h' Cj Cj,λd d' s s' g g' (h:d<ds.length) (h':d'<ds.length) k k' l l'=>hiW d d' s s' g g' h h' k k' l l' Cj Cj⟩
   .show bW[B+2]?=some (.row 48 6 0 ((rs.map Em.aL.aB).flatMap PD.cells))
    have h1:=sR h;rw[iH _ Cj,aFp];exact Bl
   .show bW[iC]?=some (.row 58 5 0 ((cs.map Em.aZ.aB).flatMap PD.cells))
    have h1:=sC h;rw[iH _ Cj];exact Bl
   .show bW[iD]?=some (.row 53 5 0 gs.flatten)
    rw[iH _ Cj];exact hrow h
   .exact oq
end
end Go.Kz
