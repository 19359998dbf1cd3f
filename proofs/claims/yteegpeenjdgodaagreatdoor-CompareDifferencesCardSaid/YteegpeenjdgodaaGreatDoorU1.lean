/- Steps of the proof. -/
import Derived.Test.YteegpeenjdgodaaGreatDoorT5
import Derived.Test.YteegpeenjdgodaaGreatDoorS3
set_option linter.all false
set_option maxHeartbeats 40000000
set_option maxRecDepth 100000
open Go.Proofs.Tryz
namespace Go.Kz
open Go Go.Proofs
section
def hq(k id v n:Nat):PD:=if n=0 then .slice 0 [] .any else .aU id v 0 n k
def hb(k id v n:Nat):PD:=if n=0 then .slice 0 [] .full else .aU id v 0 n k
theorem GS{k id v n:Nat}(h:0<n):hq k id v n=.aU id v 0 n k:=yAI ye
theorem B0{k id v n:Nat}(h:0<n):hb k id v n=.aU id v 0 n k:=yAI ye
theorem D1(k id v n:Nat):(hq k id v n).plain=true:=by unfold hq;split<;>rfl
theorem D2(k id v n:Nat):(hq k id v n).cells=[hq k id v n]:=by unfold hq;split<;>rfl
theorem o6(k id v n:Nat):(hb k id v n).plain=true:=by unfold hb;split<;>rfl
theorem qZ(k id v n:Nat):(hb k id v n).cells=[hb k id v n]:=by unfold hb;split<;>rfl
theorem aEW(k id v n:Nat):(hb k id v n).strip=hq k id v n:=by unfold hb hq;split<;>rfl
theorem XI{P:Program}{fl:Nat}{σ:Ex}{t e:TypeId}{k b s z n:Nat}{xs:Ey}{tok:Tok}(ht:gH t n=true)(hu:P.underlying t=some (.slice e))(hi:fT P e=some (k,b))(ho:∀i z,P.info? e=some i->i.zero=some z->z.cells.toList.all Value.oneCell'=true)
  (hz:z=k) (h0:0<xs.length) (hm:xs.length<=100000000000000) (hb:xs.length*b<=140737488355328) :
  cX P n fl σ t (.slice s [] .full) (.slice z xs tok)=some (.aU σ.length 0 0 xs.length k,σ++[.row e k 0 (xs.flatMap PD.cells)]):=by
 exact bw
structure rY (σ:List aB) (lo:Nat) (s:bU) (iG:Nat) (gs:List (List PD)) (iW:Nat->Nat):Prop where
 len:gs.length=s.aO.length
 row:0<s.aO.length->lo<=iG/\σ[iG]?=some (.row 92 3 (s.aO.length-1) gs.flatten)
 at_:∀g (h:g<s.aO.length),gs[g]?=some [.int .i64 s.aO[g].lo,.int .i64 s.aO[g].hi,hq 2 (iW g) 0 s.aO[g].aT.length]/\BE σ lo s.aO[g].aT (iW g)
 inj:∀g g' (h:g<s.aO.length) (h':g'<s.aO.length),0<s.aO[g].aT.length->0<s.aO[g'].aT.length->iW g=iW g'->g=g'
theorem rY.bF{σ σ':Ex}{lo lo':Nat}{s:bU}{iG:Nat}{gs:Eu}{iW:Nat->Nat}(h:rY σ lo s iG gs iW)(hl:lo'<=lo)(hk:∀(id:Nat) (o:aB),lo<=id->σ[id]?=some o->σ'[id]?=some o):rY σ' lo' s iG gs iW:=by
 obtain⟨h2,h3,h4,h5⟩:=h;exact⟨h2,λhp=>⟨yAW hl (h3 hp).1,hk _ _ (h3 hp).1 (h3 hp).2⟩,λg h=>⟨(h4 g h).1,λhp=>⟨yAW hl ((h4 g h).2 hp).1,hk _ _ ((h4 g h).2 hp).1 ((h4 g h).2 hp).2⟩⟩,h5⟩
structure mN (σ:List aB) (lo:Nat) (d:bD) (iS:Nat) (ss:List (List PD)) (tG:Nat->Nat) (tgs:Nat->List (List PD)) (tW:Nat->Nat->Nat):Prop where
 len:ss.length=d.stops.length
 row:0<d.stops.length->lo<=iS/\σ[iS]?=some (.row 56 4 (d.stops.length-1) ss.flatten)
 at_:∀s (h:s<d.stops.length),ss[s]?=some [.str d.stops[s].name,.int .i64 d.stops[s].num,.int .i64 d.stops[s].den,hq 3 (tG s) (d.stops[s].aO.length-1) d.stops[s].aO.length]/\rY σ lo d.stops[s] (tG s) (tgs s) (tW s)
 inj:∀s s' g g' (h:s<d.stops.length) (h':s'<d.stops.length) (k:g<d.stops[s].aO.length) (k':g'<d.stops[s'].aO.length),0<d.stops[s].aO[g].aT.length->0<d.stops[s'].aO[g'].aT.length->tW s g=tW s' g'->s=s'/\g=g'
theorem aP6(ds:List cT)(hd:ds.length<=1000000)(σ:List aB):∃p L,(∀n,gH 90 n=true->cX prog n 0 σ 90 (.slice 2 [] .full) (.slice (sz 2 ds) (ds.map Em.draw.aA) .any)=some (p,σ++L))/\p.plain=true/\p.cells=[p]/\p.strip=hq 2 σ.length 0 ds.length/\(0<ds.length->L=[.row 89 2 0 (jJ ds)]):=by
 by_cases h0:ds=[]
 .subst h0;refine⟨.slice 2 [] .full,[],λn hn=>?_,rfl,rfl,rfl,λh=>absurd h (yCG 0)⟩;have h:=BI (P:=prog) (σ:=σ) (t:=90) (e:=89) (k:=2) (b:=16) (s:=2) (z:=sz 2 ([]:List cT)) (tok:=.any) (n:=n) hn underlying90 yf (lJ yf);rw[yAl];exact h
 .have hp:0<ds.length:=yCt.2 h0;refine⟨.aU σ.length 0 0 ds.length 2,[.row 89 2 0 (jJ ds)],λn hn=>?_,rfl,rfl,by rw[GS hp];rfl,λ_=>rfl⟩;have h:=XI (P:=prog) (fl:=0) (σ:=σ) (t:=90) (e:=89) (k:=2) (b:=16) (s:=2) (z:=sz 2 ds) (n:=n) (xs:=ds.map Em.draw.aA) (tok:=.any) hn underlying90 yf (lJ yf) (rE h0) (by rw[yAe];exact hp) zo zo;rw[yAe,aCX]at h;exact h
theorem XK{e t k b:Nat}(hu:prog.underlying t=some (.slice e))(hi:fT prog e=some (k,b))(ho:∀i z,prog.info? e=some i->i.zero=some z->z.cells.toList.all Value.oneCell'=true)(hb:b<=1000)(j id:Nat)(hj:j<=1000000)(σ:List aB)(gs:List (List PD))(hg:∀g∈gs,g.length=k)(hl:gs.length=j)(hr:0<j->σ[id]?=some (.row e k (j-1) gs.flatten))(x:PD)(tok:Tok)(hx:x.cells.length=k) :
  ∃id' σ',(∀n,gH t n=true->cX prog n 0 σ t (Go.Kz.hb k id (j-1) j) (.slice k [x] tok)=some (Go.Kz.hb k id' j (j+1),σ'))/\(0<j->id'=id)/\(j=0->id'=σ.length)/\σ'[id']?=some (.row e k j (gs++[x.cells]).flatten)/\σ.length<=σ'.length/\∀i (z:aB),σ[i]?=some z->(0<j->i≠id)->σ'[i]?=some z:=by
 have hfl:(gs++[x.cells]).flatten=gs.flatten++x.cells:=yg
 by_cases h0:j=0
 .subst h0;have pP:gs=[]:=yAf hl;subst pP;refine⟨σ.length,σ++[.row e k 0 x.cells],λn hn=>?_,λh=>absurd h (yCG 0),λ_=>rfl,yg,yg,λi z h _=>cL h⟩;have h:=XI (P:=prog) (fl:=0) (σ:=σ) (t:=t) (e:=e) (k:=k) (b:=b) (s:=0) (z:=k) (n:=n) (xs:=[x]) (tok:=tok) hn hu hi ho rfl yg yg zf;rw[show Go.Kz.hb k id (0-1) 0=.slice 0 [] .full from rfl,B0 (show 0<0+1 by omega)];simpa using h
 .have hr:=hr ye;obtain⟨r1,r2⟩:=yA.1 hr;have hfn:=qT gs hg;refine⟨id,σ.set id (.row e k j (gs++[x.cells]).flatten),λn hn=>?_,λ_=>rfl,λh=>absurd h h0,yAj r1,yg,λi z h hne=>by rw[yAd (yBb (hne ye))];exact h⟩;have h:=aL6 (P:=prog) (σ:=σ) (t:=t) (e:=e) (k:=k) (b:=b) (n:=n) (id:=id) (v:=j-1) (m:=j) (cs:=gs.flatten) (x:=x) (tok:=tok) hn hu hi ho hr (by rw[hfn,hl]) hx hj hb;rw[B0 ye,B0 ye,hfl,show(j-1+1)=j by omega]at *;exact h
variable{E E0:aE}(hU:aH E)
include hU
theorem aIT(h0:E 40=none)(d:bD)(hd:mB d)(τ:List aB) :
  aL prog E 0 (.inl 40) [Em.div.aA d] τ (λp σ'=>∃iS ss tG tgs tW,p=.agg [.str d.name,.bool d.eG,.int .i64 d.low,.int .i64 d.high,Go.Kz.hb 4 iS (d.stops.length-1) d.stops.length]/\mN σ' τ.length d iS ss tG tgs tW/\τ.length<=σ'.length/\∀id,id<τ.length->σ'[id]?=τ[id]?):=by
 clear hU;obtain⟨nm,pe,a,b,l⟩:=d;obtain⟨hl,hld⟩:=hd;simp only at hl hld;simp only[nN,aV];obtain⟨B,hB⟩:=gn (τ.length);obtain⟨Z,hZ⟩:=gn (aB.box (.agg [.str [],.bool false,.int .i64 0,.int .i64 0,.slice 0 [] .full]));refine aL.aN 51 h0 func40 (h:=?_);refine aC hB ?_;simp only[hB,hZ];have jB:∀X L,(τ++X::L)[B]?=some (X:aB):=λX L=>Ar
 refine Wp.cI (λm fr σ=>∃(i:Nat) (iS:Nat) (ss:List (List PD)) (tG:Nat->Nat) (tgs:Nat->List (List PD)) (tW:Nat->Nat->Nat) (σ1:List aB),∃gg:Nat->PD,(i+m=l.length/\B+2<=σ1.length/\(∀id,id<B->σ1[id]?=τ[id]?)/\σ1[B]?=some (.box (.agg [.str nm,.bool pe,.int .i64 a,.int .i64 b,Go.Kz.hb 4 iS (i-1) i]))/\σ1[B+1]?=some Z/\ss.length=i/\(∀g∈ss,g.length=4)/\(0<i->B+2<=iS/\iS<σ1.length/\σ1[iS]?=some (.row 56 4 (i-1) ss.flatten))/\(∀s (h:s<l.length),s<i->ss[s]?=some [.str l[s].name,.int .i64 l[s].num,.int .i64 l[s].den,hq 3 (tG s) (l[s].aO.length-1) l[s].aO.length]/\rY σ1 (B+2) l[s] (tG s) (tgs s) (tW s))/\(∀s s' g g' (h:s<l.length) (h':s'<l.length) (k:g<l[s].aO.length) (k':g'<l[s'].aO.length),s<i->s'<i->0<l[s].aO[g].aT.length->0<l[s'].aO[g'].aT.length->tW s g=tW s' g'->s=s'/\g=g'))/\fr=[gg 0,.ptr B 0,.ptr (B+1) 0,.slice (sz 4 l) (l.map Em.stop.aA) .any,.int .i64 i,gg 5,gg 6,gg 7,gg 8,gg 9,gg 10,gg 11,gg 12,gg 13,gg 14,gg 15,gg 16,gg 17,gg 18,gg 19,gg 20,gg 21,gg 22,gg 23,gg 24,gg 25,gg 26,gg 27,gg 28,gg 29,gg 30,gg 31,gg 32,gg 33,gg 34,gg 35,gg 36,gg 37,gg 38,gg 39,gg 40,gg 41,gg 42,gg 43,gg 44,gg 45,gg 46,gg 47,gg 48,gg 49,gg 50]/\σ=σ1) ?_ (l.length) (by refine⟨0,0,[],(λ_=>0),(λ_=>[]),(λ_ _=>0),(τ++[.box (.agg [.str nm,.bool pe,.int .i64 a,.int .i64 b,.slice 0 [] .full]),Z]),?_⟩;exact dU (⟨ye,by rw[yAa,hB];simp,λid h=>yAg ye,jB _ _,by rw[yBz ye,hB,yCQ];rfl,rfl,λg h=>yw,λh=>absurd h (yCG 0),λs _ h=>absurd h (yBv s),λs s' g g' h h' k k' h1=>absurd h1 (yBv s)⟩) @hB)
 rintro m fr σ ⟨i,iS,ss,tG,tgs,tW,σ1,gg,hI,rfl,rfl⟩
 obtain⟨hm,hlen,hlow,hbox,hres,hsl,AP,hrow,hdone,hinj⟩:=hI;obtain⟨w0,z0⟩:=yA.1 hbox
 by_cases hi:i<l.length
 .have q1:(i:Int)<(l.length:Int):=by omega
  have hzo:=hld _ (yAm hi);obtain⟨⟨sn,sa,sb,lg⟩,hz⟩:∃z,l[i]=z:=⟨_,rfl⟩;rw[hz]at hzo;obtain⟨hgl,hgd⟩:=hzo;simp only at hgl hgd;obtain⟨ρ,rfl⟩:∃s,s=σ:=⟨_,rfl⟩;obtain⟨S,hS⟩:=gn (ρ.length);have j0:∀x:aB,(ρ++[x])[S]?=some x:=λx=>by rw[<-hS];simp
  have j1:∀x y:aB,(ρ++[x]).set S y=ρ++[y]:=λx y=>by rw[<-hS];simp
  obtain⟨M,hM⟩:∃M,M=m:=⟨_,rfl⟩;refine aC (A6 q1 hi @hz hS j0 j1) ?_;rw[<-hM]at hm ⊢;refine Wp.cI (λm fr σ=>∃(j:Nat) (iG:Nat) (qs:List (List PD)) (iW:Nat->Nat) (σ2:List aB),∃gg:Nat->PD,(j+m=lg.length/\S+1<=σ2.length/\(∀id,id<S->σ2[id]?=ρ[id]?)/\σ2[S]?=some (.box (.agg [.str sn,.int .i64 sa,.int .i64 sb,Go.Kz.hb 3 iG (j-1) j]))/\qs.length=j/\(∀g∈qs,g.length=3)/\(0<j->S+1<=iG/\σ2[iG]?=some (.row 92 3 (j-1) qs.flatten))/\(∀g (h:g<lg.length),g<j->qs[g]?=some [.int .i64 lg[g].lo,.int .i64 lg[g].hi,hq 2 (iW g) 0 lg[g].aT.length]/\BE σ2 (S+1) lg[g].aT (iW g))/\(∀g g' (h:g<lg.length) (h':g'<lg.length),g<j->g'<j->0<lg[g].aT.length->0<lg[g'].aT.length->iW g=iW g'->g=g'))/\fr=[gg 0,.ptr B 0,.ptr (B+1) 0,.slice (sz 4 l) (l.map Em.stop.aA) .any,.int .i64 i,.ptr S 0,gg 6,gg 7,gg 8,gg 9,gg 10,gg 11,gg 12,gg 13,gg 14,gg 15,gg 16,gg 17,gg 18,gg 19,gg 20,gg 21,gg 22,gg 23,gg 24,gg 25,.slice (sz 3 lg) (lg.map Em.eU.aA) .any,.int .i64 lg.length,.int .i64 j,gg 29,gg 30,gg 31,gg 32,gg 33,gg 34,gg 35,gg 36,gg 37,gg 38,gg 39,gg 40,gg 41,gg 42,gg 43,gg 44,gg 45,gg 46,gg 47,gg 48,gg 49,gg 50]/\σ=σ2) ?_ (lg.length) (by refine⟨0,0,[],(λ_=>0),(ρ++[.box (.agg [.str sn,.int .i64 sa,.int .i64 sb,.slice 0 [] .full])]),?_⟩;exact dU (⟨ye,by rw[yAa,hS];simp,λid h=>yAg ye,j0 _,rfl,λg h=>yw,λh=>absurd h (yCG 0),λs _ h=>absurd h (yBv s),λs s' h h' h1=>absurd h1 (yBv s)⟩) @hS)
  rintro m fr σ ⟨j,iG,qs,iW,σ2,gg,hI,rfl,rfl⟩
  obtain⟨hm2,aT3,XM,hbS,hql,KL,nW,B6,XN⟩:=hI
  by_cases hj:j<lg.length
  .have q2:(j:Int)<(lg.length:Int):=by omega
   have hyo:=hgd _ (yAm hj);obtain⟨⟨lo,hg,dr⟩,hy⟩:∃y,lg[j]=y:=⟨_,rfl⟩;rw[hy]at hyo;obtain⟨q,hq⟩:=gn (σ.length);obtain⟨X,hX⟩:=gn (aB.box (.agg [.int .i64 lo,.int .i64 hg,.slice (sz 2 dr) (dr.map Em.draw.aA) .any]));obtain⟨p1,L,d1,d2,d3,d4,d5⟩:=aP6 dr hyo (σ++[X]);rw[yAa,hq]at d4;simp only[yAS,yAT,yAp]at d4;obtain⟨p2,jU⟩:=gn (Go.Kz.hq 2 (q+1) 0 dr.length);rw[jU]at d4;have pp:p2.plain=true:=Ds;have cp:p2.cells=[p2]:=Dt;obtain⟨s9,hhS⟩:=gn (Go.Kz.hb 3 iG (j-1) j);obtain⟨id',σ',e1,e2,e3,e4,e5,e6⟩:=XK (e:=92) (t:=54) (k:=3) (b:=40) underlying54 yf (lJ yf) yj j iG ye (σ++aB.box (.agg [.int .i64 lo,.int .i64 hg,p1])::L) qs KL hql (λhp=>cL (nW hp).2) (.agg [.int .i64 lo,.int .i64 hg,p2]) .full rfl;obtain⟨h9,iF⟩:=gn (Go.Kz.hb 3 id' j (j+1));have pS:s9.plain=true:=by rw[<-hhS];exact o6 _ _ _ _
   have cS:s9.cells=[s9]:=by rw[<-hhS];exact qZ _ _ _ _
   have p9:h9.plain=true:=Du;have c9:h9.cells=[h9]:=Dv;rw[hhS]at e1 hbS;rw[iF]at e1;unfold PD.plain at pS p9 d2 pp;unfold PD.cells at cS c9 d3 cp;have sq:S<q:=ye;have k0:∀(x:aB) L,(σ++x::L)[q]?=some x:=λx L=>by rw[<-hq];simp
   have k1:∀(x y:aB) L,(σ++x::L).set q y=σ++y::L:=λx y L=>by rw[<-hq];simp
   have k2:∀L,(σ++L)[S]?=some (.box (.agg [.str sn,.int .i64 sa,.int .i64 sb,s9])):=λL=>cL hbS
   have s1:=e6 S _ (k2 _) (λhp=>Cm);obtain⟨v1,y1⟩:=yA.1 s1;obtain⟨vS,yS⟩:=yA.1 hbS;simp only[yAi,yAQ,yAO]at d1;rw[<-hX]at d1;refine aC (A20 q2 hj hy @hq k0 k1 k2 @d1 @d2 @d3 @d4 e1 @s1 @v1 y1 pS cS p9 c9 (A5 vS yS hbS @pp cp)) ?_;obtain⟨bO,cY⟩:=gn (σ'.set S (.box (.agg [.str sn,.int .i64 sa,.int .i64 sb,h9])));have n9:∀id,id≠S->bO[id]?=σ'[id]?:=λid h=>zy
   have b9:bO[S]?=some (.box (.agg [.str sn,.int .i64 sa,.int .i64 sb,h9])):=Ej;have l9:bO.length=σ'.length:=by rw[<-cY,yAD]
   rw[yAa,yAS,hq]at e5;have ig:0<j->iG<q:=λhp=>by have:=(yA.1 (nW hp).2).1;omega
   have up:∀id (z:aB),id≠S->σ[id]?=some z->(0<j->id≠iG)->bO[id]?=some z:=λid z h1 h2 h3=>by rw[n9 id h1];exact e6 id z (cL h2) h3
   have hid:S+1<=id':=by
    by_cases h0:j=0
    .rw[e3 h0,yAa,yAS,hq];omega
    .rw[e2 ye];exact(nW ye).1
   have dKeep:∀g (h:g<lg.length),g<j->BE bO (S+1) lg[g].aT (iW g):=λg h hlt hp=>by
    obtain⟨a1,a2⟩:=(B6 g h hlt).2 hp;refine⟨a1,up _ _ ye a2 λjU e=>?_⟩;rw[e,(nW jU).2]at a2;exact absurd (aB.row.inj (yBe a2)).1 yj
   have dNew:BE bO (S+1) dr (q+1):=λhp=>by
    refine⟨ye,?_⟩;rw[n9 _ ye];refine e6 _ _ ?_ (λjU=>by have:=ig jU;omega);rw[d5 hp,yBz ye,hq,yCQ];rfl
   have wlt:∀g (h:g<lg.length),g<j->0<lg[g].aT.length->iW g<q:=λg h hlt hp=>by
    have:=(yA.1 ((B6 g h hlt).2 hp).2).1;omega
   have c3:∀id,id<S->bO[id]?=ρ[id]?:=λid h=>by
    rw[<-XM id h,yAh (show id<σ.length by omega)];exact up id _ ye (yAh ye) (λhp=>Cm)
   have c4:bO[S]?=some (.box (.agg [.str sn,.int .i64 sa,.int .i64 sb,Go.Kz.hb 3 id' (j+1-1) (j+1)])):=by rw[b9,<-iF];rfl
   have c5:(qs++[[PD.int .i64 lo,.int .i64 hg,p2]]).length=j+1:=by rw[yAa,hql];rfl
   have c6:∀g∈qs++[[PD.int .i64 lo,.int .i64 hg,p2]],g.length=3:=λg h=>by
    rcases yBf.1 h with h|h
    .exact KL g h
    .rw[yCy.1 h];rfl
   have c7:0<j+1->S+1<=id'/\bO[id']?=some (.row 92 3 (j+1-1) (qs++[[PD.int .i64 lo,.int .i64 hg,p2]]).flatten):=λ_=>⟨hid,by rw[n9 _ ye];exact e4⟩
   have c8:∀g (h:g<lg.length),g<j+1->(qs++[[PD.int .i64 lo,.int .i64 hg,p2]])[g]?=some [.int .i64 lg[g].lo,.int .i64 lg[g].hi,Go.Kz.hq 2 (if g=j then q+1 else iW g) 0 lg[g].aT.length]/\BE bO (S+1) lg[g].aT (if g=j then q+1 else iW g):=λg h hlt=>by
    by_cases e:g=j
    .subst e;simp only[yAK,hy];exact⟨by rw[yBz ye,hql,yCx,jU];rfl,dNew⟩
    .simp only[e,yAN];exact⟨by rw[yAg ye];exact(B6 g h ye).1,dKeep g h ye⟩
   have DR:∀g g' (h:g<lg.length) (h':g'<lg.length),g<j+1->g'<j+1->0<lg[g].aT.length->0<lg[g'].aT.length->(if g=j then q+1 else iW g)=(if g'=j then q+1 else iW g')->g=g':=λg g' h h' h1 h2 p1 p2 e=>by
    by_cases e1:g=j
    .by_cases e2:g'=j
     .rw[e1,e2]
     .rw[yAJ e1,yAI e2]at e;have:=wlt g' h' ye p2;omega
    .by_cases e2:g'=j
     .rw[yAI e1,yAJ e2]at e;have:=wlt g h ye p1;omega
     .rw[yAI e1,yAI e2]at e;exact XN g g' h h' ye ye p1 p2 e
   refine bC.normal (m-1) ye (by refine⟨j+1,id',(qs++[[.int .i64 lo,.int .i64 hg,p2]]),(λg=>if g=j then q+1 else iW g),bO,?_⟩;exact dU (⟨ye,ye,c3,c4,c5,c6,c7,c8,DR⟩) @cY)
  .have q2:¬(j:Int)<(lg.length:Int):=by omega
   obtain rfl:j=lg.length:=ye;have nQ:=hm;have iSS:0<i->iS<S:=λhp=>by have:=(hrow hp).2.1;omega
   have old:∀id (z:aB),id<S->ρ[id]?=some z->σ[id]?=some z:=λid z h1 h2=>by rw[XM id h1];exact h2
   have gB:=old B _ ye hbox;have gZ:=old (B+1) _ ye hres;obtain⟨p2,jU⟩:=gn (Go.Kz.hq 3 iG (lg.length-1) lg.length);obtain⟨s9,hhS⟩:=gn (Go.Kz.hb 3 iG (lg.length-1) lg.length);obtain⟨hD,hhD⟩:=gn (Go.Kz.hb 4 iS (i-1) i);have d4:s9.strip=p2:=by rw[<-hhS,<-jU];exact aEW _ _ _ _
   have pp:p2.plain=true:=Ds;have cp:p2.cells=[p2]:=Dt;obtain⟨id',σ',e1,e2,e3,e4,e5,e6⟩:=XK (e:=56) (t:=51) (k:=4) (b:=56) underlying51 yf (lJ yf) yj i iS ye σ ss AP hsl (λhp=>old _ _ (iSS hp) (hrow hp).2.2) (.agg [.str sn,.int .i64 sa,.int .i64 sb,p2]) .full rfl;obtain⟨h9,iF⟩:=gn (Go.Kz.hb 4 id' i (i+1));have pS:s9.plain=true:=by rw[<-hhS];exact o6 _ _ _ _
   have cS:s9.cells=[s9]:=by rw[<-hhS];exact qZ _ _ _ _
   have pD:hD.plain=true:=zj;have cD:hD.cells=[hD]:=zq;have p9:h9.plain=true:=Du;have c9:h9.cells=[h9]:=Dv;rw[hhS]at hbS;rw[hhD]at e1 gB;rw[iF]at e1;unfold PD.plain at pS p9 pp pD;unfold PD.cells at cS c9 cp cD;have s1:=e6 B _ gB (λhp=>Aq);have s2:=e6 (B+1) _ gZ (λhp=>Aq);obtain⟨v1,y1⟩:=yA.1 s1;obtain⟨vS,yS⟩:=yA.1 hbS;obtain⟨vB,yB⟩:=yA.1 gB;refine aC (A20 q2 e1 @s1 @v1 y1 pS cS p9 c9 vS yS hbS @pp cp pD cD gB vB yB @d4) ?_;rw[<-hM]at *;obtain⟨bO,cY⟩:=gn (σ'.set B (.box (.agg [.str nm,.bool pe,.int .i64 a,.int .i64 b,h9])));have n9:∀id,id≠B->bO[id]?=σ'[id]?:=λid h=>zy
   have b9:bO[B]?=some (.box (.agg [.str nm,.bool pe,.int .i64 a,.int .i64 b,h9])):=Ej;have l9:bO.length=σ'.length:=by rw[<-cY,yAD]
   have up:∀id (z:aB),id≠B->σ[id]?=some z->(0<i->id≠iS)->bO[id]?=some z:=λid z h1 h2 h3=>by rw[n9 id h1];exact e6 id z h2 h3
   have tyS:∀id (z:aB),σ[id]?=some z->(∀n v cs,z≠.row 56 n v cs)->0<i->id≠iS:=λid z h1 h2 hp e=>by
    rw[e,old _ _ (iSS hp) (hrow hp).2.2]at h1;exact h2 _ _ _ (yBe h1).symm
   have hid:B+2<=id'/\id'<bO.length:=by
    exact je
   have kS:∀s (h:s<l.length),s<i->rY bO (B+2) l[s] (tG s) (tgs s) (tW s):=λs h hlt=>by
    obtain⟨a1,a2,a3,a4⟩:=(hdone s h hlt).2;refine⟨a1,λhp=>⟨(a2 hp).1,?_⟩,λg hg=>⟨(a3 g hg).1,λhp=>⟨((a3 g hg).2 hp).1,?_⟩⟩,a4⟩
    .have h2:=old _ _ (by have:=(yA.1 (a2 hp).2).1;omega) (a2 hp).2;exact up _ _ Cf h2 (tyS _ _ h2 (λn v cs h=>by have:=(aB.row.inj h).1;exact absurd this yj))
    .have h2:=old _ _ (by have:=(yA.1 ((a3 g hg).2 hp).2).1;omega) ((a3 g hg).2 hp).2;exact up _ _ (by have:=((a3 g hg).2 hp).1;omega) h2 (tyS _ _ h2 (λn v cs h=>by have:=(aB.row.inj h).1;exact absurd this yj))
   have kN:rY bO (B+2) ⟨sn,sa,sb,lg⟩ iG qs iW:=by
    refine⟨hql,λhp=>⟨Cm,?_⟩,λg hg=>⟨(B6 g hg hg).1,λhp=>⟨by have:=((B6 g hg hg).2 hp).1;omega,?_⟩⟩,λg g' h h' p1 p2 e=>XN g g' h h' h h' p1 p2 e⟩
    .have h2:=(nW hp).2;exact up _ _ Cm h2 (tyS _ _ h2 (λn v cs h=>by have:=(aB.row.inj h).1;exact absurd this yj))
    .have h2:=((B6 g hg hg).2 hp).2;exact up _ _ (by have:=((B6 g hg hg).2 hp).1;omega) h2 (tyS _ _ h2 (λn v cs h=>by have:=(aB.row.inj h).1;exact absurd this yj))
   have wlo:∀s (h:s<l.length),s<i->∀g (hg:g<l[s].aO.length),0<l[s].aO[g].aT.length->tW s g<S:=λs h hlt g hg hp=>by
    have:=(yA.1 (((hdone s h hlt).2.at_ g hg).2 hp).2).1;omega
   have whi:∀g (hg:g<lg.length),0<lg[g].aT.length->S+1<=iW g:=λg hg hp=>((B6 g hg hg).2 hp).1
   have c3:∀id,id<B->bO[id]?=τ[id]?:=λid h=>by
    rw[<-hlow id h,<-XM id ye,yAh (show id<σ.length by omega)];exact up id _ ye (yAh ye) (λhp=>Aq)
   have c4:bO[B]?=some (.box (.agg [.str nm,.bool pe,.int .i64 a,.int .i64 b,Go.Kz.hb 4 id' (i+1-1) (i+1)])):=by rw[b9,<-iF];rfl
   have rV:bO[B+1]?=some Z:=by rw[n9 _ ye];exact s2
   have c5:(ss++[[PD.str sn,.int .i64 sa,.int .i64 sb,p2]]).length=i+1:=by rw[yAa,hsl];rfl
   have c6:∀g∈ss++[[PD.str sn,.int .i64 sa,.int .i64 sb,p2]],g.length=4:=λg h=>by
    rcases yBf.1 h with h|h
    .exact AP g h
    .rw[yCy.1 h];rfl
   have c7:0<i+1->B+2<=id'/\id'<bO.length/\bO[id']?=some (.row 56 4 (i+1-1) (ss++[[PD.str sn,.int .i64 sa,.int .i64 sb,p2]]).flatten):=λ_=>⟨hid.1,hid.2,by rw[n9 _ ye];exact e4⟩
   have c8:∀s (h:s<l.length),s<i+1->(ss++[[PD.str sn,.int .i64 sa,.int .i64 sb,p2]])[s]?=some [.str l[s].name,.int .i64 l[s].num,.int .i64 l[s].den,Go.Kz.hq 3 (if s=i then iG else tG s) (l[s].aO.length-1) l[s].aO.length]/\rY bO (B+2) l[s] (if s=i then iG else tG s) (if s=i then qs else tgs s) (if s=i then iW else tW s):=λs h hlt=>by
    by_cases e:s=i
    .subst e;simp only[yAK,hz];exact⟨by rw[yBz ye,hsl,yCx,jU];rfl,kN⟩
    .simp only[e,yAN];exact⟨by rw[yAg ye];exact(hdone s h ye).1,kS s h ye⟩
   have DR:∀s s' g g' (h:s<l.length) (h':s'<l.length) (k:g<l[s].aO.length) (k':g'<l[s'].aO.length),s<i+1->s'<i+1->0<l[s].aO[g].aT.length->0<l[s'].aO[g'].aT.length->(if s=i then iW else tW s) g=(if s'=i then iW else tW s') g'->s=s'/\g=g':=λs s' g g' h h' k k' h1 h2 p1 p2 e=>by
    by_cases e1:s=i
    .by_cases e2:s'=i
     .subst e1;subst e2;simp only[yAK]at e;simp only[hz]at k k' p1 p2;exact⟨rfl,XN g g' k k' k k' p1 p2 e⟩
     .rw[yAJ e1,yAI e2]at e;have h3:=wlo s' h' ye g' k' p2;subst e1;simp only[hz]at k p1;have:=whi g k p1;omega
    .by_cases e2:s'=i
     .rw[yAI e1,yAJ e2]at e;have h3:=wlo s h ye g k p1;subst e2;simp only[hz]at k' p2;have:=whi g' k' p2;omega
     .exact pq
   refine bC.normal (M-1) ye (by refine⟨i+1,id',(ss++[[.str sn,.int .i64 sa,.int .i64 sb,p2]]),(λs=>if s=i then iG else tG s),(λs=>if s=i then qs else tgs s),(λs=>if s=i then iW else tW s),bO,?_⟩;exact dU (⟨ye,ye,c3,c4,rV,c5,c6,c7,c8,DR⟩) @cY)
 .have q1:¬(i:Int)<(l.length:Int):=by omega
  obtain rfl:i=l.length:=ye;obtain⟨hD,hhD⟩:=gn (Go.Kz.hb 4 iS (l.length-1) l.length);have pD:hD.plain=true:=zj;have cD:hD.cells=[hD]:=zq;rw[hhD]at hbox z0;unfold PD.plain at pD;unfold PD.cells at cD;have XO:=hres;rw[<-hZ]at XO;obtain⟨w1,z1⟩:=yA.1 XO;refine aC (A9 q1 hbox w0 @z0 XO w1 z1 pD cD) ?_;refine⟨.agg [.str nm,.bool pe,.int .i64 a,.int .i64 b,hD],σ.set (B+1) (.box (.agg [.str nm,.bool pe,.int .i64 a,.int .i64 b,hD])),by simp[eF,w1],iS,ss,tG,tgs,tW,by rw[hhD],?_,by rw[yAD];omega,λid h=>by rw[yAd ye];exact hlow id h⟩;have k9:∀id (z:aB),B+2<=id->σ[id]?=some z->(σ.set (B+1) (.box (.agg [.str nm,.bool pe,.int .i64 a,.int .i64 b,hD])))[id]?=some z:=λid z h1 h2=>by rw[yAd ye];exact h2
  exact⟨hsl,λhp=>⟨Aq,k9 _ _ (hrow hp).1 (hrow hp).2.2⟩,λs h=>⟨(hdone s h h).1,(hdone s h h).2.bF ye k9⟩,λs s' g g' h h' k k' p1 p2 e=>hinj s s' g g' h h' k k' h h' p1 p2 e⟩
end
section
def hn(k id n:Nat):PD:=if n=0 then .slice k [] .full else .aU id 0 0 n k
theorem XC{k id n:Nat}(h:0<n):hn k id n=.aU id 0 0 n k:=yAI ye
theorem o5(k id n:Nat):(hn k id n).plain=true:=by unfold hn;split<;>rfl
theorem rX(k id n:Nat):(hn k id n).cells=[hn k id n]:=by unfold hn;split<;>rfl
theorem aET{α:Type}{em:Em α}{t e k b:Nat}(hu:prog.underlying t=some (.slice e))(hi:fT prog e=some (k,b))(ho:∀i z,prog.info? e=some i->i.zero=some z->z.cells.toList.all Value.oneCell'=true)(hb:b<=1000)(l:List α)(hl:l.length<=1000000)(σ:List aB)(n:Nat)(hn:gH t n=true)(fl:Nat) :
  cX prog n fl σ t (.slice k [] .full) (.slice (sz k l) (l.map em.aA) .any)=some (Go.Kz.hn k σ.length l.length,σ++newRow e k (l.map em.aA)):=by
 by_cases h0:l=[]
 .subst h0;have h:=BI (P:=prog) (σ:=σ) (t:=t) (e:=e) (k:=k) (b:=b) (s:=k) (z:=sz k ([]:List α)) (tok:=.any) (n:=n) hn hu hi ho;show cX prog n fl σ t (.slice k [] .full) (.slice (sz k ([]:List α)) [] .any)=some (.slice k [] .full,σ++[])
  rw[yAl];exact h
 .have hp:0<l.length:=yCt.2 h0;have h:=XI (P:=prog) (fl:=fl) (σ:=σ) (t:=t) (e:=e) (k:=k) (b:=b) (s:=k) (z:=sz k l) (n:=n) (xs:=l.map em.aA) (tok:=.any) hn hu hi ho (rE h0) (by rw[yAe];exact hp) zo (by rw[yAe];exact yAW (yDg hl hb) yj);rw[yAe]at h;rw[XC hp];unfold newRow;rw[yAI zo];exact h
structure gX (σ:List aB) (lo:Nat) (o:aM) (p:PD) (iR iD iC:Nat) (ds:List (List PD)) (tS:Nat->Nat) (tss:Nat->List (List PD)) (tG:Nat->Nat->Nat) (tgs:Nat->Nat->List (List PD)) (tW:Nat->Nat->Nat->Nat):Prop where
 p:p=.agg [.str o.name,hn 6 iR o.aK.length,hb 5 iD (o.aD.length-1) o.aD.length,hn 5 iC o.aR.length]
 aG:0<o.aK.length->lo<=iR/\σ[iR]?=some (.row 48 6 0 ((o.aK.map Em.aG.aA).flatMap PD.cells))
 aJ:0<o.aR.length->lo<=iC/\σ[iC]?=some (.row 58 5 0 ((o.aR.map Em.aJ.aA).flatMap PD.cells))
 len:ds.length=o.aD.length
 row:0<o.aD.length->lo<=iD/\σ[iD]?=some (.row 53 5 (o.aD.length-1) ds.flatten)
 at_:∀d (h:d<o.aD.length),ds[d]?=some [.str o.aD[d].name,.bool o.aD[d].eG,.int .i64 o.aD[d].low,.int .i64 o.aD[d].high,hq 4 (tS d) (o.aD[d].stops.length-1) o.aD[d].stops.length] /\
  mN σ lo o.aD[d] (tS d) (tss d) (tG d) (tgs d) (tW d)
 aLG:∀d d' (h:d<o.aD.length) (h':d'<o.aD.length),0<o.aD[d].stops.length->0<o.aD[d'].stops.length->tS d=tS d'->d=d'
 U1:∀d d' s s' g g' (h:d<o.aD.length) (h':d'<o.aD.length) (k:s<o.aD[d].stops.length) (k':s'<o.aD[d'].stops.length) (l:g<o.aD[d].stops[s].aO.length) (l':g'<o.aD[d'].stops[s'].aO.length),0<o.aD[d].stops[s].aO[g].aT.length->0<o.aD[d'].stops[s'].aO[g'].aT.length->tW d s g=tW d' s' g'->d=d'/\s=s'/\g=g'
def aBB(E:aE):Prop:=∀(d:bD) (hd:mB d) (τ:List aB),aL prog E 0 (.inl 40) [Em.div.aA d] τ (λp σ'=>∃iS ss tG tgs tW,p=.agg [.str d.name,.bool d.eG,.int .i64 d.low,.int .i64 d.high,Go.Kz.hb 4 iS (d.stops.length-1) d.stops.length]/\mN σ' τ.length d iS ss tG tgs tW/\τ.length<=σ'.length/\∀id,id<τ.length->σ'[id]?=τ[id]?)
variable{E E0:aE}(hU:aH E)
include hU
theorem aIU(h0:E 44=none)(h1:E 40=some (gP prog E0 40))(H1:aBB E0)(o:aM)(ho:eV o)(τ:List aB) :
  aL prog E 0 (.inl 44) [Em.bH.aA o] τ (λp σ'=>(∃iR iD iC ds tS tss tG tgs tW,gX σ' τ.length o p iR iD iC ds tS tss tG tgs tW)/\τ.length<=σ'.length/\∀id,id<τ.length->σ'[id]?=τ[id]?):=by
 obtain⟨nm,rs,ds,cs⟩:=o;obtain⟨⟨lP,gT⟩,⟨uA,mW⟩,dI⟩:=ho;simp only at lP gT uA mW dI;simp only[iA,aV];obtain⟨B,hB⟩:=gn (τ.length);clear hU;have pN:∀k id n,(Go.Kz.hn k id n).plain=true:=o5;have cN:∀k id n,(Go.Kz.hn k id n).cells=[Go.Kz.hn k id n]:=rX;obtain⟨W,hW⟩:=gn (aB.box (.agg [.str nm,.slice (sz 6 rs) (rs.map Em.aG.aA) .any,.slice (sz 5 ds) (ds.map Em.div.aA) .any,.slice (sz 5 cs) (cs.map Em.aJ.aA) .any]));obtain⟨Z,hZ⟩:=gn (aB.box (.agg [.str [],.slice 0 [] .full,.slice 0 [] .full,.slice 0 [] .full]));obtain⟨nR,hnR⟩:=gn (newRow 48 6 (rs.map Em.aG.aA));obtain⟨nC,hnC⟩:=gn (newRow 58 5 (cs.map Em.aJ.aA));obtain⟨iC,hiC⟩:=gn ((τ++W::Z::Z::nR).length);have fR:∀fl,cX prog 35 fl (τ++[W,Z]++[Z]) 31 (.slice 6 [] .full) (.slice (sz 6 rs) (rs.map Em.aG.aA) .any)=some (Go.Kz.hn 6 (B+3) rs.length,(τ++[W,Z]++[Z])++nR):=λfl=>by
  have h:=aET (em:=Em.aG) (k:=6) (b:=80) underlying31 yf (lJ yf) yj rs lP (τ++[W,Z]++[Z]) 35 yu fl;rw[hnR,show(τ++[W,Z]++[Z]).length=B+3 by simp[hB]]at h;exact h
 have fC:∀fl,cX prog 35 fl ((τ++[W,Z]++[Z])++nR) 33 (.slice 5 [] .full) (.slice (sz 5 cs) (cs.map Em.aJ.aA) .any)=some (Go.Kz.hn 5 iC cs.length,((τ++[W,Z]++[Z])++nR)++nC):=λfl=>by
  have h:=aET (em:=Em.aJ) (k:=5) (b:=48) underlying33 yf (lJ yf) yj cs dI ((τ++[W,Z]++[Z])++nR) 35 yu fl;rw[hnC,show((τ++[W,Z]++[Z])++nR).length=iC by rw[<-hiC];simp]at h;exact h
 have gW:∀L,((τ++[W,Z])++L)[B]?=some W:=λL=>Ar
 refine aL.aN 35 h0 func44 (h:=?_);refine aC hB ?_;rw[hB];obtain⟨hR,hhR⟩:=gn (Go.Kz.hn 6 (B+3) rs.length);obtain⟨hC,hhC⟩:=gn (Go.Kz.hn 5 iC cs.length);have pR:hR.plain=true:=Aa;have pC:hC.plain=true:=Ab;have cR:hR.cells=[hR]:=Al;have cC:hC.cells=[hC]:=Ag;rw[hhR]at fR;rw[hhC]at fC;unfold PD.plain at pR pC;unfold PD.cells at cR cC;rw[hW,hZ];have jB:∀(X:aB) L,(τ++X::L)[B]?=some X:=λX L=>Ar
 have jB1:∀(X Y:aB) L,(τ++X::Y::L)[B+1]?=some Y:=λX Y L=>by rw[yBz ye,hB,yCQ];rfl
 have jB2:∀(X Y V:aB) L,(τ++X::Y::V::L)[B+2]?=some V:=λX Y V L=>by rw[yBz ye,hB,yCQ];rfl
 have jS2:∀(X Y V U:aB) L,(τ++X::Y::V::L).set (B+2) U=τ++X::Y::U::L:=λX Y V U L=>by rw[yDA _ _ ye,hB,yCQ];rfl
 apply Wp.aP2 (hs:=[Z]) yu (by rw[<-hZ];kernel_rfl)
 .intro call;rw[show(τ++[W,Z]).length=B+2 by simp[hB]];apply DQ.step
  .rfl
  .rfl
  .exact ck
  apply DQ.step
  .rfl
  .exact sv
  .exact ck
  apply DQ.step
  .rfl
  .exact aEU (p:=.slice 6 [] .full) rfl yf
  .exact ck
  apply DQ.step
  .rfl
  .rfl
  .exact ck
  apply DQ.step
  .rfl
  .exact sv
  .exact ck
  apply DQ.step
  .rfl
  .exact aEV rfl rfl fR
  .exact ck
  apply DQ.step
  .rfl
  .exact aEU (p:=.slice 5 [] .full) rfl yf
  .exact ck
  apply DQ.step
  .rfl
  .rfl
  .exact ck
  apply DQ.step
  .rfl
  .exact sv
  .exact ck
  apply DQ.step
  .rfl
  .exact aEV rfl rfl fC
  .exact ck
  apply DQ.step
  .rfl
  .exact aP3 rfl (by simp[pR,pC,cR,cC];rfl)
  .exact ck
  apply DQ.alloc
  .rfl
  .exact ck
  apply DQ.step
  .rfl
  .exact aP4 rfl rfl (by simp[hZ.symm,jB2,jS2,pR,pC,cR,cC];rfl)
  .exact ck
  exact DQ.nil
 rw[hZ];obtain⟨S0,nV⟩:=gn (τ++W::Z::aB.box (.agg [.str nm,hR,.slice 0 [] .full,hC])::(nR++nC));rw[nV];obtain⟨L0,nF⟩:=gn (S0.length);have sB:S0[B]?=some W:=by rw[<-nV];exact jB _ _
 have sZ:S0[B+1]?=some Z:=by rw[<-nV];exact jB1 _ _ _
 have sO:S0[B+2]?=some (aB.box (.agg [.str nm,hR,.slice 0 [] .full,hC])):=by rw[<-nV];exact jB2 _ _ _ _
 have sT:∀id,id<B->S0[id]?=τ[id]?:=λid h=>by rw[<-nV,yAg ye]
 have sR:0<rs.length->S0[B+3]?=some (.row 48 6 0 ((rs.map Em.aG.aA).flatMap PD.cells)):=λh=>by
  rw[<-nV,<-hnR,yBz ye,hB,yCQ];show(newRow 48 6 (rs.map Em.aG.aA)++nC)[0]?=_
  unfold newRow;rw[yAI zo];rfl
 have sC:0<cs.length->S0[iC]?=some (.row 58 5 0 ((cs.map Em.aJ.aA).flatMap PD.cells)):=λh=>by
  have h1:=N9 (e:=58) (k:=5) (xs:=cs.map Em.aJ.aA) (τ++W::Z::aB.box (.agg [.str nm,hR,.slice 0 [] .full,hC])::nR) Ak;rw[hnC,show(τ++W::Z::aB.box (.agg [.str nm,hR,.slice 0 [] .full,hC])::nR).length=iC by rw[<-hiC];simp]at h1;rw[<-nV];simpa using h1
 have iCl:B+3<=iC:=by rw[<-hiC,yAa,hB];simp
 have bL:B+3<=L0:=by
  have:=(yA.1 sO).1;omega
 have gw0:=sB;rw[<-hW]at gw0;refine aC trivial ?_;refine Wp.cI (λm fr σ=>∃(i:Nat) (iD:Nat) (gs:List (List PD)) (tS:Nat->Nat) (tss:Nat->List (List PD)) (tG:Nat->Nat->Nat) (tgs:Nat->Nat->List (List PD)) (tW:Nat->Nat->Nat->Nat) (σ1:List aB),∃gg:Nat->PD,(i+m=ds.length/\L0<=σ1.length/\(∀(id:Nat) (x:aB),id≠B+2->S0[id]?=some x->σ1[id]?=some x)/\σ1[B+2]?=some (.box (.agg [.str nm,hR,Go.Kz.hb 5 iD (i-1) i,hC]))/\gs.length=i/\(∀g∈gs,g.length=5)/\(0<i->L0<=iD/\iD<σ1.length/\σ1[iD]?=some (.row 53 5 (i-1) gs.flatten))/\(∀d (h:d<ds.length),d<i->gs[d]?=some [.str ds[d].name,.bool ds[d].eG,.int .i64 ds[d].low,.int .i64 ds[d].high,hq 4 (tS d) (ds[d].stops.length-1) ds[d].stops.length]/\mN σ1 L0 ds[d] (tS d) (tss d) (tG d) (tgs d) (tW d))/\(∀d d' (h:d<ds.length) (h':d'<ds.length),d<i->d'<i->0<ds[d].stops.length->0<ds[d'].stops.length->tS d=tS d'->d=d')/\(∀d d' s s' g g' (h:d<ds.length) (h':d'<ds.length) (k:s<ds[d].stops.length) (k':s'<ds[d'].stops.length) (l:g<ds[d].stops[s].aO.length) (l':g'<ds[d'].stops[s'].aO.length),d<i->d'<i->0<ds[d].stops[s].aO[g].aT.length->0<ds[d'].stops[s'].aO[g'].aT.length->tW d s g=tW d' s' g'->d=d'/\s=s'/\g=g'))/\fr=[gg 0,.ptr B 0,.ptr (B+1) 0,.ptr (B+2) 0,.int .i64 i,gg 5,gg 6,gg 7,gg 8,gg 9,gg 10,gg 11,gg 12,gg 13,gg 14,gg 15,gg 16,gg 17,gg 18,gg 19,gg 20,gg 21,gg 22,gg 23,gg 24,gg 25,gg 26,gg 27,gg 28,gg 29,gg 30,gg 31,gg 32,gg 33,gg 34]/\σ=σ1) ?_ (ds.length) (by refine⟨0,0,[],(λ_=>0),(λ_=>[]),(λ_ _=>0),(λ_ _=>[]),(λ_ _ _=>0),S0,?_⟩;exact bG (⟨ye,ye,λid x _ h=>h,sO,rfl,λg h=>yw,λh=>absurd h (yCG 0),λs _ h=>absurd h (yBv s),λd d' h h' h1=>absurd h1 (yBv d),λd d' s s' g g' h h' k k' l l' h1=>absurd h1 (yBv d)⟩))
 rintro m fr σ ⟨i,iD,gs,tS,tss,tG,tgs,tW,σ1,gg,hI,rfl,rfl⟩
 obtain⟨hm,hlen,hkeep,hbox,hgl,GY,hrow,hdone,hiS,hiW⟩:=hI;have vB:=hkeep B _ ye gw0;have vZ:=hkeep (B+1) _ ye sZ;obtain⟨w0,z0⟩:=yA.1 vB;obtain⟨w2,z2⟩:=yA.1 hbox
 by_cases hi:i<ds.length
 .have q1:(i:Int)<(ds.length:Int):=by omega
  have hzo:=mW _ (yAm hi);obtain⟨z,hz⟩:=gn (ds[i]);rw[hz]at hzo;obtain⟨ρ,rfl⟩:∃s,s=σ:=⟨_,rfl⟩;obtain⟨S,hS⟩:=gn (ρ.length);have nρ:ρ≠[]:=λe=>by rw[e]at w0;exact absurd w0 (yBv _)
  obtain⟨pz,lI,hev,zS,zss,zG,zgs,zW,rfl,hst,zJ,o0⟩:=(H1 z hzo ρ).e0 nρ;rw[hS]at hst zJ o0;have k7:∀id (x:aB),ρ[id]?=some x->lI[id]?=some x:=λid x h=>(o0 id (by rw[<-hS];exact(yA.1 h).1)).trans h
  have v7:=k7 _ _ hbox;have vB7:=k7 _ _ vB;obtain⟨p2,jU⟩:=gn (Go.Kz.hq 4 zS (z.stops.length-1) z.stops.length);obtain⟨h4,PJ⟩:=gn (Go.Kz.hb 4 zS (z.stops.length-1) z.stops.length);obtain⟨hD,hhD⟩:=gn (Go.Kz.hb 5 iD (i-1) i);have d4:h4.strip=p2:=by rw[<-PJ,<-jU];exact aEW _ _ _ _
  have pp:p2.plain=true:=Ds;have cp:p2.cells=[p2]:=Dt;have p4:h4.plain=true:=by rw[<-PJ];exact o6 _ _ _ _
  have c4:h4.cells=[h4]:=by rw[<-PJ];exact qZ _ _ _ _
  obtain⟨id',σ',e1,e2,e3,e4,e5,e6⟩:=XK (e:=53) (t:=32) (k:=5) (b:=64) underlying32 yf (lJ yf) yj i iD ye lI gs GY hgl (λhp=>k7 _ _ (hrow hp).2.2) (.agg [.str z.name,.bool z.eG,.int .i64 z.low,.int .i64 z.high,p2]) .full rfl;obtain⟨h9,iF⟩:=gn (Go.Kz.hb 5 id' i (i+1));have pD:hD.plain=true:=zj;have cD:hD.cells=[hD]:=zq;have p9:h9.plain=true:=Du;have c9:h9.cells=[h9]:=Dv;rw[hhD]at e1 hbox v7 z2;rw[iF]at e1;rw[PJ]at hev;unfold PD.plain at p9 pp pD p4;unfold PD.cells at c9 cp cD c4;have s1:=e6 (B+2) _ v7 (λhp=>Aq);obtain⟨v1,y1⟩:=yA.1 s1;obtain⟨w7,y7⟩:=yA.1 v7;have hK:=U3 (B:=[B+2]) h1 hev (by rw[hS];exact zJ) (λid _ h=>o0 id (by rw[<-hS];exact h));have zem:=hz;obtain⟨zn,zp,za,zb,zs⟩:=z;simp only at e1 hK;simp only[nN,aV]at hK;refine aC (A9 q1 hi @hz vB w0 @z0 hbox w2 @z2) ?_;refine Wp.aP5 h1 U4 nρ [(1,B),(3,B+2)] [B+2] [some (B+2)] yu (λid hid=>by rw[yCy.1 hid];exact⟨_,hbox⟩) ⟨⟨_,rfl,rfl⟩,⟨_,rfl,rfl⟩,trivial⟩ yf (by simp[zK]) ?_;refine CF (A20 q1 hi @hz vB w0 @z0 hbox w2 @z2 hK e1 @s1 @v1 y1 v7 w7 y7 vB7 p9 (A12 c9 @pp cp pD cD p4 c4 @d4 pR pC cR cC)) ?_;apply SQ.nil;refine aC q1 ?_;obtain⟨bO,cY⟩:=gn (σ'.set (B+2) (.box (.agg [.str nm,hR,h9,hC])));have n9:∀id,id≠B+2->bO[id]?=σ'[id]?:=λid h=>zy
  have b9:bO[B+2]?=some (.box (.agg [.str nm,hR,h9,hC])):=Ej;have l9:bO.length=σ'.length:=by rw[<-cY,yAD]
  have up:∀id (x:aB),id≠B+2->lI[id]?=some x->(0<i->id≠iD)->bO[id]?=some x:=λid x h1 h2 h3=>by rw[n9 id h1];exact e6 id x h2 h3
  have tyD:∀id (x:aB),lI[id]?=some x->(∀n v cs,x≠.row 53 n v cs)->0<i->id≠iD:=λid x h1 h2 hp e=>by
   rw[e,k7 _ _ (hrow hp).2.2]at h1;exact h2 _ _ _ (yBe h1).symm
  have hid:L0<=id'/\id'<bO.length:=by
   exact je
  have keepL:∀ {lo lo':Nat} {d:bD} {iS:Nat} {ss:Eu} {tG:Nat->Nat} {tgs:Et} {tW:Nat->Nat->Nat},mN lI lo d iS ss tG tgs tW->L0<=lo'->lo'<=lo->mN bO lo' d iS ss tG tgs tW:=fun {lo lo' d iS ss tG tgs tW} h hb hl=>by
   obtain⟨a1,a2,a3,a4⟩:=h;refine⟨a1,λhp=>⟨yAW hl (a2 hp).1,up _ _ Cf (a2 hp).2 (tyD _ _ (a2 hp).2 (λn v cs h=>by have:=(aB.row.inj h).1;exact absurd this yj))⟩,λs h=>⟨(a3 s h).1,?_⟩,a4⟩;obtain⟨b1,b2,b3,b4⟩:=(a3 s h).2;exact⟨b1,λhp=>⟨yAW hl (b2 hp).1,up _ _ (by have:=(b2 hp).1;omega) (b2 hp).2 (tyD _ _ (b2 hp).2 (λn v cs h=>by have:=(aB.row.inj h).1;exact absurd this yj))⟩,λg hg=>⟨(b3 g hg).1,λhp=>⟨yAW hl ((b3 g hg).2 hp).1,up _ _ (by have:=((b3 g hg).2 hp).1;omega) ((b3 g hg).2 hp).2 (tyD _ _ ((b3 g hg).2 hp).2 (λn v cs h=>by have:=(aB.row.inj h).1;exact absurd this yj))⟩⟩,b4⟩
  have k79:∀ {d:bD} {iS:Nat} {ss:Eu} {tG:Nat->Nat} {tgs:Et} {tW:Nat->Nat->Nat},mN ρ L0 d iS ss tG tgs tW->mN lI L0 d iS ss tG tgs tW:=fun {d iS ss tG tgs tW} h=>by
   obtain⟨a1,a2,a3,a4⟩:=h;exact⟨a1,λhp=>⟨(a2 hp).1,k7 _ _ (a2 hp).2⟩,λs h=>⟨(a3 s h).1,(a3 s h).2.bF (yAk _) λid x _ h=>k7 id x h⟩,a4⟩
  have kS:∀d (h:d<ds.length),d<i->mN bO L0 ds[d] (tS d) (tss d) (tG d) (tgs d) (tW d):=λd h hlt=>keepL (k79 (hdone d h hlt).2) (yAk _) (yAk _)
  have kN:mN bO L0 ⟨zn,zp,za,zb,zs⟩ zS zss zG zgs zW:=keepL hst (yAk _) ye;have slo:∀d (h:d<ds.length),d<i->0<ds[d].stops.length->tS d<S:=λd h hlt hp=>by
   have:=(yA.1 ((hdone d h hlt).2.row hp).2).1;omega
  have shi:0<zs.length->S<=zS:=λhp=>(hst.row hp).1
  have wlo:∀d (h:d<ds.length),d<i->∀s (hs:s<ds[d].stops.length) g (hg:g<ds[d].stops[s].aO.length),0<ds[d].stops[s].aO[g].aT.length->tW d s g<S:=λd h hlt s hs g hg hp=>by
   have:=(yA.1 ((((hdone d h hlt).2.at_ s hs).2.at_ g hg).2 hp).2).1;omega
  have whi:∀s (hs:s<zs.length) g (hg:g<zs[s].aO.length),0<zs[s].aO[g].aT.length->S<=zW s g:=λs hs g hg hp=>(((hst.at_ s hs).2.at_ g hg).2 hp).1
  have c3:∀(id:Nat) (x:aB),id≠B+2->S0[id]?=some x->bO[id]?=some x:=λid x h1 h2=>by
   have h3:=(yA.1 h2).1;exact up id x h1 (k7 _ _ (hkeep id x h1 h2)) (λhp=>Aq)
  have c4:bO[B+2]?=some (.box (.agg [.str nm,hR,Go.Kz.hb 5 id' (i+1-1) (i+1),hC])):=by rw[b9,<-iF];rfl
  have c5:(gs++[[PD.str zn,.bool zp,.int .i64 za,.int .i64 zb,p2]]).length=i+1:=by rw[yAa,hgl];rfl
  have c6:∀g∈gs++[[PD.str zn,.bool zp,.int .i64 za,.int .i64 zb,p2]],g.length=5:=λg h=>by
   rcases yBf.1 h with h|h
   .exact GY g h
   .rw[yCy.1 h];rfl
  have c7:0<i+1->L0<=id'/\id'<bO.length/\bO[id']?=some (.row 53 5 (i+1-1) (gs++[[PD.str zn,.bool zp,.int .i64 za,.int .i64 zb,p2]]).flatten):=λ_=>⟨hid.1,hid.2,by rw[n9 _ ye];exact e4⟩
  have c8:∀d (h:d<ds.length),d<i+1->(gs++[[PD.str zn,.bool zp,.int .i64 za,.int .i64 zb,p2]])[d]?=some [.str ds[d].name,.bool ds[d].eG,.int .i64 ds[d].low,.int .i64 ds[d].high,Go.Kz.hq 4 (if d=i then zS else tS d) (ds[d].stops.length-1) ds[d].stops.length]/\mN bO L0 ds[d] (if d=i then zS else tS d) (if d=i then zss else tss d) (if d=i then zG else tG d) (if d=i then zgs else tgs d) (if d=i then zW else tW d):=λd h hlt=>by
   by_cases e:d=i
   .subst e;simp only[yAK,hz];exact⟨by rw[yBz ye,hgl,yCx,<-jU];rfl,kN⟩
   .simp only[e,yAN];exact⟨by rw[yAg ye];exact(hdone d h ye).1,kS d h ye⟩
  have DR:∀d d' (h:d<ds.length) (h':d'<ds.length),d<i+1->d'<i+1->0<ds[d].stops.length->0<ds[d'].stops.length->(if d=i then zS else tS d)=(if d'=i then zS else tS d')->d=d':=λd d' h h' h1 h2 p1 p2 e=>by
   by_cases e1:d=i
   .by_cases e2:d'=i
    .rw[e1,e2]
    .rw[yAJ e1,yAI e2]at e;have:=slo d' h' ye p2;subst e1;simp only[hz]at p1;have:=shi p1;omega
   .by_cases e2:d'=i
    .rw[yAI e1,yAJ e2]at e;have:=slo d h ye p1;subst e2;simp only[hz]at p2;have:=shi p2;omega
    .exact so
  have c9w:∀d d' s s' g g' (h:d<ds.length) (h':d'<ds.length) (k:s<ds[d].stops.length) (k':s'<ds[d'].stops.length) (l:g<ds[d].stops[s].aO.length) (l':g'<ds[d'].stops[s'].aO.length),d<i+1->d'<i+1->0<ds[d].stops[s].aO[g].aT.length->0<ds[d'].stops[s'].aO[g'].aT.length->(if d=i then zW else tW d) s g=(if d'=i then zW else tW d') s' g'->d=d'/\s=s'/\g=g':=λd d' s s' g g' h h' k k' l l' h1 h2 p1 p2 e=>by
   by_cases e1:d=i
   .by_cases e2:d'=i
    .exact jd
    .rw[yAJ e1,yAI e2]at e;have h3:=wlo d' h' ye s' k' g' l' p2;subst e1;simp only[hz]at k l p1;have:=whi s k g l p1;omega
   .by_cases e2:d'=i
    .rw[yAI e1,yAJ e2]at e;have h3:=wlo d h ye s k g l p1;subst e2;simp only[hz]at k' l' p2;have:=whi s' k' g' l' p2;omega
    .exact nw
  refine bC.normal (m-1) ye (by refine⟨i+1,id',(gs++[[.str zn,.bool zp,.int .i64 za,.int .i64 zb,p2]]),(λd=>if d=i then zS else tS d),(λd=>if d=i then zss else tss d),(λd=>if d=i then zG else tG d),(λd=>if d=i then zgs else tgs d),(λd=>if d=i then zW else tW d),bO,?_⟩;exact dU (⟨ye,ye,c3,c4,c5,c6,c7,c8,DR,c9w⟩) @cY)
 .have q1:¬(i:Int)<(ds.length:Int):=by omega
  obtain rfl:i=ds.length:=ye;obtain⟨hD,hhD⟩:=gn (Go.Kz.hb 5 iD (ds.length-1) ds.length);have pD:hD.plain=true:=zj;have cD:hD.cells=[hD]:=zq;rw[hhD]at hbox z2;unfold PD.plain at pD;unfold PD.cells at cD;have XL:=vZ;rw[<-hZ]at XL;obtain⟨w1,z1⟩:=yA.1 XL;refine aC (A16 q1 vB w0 @z0 hbox w2 @z2 XL w1 z1 pD cD pR pC cR cC) ?_;obtain⟨bO,cY⟩:=gn (σ.set (B+1) (.box (.agg [.str nm,hR,hD,hC])));rw[cY];have fQ:∀id,id≠B+1->bO[id]?=σ[id]?:=λid h=>zy
  have z9:bO[B+1]?=some (.box (.agg [.str nm,hR,hD,hC])):=by rw[<-cY];exact yAj w1
  refine⟨.agg [.str nm,hR,hD,hC],bO,by simp[eF,z9],⟨B+3,iD,iC,gs,tS,tss,tG,tgs,tW,?_⟩,Bt,λid h=>by
   have h1:id<S0.length:=ye;rw[fQ id ye,<-sT id h,hkeep id _ ye (yAh h1),yAh h1]⟩
  refine⟨by rw[hhR,hhD,hhC],λh=>⟨ye,?_⟩,λh=>⟨ye,?_⟩,hgl,λh=>⟨by have:=(hrow h).1;omega,?_⟩,λd (h:d<ds.length)=>?_,λd d' (h:d<ds.length) (h':d'<ds.length)=>hiS d d' h h' ye ye,λd d' s s' g g' (h:d<ds.length) (h':d'<ds.length) k k' l l'=>hiW d d' s s' g g' h h' k k' l l' ye ye⟩
  .show bO[B+3]?=some (.row 48 6 0 ((rs.map Em.aG.aA).flatMap PD.cells))
   rw[fQ _ ye];exact hkeep _ _ ye (sR h)
  .show bO[iC]?=some (.row 58 5 0 ((cs.map Em.aJ.aA).flatMap PD.cells))
   rw[fQ _ ye];exact hkeep _ _ ye (sC h)
  .show bO[iD]?=some (.row 53 5 (ds.length-1) gs.flatten)
   rw[fQ _ (by have:=(hrow h).1;omega)];exact(hrow h).2.2
  .obtain⟨d1,a1,a2,a3,a4⟩:=hdone d h h;refine⟨d1,a1,λhp=>⟨Cf,by rw[fQ _ Cf];exact(a2 hp).2⟩,λs h=>⟨(a3 s h).1,(a3 s h).2.bF ye λid x h1 h2=>by rw[fQ id ye];exact h2⟩,a4⟩
end
end Go.Kz
