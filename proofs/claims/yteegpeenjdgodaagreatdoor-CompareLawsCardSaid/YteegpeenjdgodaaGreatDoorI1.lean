/- Steps of the proof. -/
import Derived.Test.YteegpeenjdgodaaGreatDoorH5b
import Derived.Test.YteegpeenjdgodaaGreatDoorG3
set_option linter.all false
set_option maxHeartbeats 40000000
set_option maxRecDepth 100000
open Go.Proofs.Tryz
namespace Go.Kz
open Go Go.Proofs
section
def hq(k id v n:Nat):PD:=if n=0 then .slice 0 [] .any else .aR id v 0 n k
def hb(k id v n:Nat):PD:=if n=0 then .slice 0 [] .full else .aR id v 0 n k
theorem aGn{k id v n:Nat}(h:0<n):hq k id v n=.aR id v 0 n k:=yAI Ah
theorem OG{k id v n:Nat}(h:0<n):hb k id v n=.aR id v 0 n k:=yAI Ah
theorem aGo(k id v n:Nat):(hq k id v n).plain=true:=by unfold hq;split<;>rfl
theorem aGp(k id v n:Nat):(hq k id v n).cells=[hq k id v n]:=by unfold hq;split<;>rfl
theorem IM(k id v n:Nat):(hb k id v n).plain=true:=by unfold hb;split<;>rfl
theorem IN(k id v n:Nat):(hb k id v n).cells=[hb k id v n]:=by unfold hb;split<;>rfl
theorem aSj(k id v n:Nat):(hb k id v n).strip=hq k id v n:=by unfold hb hq;split<;>rfl
theorem aGq{P:Program}{fl:Nat}{σ:Gb}{t e:TypeId}{k b s z n:Nat}{xs:Gc}{tok:Tok}(ht:lE t n=true)(hu:P.underlying t=some (.slice e))(hi:iM P e=some (k,b))(ho:∀i z,P.info? e=some i->i.zero=some z->z.cells.toList.all Value.oneCell'=true)
  (hz:z=k) (h0:0<xs.length) (hm:xs.length<=100000000000000) (hb:xs.length*b<=140737488355328) :
  fR P n fl σ t (.slice s [] .full) (.slice z xs tok)=some (.aR σ.length 0 0 xs.length k,σ++[.row e k 0 (xs.flatMap PD.cells)]):=by
 exact cz
structure sZ (σ:List aB) (lo:Nat) (s:bW) (iG:Nat) (gs:List (List PD)) (iW:Nat->Nat):Prop where
 len:gs.length=s.aU.length
 row:0<s.aU.length->lo<=iG/\σ[iG]?=some (.row 92 3 (s.aU.length-1) gs.flatten)
 at_:∀g (h:g<s.aU.length),gs[g]?=some [.int .i64 s.aU[g].lo,.int .i64 s.aU[g].hi,hq 2 (iW g) 0 s.aU[g].aX.length]/\CJ σ lo s.aU[g].aX (iW g)
 inj:∀g g' (h:g<s.aU.length) (h':g'<s.aU.length),0<s.aU[g].aX.length->0<s.aU[g'].aX.length->iW g=iW g'->g=g'
theorem sZ.aQ{σ σ':Gb}{lo lo':Nat}{s:bW}{iG:Nat}{gs:Fz}{iW:Nat->Nat}(h:sZ σ lo s iG gs iW)(hl:lo'<=lo)(hk:∀(id:Nat) (o:aB),lo<=id->σ[id]?=some o->σ'[id]?=some o):sZ σ' lo' s iG gs iW:=by
 obtain⟨h2,h3,h4,h5⟩:=h;exact⟨h2,λhp=>⟨yAV hl (h3 hp).1,hk _ _ (h3 hp).1 (h3 hp).2⟩,λg h=>⟨(h4 g h).1,λhp=>⟨yAV hl ((h4 g h).2 hp).1,hk _ _ ((h4 g h).2 hp).1 ((h4 g h).2 hp).2⟩⟩,h5⟩
structure IL (σ:List aB) (lo:Nat) (d:bD) (iS:Nat) (ss:List (List PD)) (tG:Nat->Nat) (tgs:Nat->List (List PD)) (tW:Nat->Nat->Nat):Prop where
 len:ss.length=d.stops.length
 row:0<d.stops.length->lo<=iS/\σ[iS]?=some (.row 56 4 (d.stops.length-1) ss.flatten)
 at_:∀s (h:s<d.stops.length),ss[s]?=some [.str d.stops[s].name,.int .i64 d.stops[s].num,.int .i64 d.stops[s].den,hq 3 (tG s) (d.stops[s].aU.length-1) d.stops[s].aU.length]/\sZ σ lo d.stops[s] (tG s) (tgs s) (tW s)
 inj:∀s s' g g' (h:s<d.stops.length) (h':s'<d.stops.length) (k:g<d.stops[s].aU.length) (k':g'<d.stops[s'].aU.length),0<d.stops[s].aU[g].aX.length->0<d.stops[s'].aU[g'].aX.length->tW s g=tW s' g'->s=s'/\g=g'
theorem aSk(ds:List dT)(hd:ds.length<=1000000)(σ:List aB):∃p L,(∀n,lE 90 n=true->fR prog n 0 σ 90 (.slice 2 [] .full) (.slice (sz 2 ds) (ds.map Em.draw.aA) .any)=some (p,σ++L))/\p.plain=true/\p.cells=[p]/\p.strip=hq 2 σ.length 0 ds.length/\(0<ds.length->L=[.row 89 2 0 (lT ds)]):=by
 by_cases h0:ds=[]
 .subst h0;refine⟨.slice 2 [] .full,[],λn hn=>?_,rfl,rfl,rfl,λh=>absurd h (yCR 0)⟩;have h:=FA (P:=prog) (σ:=σ) (t:=90) (e:=89) (k:=2) (b:=16) (s:=2) (z:=sz 2 ([]:List dT)) (tok:=.any) (n:=n) hn underlying90 Aj (qO Aj);rw[yAl];exact h
 .have hp:0<ds.length:=yDe.2 h0;refine⟨.aR σ.length 0 0 ds.length 2,[.row 89 2 0 (lT ds)],λn hn=>?_,rfl,rfl,by rw[aGn hp];rfl,λ_=>rfl⟩;have h:=aGq (P:=prog) (fl:=0) (σ:=σ) (t:=90) (e:=89) (k:=2) (b:=16) (s:=2) (z:=sz 2 ds) (n:=n) (xs:=ds.map Em.draw.aA) (tok:=.any) hn underlying90 Aj (qO Aj) (s7 h0) (by rw[yAe];exact hp) Bg Bg;rw[yAe,aEt]at h;exact h
theorem aGr{e t k b:Nat}(hu:prog.underlying t=some (.slice e))(hi:iM prog e=some (k,b))(ho:∀i z,prog.info? e=some i->i.zero=some z->z.cells.toList.all Value.oneCell'=true)(hb:b<=1000)(j id:Nat)(hj:j<=1000000)(σ:List aB)(gs:List (List PD))(hg:∀g∈gs,g.length=k)(hl:gs.length=j)(hr:0<j->σ[id]?=some (.row e k (j-1) gs.flatten))(x:PD)(tok:Tok)(hx:x.cells.length=k) :
  ∃id' σ',(∀n,lE t n=true->fR prog n 0 σ t (Go.Kz.hb k id (j-1) j) (.slice k [x] tok)=some (Go.Kz.hb k id' j (j+1),σ'))/\(0<j->id'=id)/\(j=0->id'=σ.length)/\σ'[id']?=some (.row e k j (gs++[x.cells]).flatten)/\σ.length<=σ'.length/\∀i (z:aB),σ[i]?=some z->(0<j->i≠id)->σ'[i]?=some z:=by
 have hfl:(gs++[x.cells]).flatten=gs.flatten++x.cells:=Ai
 by_cases h0:j=0
 .subst h0;have qM:gs=[]:=yAf hl;subst qM;refine⟨σ.length,σ++[.row e k 0 x.cells],λn hn=>?_,λh=>absurd h (yCR 0),λ_=>rfl,Ai,Ai,λi z h _=>cE h⟩;have h:=aGq (P:=prog) (fl:=0) (σ:=σ) (t:=t) (e:=e) (k:=k) (b:=b) (s:=0) (z:=k) (n:=n) (xs:=[x]) (tok:=tok) hn hu hi ho rfl Ai Ai Aw;rw[show Go.Kz.hb k id (0-1) 0=.slice 0 [] .full from rfl,OG (show 0<0+1 by omega)];simpa using h
 .have hr:=hr Ah;obtain⟨r1,r2⟩:=yA.1 hr;have hfn:=nH gs hg;refine⟨id,σ.set id (.row e k j (gs++[x.cells]).flatten),λn hn=>?_,λ_=>rfl,λh=>absurd h h0,yAj r1,Ai,λi z h hne=>by rw[yAd (yAW (hne Ah))];exact h⟩;have h:=aOy (P:=prog) (σ:=σ) (t:=t) (e:=e) (k:=k) (b:=b) (n:=n) (id:=id) (v:=j-1) (m:=j) (cs:=gs.flatten) (x:=x) (tok:=tok) hn hu hi ho hr (by rw[hfn,hl]) hx hj hb;rw[OG Ah,OG Ah,hfl,show(j-1+1)=j by omega]at *;exact h
variable{E E0:aE}(hU:aH E)
include hU
theorem aKb(h0:E 40=none)(d:bD)(hd:fY d)(τ:List aB) :
  aL prog E 0 (.inl 40) [Em.div.aA d] τ (λp σ'=>∃iS ss tG tgs tW,p=.agg [.str d.name,.bool d.eE,.int .i64 d.low,.int .i64 d.high,Go.Kz.hb 4 iS (d.stops.length-1) d.stops.length]/\IL σ' τ.length d iS ss tG tgs tW/\τ.length<=σ'.length/\∀id,id<τ.length->σ'[id]?=τ[id]?):=by
 clear hU;obtain⟨nm,pe,a,b,l⟩:=d;obtain⟨hl,hld⟩:=hd;simp only at hl hld;simp only[lX,aW];obtain⟨B,hB⟩:=gn (τ.length);obtain⟨Z,hZ⟩:=gn (aB.box (.agg [.str [],.bool false,.int .i64 0,.int .i64 0,.slice 0 [] .full]));refine aL.aN 51 h0 func40 (h:=?_);refine aC hB ?_;simp only[hB,hZ];have jB:∀X L,(τ++X::L)[B]?=some (X:aB):=λX L=>Cp
 refine Wp.cZ (λm fr σ=>∃(i:Nat) (iS:Nat) (ss:List (List PD)) (tG:Nat->Nat) (tgs:Nat->List (List PD)) (tW:Nat->Nat->Nat) (σ1:List aB),∃gg:Nat->PD,(i+m=l.length/\B+2<=σ1.length/\(∀id,id<B->σ1[id]?=τ[id]?)/\σ1[B]?=some (.box (.agg [.str nm,.bool pe,.int .i64 a,.int .i64 b,Go.Kz.hb 4 iS (i-1) i]))/\σ1[B+1]?=some Z/\ss.length=i/\(∀g∈ss,g.length=4)/\(0<i->B+2<=iS/\iS<σ1.length/\σ1[iS]?=some (.row 56 4 (i-1) ss.flatten))/\(∀s (h:s<l.length),s<i->ss[s]?=some [.str l[s].name,.int .i64 l[s].num,.int .i64 l[s].den,hq 3 (tG s) (l[s].aU.length-1) l[s].aU.length]/\sZ σ1 (B+2) l[s] (tG s) (tgs s) (tW s))/\(∀s s' g g' (h:s<l.length) (h':s'<l.length) (k:g<l[s].aU.length) (k':g'<l[s'].aU.length),s<i->s'<i->0<l[s].aU[g].aX.length->0<l[s'].aU[g'].aX.length->tW s g=tW s' g'->s=s'/\g=g'))/\fr=[gg 0,.ptr B 0,.ptr (B+1) 0,.slice (sz 4 l) (l.map Em.stop.aA) .any,.int .i64 i,gg 5,gg 6,gg 7,gg 8,gg 9,gg 10,gg 11,gg 12,gg 13,gg 14,gg 15,gg 16,gg 17,gg 18,gg 19,gg 20,gg 21,gg 22,gg 23,gg 24,gg 25,gg 26,gg 27,gg 28,gg 29,gg 30,gg 31,gg 32,gg 33,gg 34,gg 35,gg 36,gg 37,gg 38,gg 39,gg 40,gg 41,gg 42,gg 43,gg 44,gg 45,gg 46,gg 47,gg 48,gg 49,gg 50]/\σ=σ1) ?_ (l.length) (by refine⟨0,0,[],(λ_=>0),(λ_=>[]),(λ_ _=>0),(τ++[.box (.agg [.str nm,.bool pe,.int .i64 a,.int .i64 b,.slice 0 [] .full]),Z]),?_⟩;exact eS (⟨Ah,by rw[yAa,hB];simp,λid h=>yAg Ah,jB _ _,by rw[yBS Ah,hB,yDS];rfl,rfl,λg h=>Ap,λh=>absurd h (yCR 0),λs _ h=>absurd h (yBb s),λs s' g g' h h' k k' h1=>absurd h1 (yBb s)⟩) @hB)
 rintro m fr σ ⟨i,iS,ss,tG,tgs,tW,σ1,gg,hI,rfl,rfl⟩
 obtain⟨hm,hlen,hlow,hbox,hres,hsl,BO,hrow,hdone,hinj⟩:=hI;obtain⟨w0,z0⟩:=yA.1 hbox
 by_cases hi:i<l.length
 .have q1:(i:Int)<(l.length:Int):=by omega
  have hzo:=hld _ (yAm hi);obtain⟨⟨sn,sa,sb,lg⟩,hz⟩:∃z,l[i]=z:=⟨_,rfl⟩;rw[hz]at hzo;obtain⟨hgl,hgd⟩:=hzo;simp only at hgl hgd;obtain⟨ρ,rfl⟩:∃s,s=σ:=⟨_,rfl⟩;obtain⟨S,hS⟩:=gn (ρ.length);have j0:∀x:aB,(ρ++[x])[S]?=some x:=λx=>by rw[<-hS];simp
  have j1:∀x y:aB,(ρ++[x]).set S y=ρ++[y]:=λx y=>by rw[<-hS];simp
  obtain⟨M,hM⟩:∃M,M=m:=⟨_,rfl⟩;refine aC (A6 q1 hi @hz hS j0 j1) ?_;rw[<-hM]at hm ⊢;refine Wp.cZ (λm fr σ=>∃(j:Nat) (iG:Nat) (qs:List (List PD)) (iW:Nat->Nat) (σ2:List aB),∃gg:Nat->PD,(j+m=lg.length/\S+1<=σ2.length/\(∀id,id<S->σ2[id]?=ρ[id]?)/\σ2[S]?=some (.box (.agg [.str sn,.int .i64 sa,.int .i64 sb,Go.Kz.hb 3 iG (j-1) j]))/\qs.length=j/\(∀g∈qs,g.length=3)/\(0<j->S+1<=iG/\σ2[iG]?=some (.row 92 3 (j-1) qs.flatten))/\(∀g (h:g<lg.length),g<j->qs[g]?=some [.int .i64 lg[g].lo,.int .i64 lg[g].hi,hq 2 (iW g) 0 lg[g].aX.length]/\CJ σ2 (S+1) lg[g].aX (iW g))/\(∀g g' (h:g<lg.length) (h':g'<lg.length),g<j->g'<j->0<lg[g].aX.length->0<lg[g'].aX.length->iW g=iW g'->g=g'))/\fr=[gg 0,.ptr B 0,.ptr (B+1) 0,.slice (sz 4 l) (l.map Em.stop.aA) .any,.int .i64 i,.ptr S 0,gg 6,gg 7,gg 8,gg 9,gg 10,gg 11,gg 12,gg 13,gg 14,gg 15,gg 16,gg 17,gg 18,gg 19,gg 20,gg 21,gg 22,gg 23,gg 24,gg 25,.slice (sz 3 lg) (lg.map Em.eZ.aA) .any,.int .i64 lg.length,.int .i64 j,gg 29,gg 30,gg 31,gg 32,gg 33,gg 34,gg 35,gg 36,gg 37,gg 38,gg 39,gg 40,gg 41,gg 42,gg 43,gg 44,gg 45,gg 46,gg 47,gg 48,gg 49,gg 50]/\σ=σ2) ?_ (lg.length) (by refine⟨0,0,[],(λ_=>0),(ρ++[.box (.agg [.str sn,.int .i64 sa,.int .i64 sb,.slice 0 [] .full])]),?_⟩;exact eS (⟨Ah,by rw[yAa,hS];simp,λid h=>yAg Ah,j0 _,rfl,λg h=>Ap,λh=>absurd h (yCR 0),λs _ h=>absurd h (yBb s),λs s' h h' h1=>absurd h1 (yBb s)⟩) @hS)
  rintro m fr σ ⟨j,iG,qs,iW,σ2,gg,hI,rfl,rfl⟩
  obtain⟨hm2,aWq,ZT,hbS,hql,LV,oM,C6,ZU⟩:=hI
  by_cases hj:j<lg.length
  .have q2:(j:Int)<(lg.length:Int):=by omega
   have hyo:=hgd _ (yAm hj);obtain⟨⟨lo,hg,dr⟩,hy⟩:∃y,lg[j]=y:=⟨_,rfl⟩;rw[hy]at hyo;obtain⟨q,hq⟩:=gn (σ.length);obtain⟨X,hX⟩:=gn (aB.box (.agg [.int .i64 lo,.int .i64 hg,.slice (sz 2 dr) (dr.map Em.draw.aA) .any]));obtain⟨p1,L,d1,d2,d3,d4,d5⟩:=aSk dr hyo (σ++[X]);rw[yAa,hq]at d4;simp only[yAT,yAQ,yAp]at d4;obtain⟨p2,kQ⟩:=gn (Go.Kz.hq 2 (q+1) 0 dr.length);rw[kQ]at d4;have pp:p2.plain=true:=by rw[<-kQ];exact aGo _ _ _ _
   have cp:p2.cells=[p2]:=by rw[<-kQ];exact aGp _ _ _ _
   obtain⟨tY,hhS⟩:=gn (Go.Kz.hb 3 iG (j-1) j);obtain⟨id',σ',e1,e2,e3,e4,e5,e6⟩:=aGr (e:=92) (t:=54) (k:=3) (b:=40) underlying54 Aj (qO Aj) Al j iG Ah (σ++aB.box (.agg [.int .i64 lo,.int .i64 hg,p1])::L) qs LV hql (λhp=>cE (oM hp).2) (.agg [.int .i64 lo,.int .i64 hg,p2]) .full rfl;obtain⟨h9,kV⟩:=gn (Go.Kz.hb 3 id' j (j+1));have pS:tY.plain=true:=by rw[<-hhS];exact IM _ _ _ _
   have cS:tY.cells=[tY]:=by rw[<-hhS];exact IN _ _ _ _
   have p9:h9.plain=true:=by rw[<-kV];exact IM _ _ _ _
   have c9:h9.cells=[h9]:=by rw[<-kV];exact IN _ _ _ _
   rw[hhS]at e1 hbS;rw[kV]at e1;unfold PD.plain at pS p9 d2 pp;unfold PD.cells at cS c9 d3 cp;have sq:S<q:=Ah;have k0:∀(x:aB) L,(σ++x::L)[q]?=some x:=λx L=>by rw[<-hq];simp
   have k1:∀(x y:aB) L,(σ++x::L).set q y=σ++y::L:=λx y L=>by rw[<-hq];simp
   have k2:∀L,(σ++L)[S]?=some (.box (.agg [.str sn,.int .i64 sa,.int .i64 sb,tY])):=λL=>cE hbS
   have s1:=e6 S _ (k2 _) (λhp=>Eb);obtain⟨v1,y1⟩:=yA.1 s1;obtain⟨vS,yS⟩:=yA.1 hbS;simp only[yAi,yAR,yAO]at d1;rw[<-hX]at d1;refine aC (A20 q2 hj hy @hq k0 k1 k2 @d1 @d2 @d3 @d4 e1 @s1 @v1 y1 pS cS p9 c9 (A5 vS yS hbS @pp cp)) ?_;obtain⟨cY,eI⟩:=gn (σ'.set S (.box (.agg [.str sn,.int .i64 sa,.int .i64 sb,h9])));have n9:∀id,id≠S->cY[id]?=σ'[id]?:=λid h=>Bt
   have b9:cY[S]?=some (.box (.agg [.str sn,.int .i64 sa,.int .i64 sb,h9])):=by rw[<-eI];exact yAj v1
   have l9:cY.length=σ'.length:=by rw[<-eI,yAD]
   rw[yAa,yAT,hq]at e5;have ig:0<j->iG<q:=λhp=>by have:=(yA.1 (oM hp).2).1;omega
   have up:∀id (z:aB),id≠S->σ[id]?=some z->(0<j->id≠iG)->cY[id]?=some z:=λid z h1 h2 h3=>by rw[n9 id h1];exact e6 id z (cE h2) h3
   have hid:S+1<=id':=by
    by_cases h0:j=0
    .rw[e3 h0,yAa,yAT,hq];omega
    .rw[e2 Ah];exact(oM Ah).1
   have dKeep:∀g (h:g<lg.length),g<j->CJ cY (S+1) lg[g].aX (iW g):=λg h hlt hp=>by
    obtain⟨a1,a2⟩:=(C6 g h hlt).2 hp;refine⟨a1,up _ _ Ah a2 λkQ e=>?_⟩;rw[e,(oM kQ).2]at a2;exact absurd (aB.row.inj (yAU a2)).1 Al
   have dNew:CJ cY (S+1) dr (q+1):=λhp=>by
    refine⟨Ah,?_⟩;rw[n9 _ Ah];refine e6 _ _ ?_ (λkQ=>by have:=ig kQ;omega);rw[d5 hp,yBS Ah,hq,yDS];rfl
   have wlt:∀g (h:g<lg.length),g<j->0<lg[g].aX.length->iW g<q:=λg h hlt hp=>by
    have:=(yA.1 ((C6 g h hlt).2 hp).2).1;omega
   have c3:∀id,id<S->cY[id]?=ρ[id]?:=λid h=>by
    rw[<-ZT id h,yAh (show id<σ.length by omega)];exact up id _ Ah (yAh Ah) (λhp=>Eb)
   have c4:cY[S]?=some (.box (.agg [.str sn,.int .i64 sa,.int .i64 sb,Go.Kz.hb 3 id' (j+1-1) (j+1)])):=by rw[b9,<-kV];rfl
   have c5:(qs++[[PD.int .i64 lo,.int .i64 hg,p2]]).length=j+1:=by rw[yAa,hql];rfl
   have c6:∀g∈qs++[[PD.int .i64 lo,.int .i64 hg,p2]],g.length=3:=λg h=>by
    rcases yBf.1 h with h|h
    .exact LV g h
    .rw[yCM.1 h];rfl
   have c7:0<j+1->S+1<=id'/\cY[id']?=some (.row 92 3 (j+1-1) (qs++[[PD.int .i64 lo,.int .i64 hg,p2]]).flatten):=λ_=>⟨hid,by rw[n9 _ Ah];exact e4⟩
   have c8:∀g (h:g<lg.length),g<j+1->(qs++[[PD.int .i64 lo,.int .i64 hg,p2]])[g]?=some [.int .i64 lg[g].lo,.int .i64 lg[g].hi,Go.Kz.hq 2 (if g=j then q+1 else iW g) 0 lg[g].aX.length]/\CJ cY (S+1) lg[g].aX (if g=j then q+1 else iW g):=λg h hlt=>by
    by_cases e:g=j
    .subst e;simp only[yAL,hy];exact⟨by rw[yBS Ah,hql,yCt,kQ];rfl,dNew⟩
    .simp only[e,yAN];exact⟨by rw[yAg Ah];exact(C6 g h Ah).1,dKeep g h Ah⟩
   have LA:∀g g' (h:g<lg.length) (h':g'<lg.length),g<j+1->g'<j+1->0<lg[g].aX.length->0<lg[g'].aX.length->(if g=j then q+1 else iW g)=(if g'=j then q+1 else iW g')->g=g':=λg g' h h' h1 h2 p1 p2 e=>by
    by_cases e1:g=j
    .by_cases e2:g'=j
     .rw[e1,e2]
     .rw[yAJ e1,yAI e2]at e;have:=wlt g' h' Ah p2;omega
    .by_cases e2:g'=j
     .rw[yAI e1,yAJ e2]at e;have:=wlt g h Ah p1;omega
     .rw[yAI e1,yAI e2]at e;exact ZU g g' h h' Ah Ah p1 p2 e
   refine bV.normal (m-1) Ah (by refine⟨j+1,id',(qs++[[.int .i64 lo,.int .i64 hg,p2]]),(λg=>if g=j then q+1 else iW g),cY,?_⟩;exact eS (⟨Ah,Ah,c3,c4,c5,c6,c7,c8,LA⟩) @eI)
  .have q2:¬(j:Int)<(lg.length:Int):=by omega
   obtain rfl:j=lg.length:=Ah;have oD:=hm;have iSS:0<i->iS<S:=λhp=>by have:=(hrow hp).2.1;omega
   have old:∀id (z:aB),id<S->ρ[id]?=some z->σ[id]?=some z:=λid z h1 h2=>by rw[ZT id h1];exact h2
   have gB:=old B _ Ah hbox;have gZ:=old (B+1) _ Ah hres;obtain⟨p2,kQ⟩:=gn (Go.Kz.hq 3 iG (lg.length-1) lg.length);obtain⟨tY,hhS⟩:=gn (Go.Kz.hb 3 iG (lg.length-1) lg.length);obtain⟨hD,hhD⟩:=gn (Go.Kz.hb 4 iS (i-1) i);have d4:tY.strip=p2:=by rw[<-hhS,<-kQ];exact aSj _ _ _ _
   have pp:p2.plain=true:=by rw[<-kQ];exact aGo _ _ _ _
   have cp:p2.cells=[p2]:=by rw[<-kQ];exact aGp _ _ _ _
   obtain⟨id',σ',e1,e2,e3,e4,e5,e6⟩:=aGr (e:=56) (t:=51) (k:=4) (b:=56) underlying51 Aj (qO Aj) Al i iS Ah σ ss BO hsl (λhp=>old _ _ (iSS hp) (hrow hp).2.2) (.agg [.str sn,.int .i64 sa,.int .i64 sb,p2]) .full rfl;obtain⟨h9,kV⟩:=gn (Go.Kz.hb 4 id' i (i+1));have pS:tY.plain=true:=by rw[<-hhS];exact IM _ _ _ _
   have cS:tY.cells=[tY]:=by rw[<-hhS];exact IN _ _ _ _
   have pD:hD.plain=true:=by rw[<-hhD];exact IM _ _ _ _
   have cD:hD.cells=[hD]:=by rw[<-hhD];exact IN _ _ _ _
   have p9:h9.plain=true:=by rw[<-kV];exact IM _ _ _ _
   have c9:h9.cells=[h9]:=by rw[<-kV];exact IN _ _ _ _
   rw[hhS]at hbS;rw[hhD]at e1 gB;rw[kV]at e1;unfold PD.plain at pS p9 pp pD;unfold PD.cells at cS c9 cp cD;have s1:=e6 B _ gB (λhp=>Dt);have s2:=e6 (B+1) _ gZ (λhp=>Dt);obtain⟨v1,y1⟩:=yA.1 s1;obtain⟨vS,yS⟩:=yA.1 hbS;obtain⟨vB,yB⟩:=yA.1 gB;refine aC (A20 q2 e1 @s1 @v1 y1 pS cS p9 c9 vS yS hbS @pp cp pD cD gB vB yB @d4) ?_;rw[<-hM]at *;obtain⟨cY,eI⟩:=gn (σ'.set B (.box (.agg [.str nm,.bool pe,.int .i64 a,.int .i64 b,h9])));have n9:∀id,id≠B->cY[id]?=σ'[id]?:=λid h=>Bt
   have b9:cY[B]?=some (.box (.agg [.str nm,.bool pe,.int .i64 a,.int .i64 b,h9])):=by rw[<-eI];exact yAj v1
   have l9:cY.length=σ'.length:=by rw[<-eI,yAD]
   have up:∀id (z:aB),id≠B->σ[id]?=some z->(0<i->id≠iS)->cY[id]?=some z:=λid z h1 h2 h3=>by rw[n9 id h1];exact e6 id z h2 h3
   have tyS:∀id (z:aB),σ[id]?=some z->(∀n v cs,z≠.row 56 n v cs)->0<i->id≠iS:=λid z h1 h2 hp e=>by
    rw[e,old _ _ (iSS hp) (hrow hp).2.2]at h1;exact h2 _ _ _ (yAU h1).symm
   have hid:B+2<=id'/\id'<cY.length:=by
    have h1:=(yA.1 e4).1;refine⟨?_,Ah⟩
    by_cases h0:i=0
    .rw[e3 h0];omega
    .rw[e2 Ah];exact(hrow Ah).1
   have kS:∀s (h:s<l.length),s<i->sZ cY (B+2) l[s] (tG s) (tgs s) (tW s):=λs h hlt=>by
    obtain⟨a1,a2,a3,a4⟩:=(hdone s h hlt).2;refine⟨a1,λhp=>⟨(a2 hp).1,?_⟩,λg hg=>⟨(a3 g hg).1,λhp=>⟨((a3 g hg).2 hp).1,?_⟩⟩,a4⟩
    .have h2:=old _ _ (by have:=(yA.1 (a2 hp).2).1;omega) (a2 hp).2;exact up _ _ (by have:=(a2 hp).1;omega) h2 (tyS _ _ h2 (λn v cs h=>by have:=(aB.row.inj h).1;exact absurd this Al))
    .have h2:=old _ _ (by have:=(yA.1 ((a3 g hg).2 hp).2).1;omega) ((a3 g hg).2 hp).2;exact up _ _ (by have:=((a3 g hg).2 hp).1;omega) h2 (tyS _ _ h2 (λn v cs h=>by have:=(aB.row.inj h).1;exact absurd this Al))
   have kN:sZ cY (B+2) ⟨sn,sa,sb,lg⟩ iG qs iW:=by
    refine⟨hql,λhp=>⟨Eb,?_⟩,λg hg=>⟨(C6 g hg hg).1,λhp=>⟨by have:=((C6 g hg hg).2 hp).1;omega,?_⟩⟩,λg g' h h' p1 p2 e=>ZU g g' h h' h h' p1 p2 e⟩
    .have h2:=(oM hp).2;exact up _ _ Eb h2 (tyS _ _ h2 (λn v cs h=>by have:=(aB.row.inj h).1;exact absurd this Al))
    .have h2:=((C6 g hg hg).2 hp).2;exact up _ _ (by have:=((C6 g hg hg).2 hp).1;omega) h2 (tyS _ _ h2 (λn v cs h=>by have:=(aB.row.inj h).1;exact absurd this Al))
   have wlo:∀s (h:s<l.length),s<i->∀g (hg:g<l[s].aU.length),0<l[s].aU[g].aX.length->tW s g<S:=λs h hlt g hg hp=>by
    have:=(yA.1 (((hdone s h hlt).2.at_ g hg).2 hp).2).1;omega
   have whi:∀g (hg:g<lg.length),0<lg[g].aX.length->S+1<=iW g:=λg hg hp=>((C6 g hg hg).2 hp).1
   have c3:∀id,id<B->cY[id]?=τ[id]?:=λid h=>by
    rw[<-hlow id h,<-ZT id Ah,yAh (show id<σ.length by omega)];exact up id _ Ah (yAh Ah) (λhp=>Dt)
   have c4:cY[B]?=some (.box (.agg [.str nm,.bool pe,.int .i64 a,.int .i64 b,Go.Kz.hb 4 id' (i+1-1) (i+1)])):=by rw[b9,<-kV];rfl
   have sW:cY[B+1]?=some Z:=by rw[n9 _ Ah];exact s2
   have c5:(ss++[[PD.str sn,.int .i64 sa,.int .i64 sb,p2]]).length=i+1:=by rw[yAa,hsl];rfl
   have c6:∀g∈ss++[[PD.str sn,.int .i64 sa,.int .i64 sb,p2]],g.length=4:=λg h=>by
    rcases yBf.1 h with h|h
    .exact BO g h
    .rw[yCM.1 h];rfl
   have c7:0<i+1->B+2<=id'/\id'<cY.length/\cY[id']?=some (.row 56 4 (i+1-1) (ss++[[PD.str sn,.int .i64 sa,.int .i64 sb,p2]]).flatten):=λ_=>⟨hid.1,hid.2,by rw[n9 _ Ah];exact e4⟩
   have c8:∀s (h:s<l.length),s<i+1->(ss++[[PD.str sn,.int .i64 sa,.int .i64 sb,p2]])[s]?=some [.str l[s].name,.int .i64 l[s].num,.int .i64 l[s].den,Go.Kz.hq 3 (if s=i then iG else tG s) (l[s].aU.length-1) l[s].aU.length]/\sZ cY (B+2) l[s] (if s=i then iG else tG s) (if s=i then qs else tgs s) (if s=i then iW else tW s):=λs h hlt=>by
    by_cases e:s=i
    .subst e;simp only[yAL,hz];exact⟨by rw[yBS Ah,hsl,yCt,kQ];rfl,kN⟩
    .simp only[e,yAN];exact⟨by rw[yAg Ah];exact(hdone s h Ah).1,kS s h Ah⟩
   have LA:∀s s' g g' (h:s<l.length) (h':s'<l.length) (k:g<l[s].aU.length) (k':g'<l[s'].aU.length),s<i+1->s'<i+1->0<l[s].aU[g].aX.length->0<l[s'].aU[g'].aX.length->(if s=i then iW else tW s) g=(if s'=i then iW else tW s') g'->s=s'/\g=g':=λs s' g g' h h' k k' h1 h2 p1 p2 e=>by
    by_cases e1:s=i
    .by_cases e2:s'=i
     .subst e1;subst e2;simp only[yAL]at e;simp only[hz]at k k' p1 p2;exact⟨rfl,ZU g g' k k' k k' p1 p2 e⟩
     .rw[yAJ e1,yAI e2]at e;have h3:=wlo s' h' Ah g' k' p2;subst e1;simp only[hz]at k p1;have:=whi g k p1;omega
    .by_cases e2:s'=i
     .rw[yAI e1,yAJ e2]at e;have h3:=wlo s h Ah g k p1;subst e2;simp only[hz]at k' p2;have:=whi g' k' p2;omega
     .exact si
   refine bV.normal (M-1) Ah (by refine⟨i+1,id',(ss++[[.str sn,.int .i64 sa,.int .i64 sb,p2]]),(λs=>if s=i then iG else tG s),(λs=>if s=i then qs else tgs s),(λs=>if s=i then iW else tW s),cY,?_⟩;exact eS (⟨Ah,Ah,c3,c4,sW,c5,c6,c7,c8,LA⟩) @eI)
 .have q1:¬(i:Int)<(l.length:Int):=by omega
  obtain rfl:i=l.length:=Ah;obtain⟨hD,hhD⟩:=gn (Go.Kz.hb 4 iS (l.length-1) l.length);have pD:hD.plain=true:=by rw[<-hhD];exact IM _ _ _ _
  have cD:hD.cells=[hD]:=by rw[<-hhD];exact IN _ _ _ _
  rw[hhD]at hbox z0;unfold PD.plain at pD;unfold PD.cells at cD;have ZV:=hres;rw[<-hZ]at ZV;obtain⟨w1,z1⟩:=yA.1 ZV;refine aC (A9 q1 hbox w0 @z0 ZV w1 z1 pD cD) ?_;refine⟨.agg [.str nm,.bool pe,.int .i64 a,.int .i64 b,hD],σ.set (B+1) (.box (.agg [.str nm,.bool pe,.int .i64 a,.int .i64 b,hD])),by simp[cI,w1],iS,ss,tG,tgs,tW,by rw[hhD],?_,by rw[yAD];omega,λid h=>by rw[yAd Ah];exact hlow id h⟩;have k9:∀id (z:aB),B+2<=id->σ[id]?=some z->(σ.set (B+1) (.box (.agg [.str nm,.bool pe,.int .i64 a,.int .i64 b,hD])))[id]?=some z:=λid z h1 h2=>by rw[yAd Ah];exact h2
  exact⟨hsl,λhp=>⟨Dt,k9 _ _ (hrow hp).1 (hrow hp).2.2⟩,λs h=>⟨(hdone s h h).1,(hdone s h h).2.aQ Ah k9⟩,λs s' g g' h h' k k' p1 p2 e=>hinj s s' g g' h h' k k' h h' p1 p2 e⟩
end
section
def hn(k id n:Nat):PD:=if n=0 then .slice k [] .full else .aR id 0 0 n k
structure ZQ (σ:List aB) (lo:Nat) (o:aP) (p:PD) (iR iD iC:Nat) (ds:List (List PD)) (tS:Nat->Nat) (tss:Nat->List (List PD)) (tG:Nat->Nat->Nat) (tgs:Nat->Nat->List (List PD)) (tW:Nat->Nat->Nat->Nat):Prop where
 p:p=.agg [.str o.name,hn 6 iR o.aM.length,hb 5 iD (o.aD.length-1) o.aD.length,hn 5 iC o.aO.length]
 aG:0<o.aM.length->lo<=iR/\σ[iR]?=some (.row 48 6 0 ((o.aM.map Em.aG.aA).flatMap PD.cells))
 aK:0<o.aO.length->lo<=iC/\σ[iC]?=some (.row 58 5 0 ((o.aO.map Em.aK.aA).flatMap PD.cells))
 len:ds.length=o.aD.length
 row:0<o.aD.length->lo<=iD/\σ[iD]?=some (.row 53 5 (o.aD.length-1) ds.flatten)
 at_:∀d (h:d<o.aD.length),ds[d]?=some [.str o.aD[d].name,.bool o.aD[d].eE,.int .i64 o.aD[d].low,.int .i64 o.aD[d].high,hq 4 (tS d) (o.aD[d].stops.length-1) o.aD[d].stops.length] /\
  IL σ lo o.aD[d] (tS d) (tss d) (tG d) (tgs d) (tW d)
 XA:∀d d' (h:d<o.aD.length) (h':d'<o.aD.length),0<o.aD[d].stops.length->0<o.aD[d'].stops.length->tS d=tS d'->d=d'
 XK:∀d d' s s' g g' (h:d<o.aD.length) (h':d'<o.aD.length) (k:s<o.aD[d].stops.length) (k':s'<o.aD[d'].stops.length) (l:g<o.aD[d].stops[s].aU.length) (l':g'<o.aD[d'].stops[s'].aU.length),0<o.aD[d].stops[s].aU[g].aX.length->0<o.aD[d'].stops[s'].aU[g'].aX.length->tW d s g=tW d' s' g'->d=d'/\s=s'/\g=g'
def aKa(E:aE):Prop:=∀(d:bD) (hd:fY d) (τ:List aB),aL prog E 0 (.inl 40) [Em.div.aA d] τ (λp σ'=>∃iS ss tG tgs tW,p=.agg [.str d.name,.bool d.eE,.int .i64 d.low,.int .i64 d.high,Go.Kz.hb 4 iS (d.stops.length-1) d.stops.length]/\IL σ' τ.length d iS ss tG tgs tW/\τ.length<=σ'.length/\∀id,id<τ.length->σ'[id]?=τ[id]?)
variable{E E0:aE}(hU:aH E)
include hU
end
end Go.Kz
