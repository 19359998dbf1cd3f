/- Steps of the proof. -/
import Derived.Test.YteegpeenjdgodaaGreatDoorL1
set_option linter.all false
set_option maxHeartbeats 40000000
set_option maxRecDepth 100000
open Go.Proofs.Tryz
noncomputable section
namespace Go.Kz
open Go Go.Proofs
section
def F7(f:dL->dL)(g:jA):jA:={ g with aQ:=g.aQ.map f }
def zK(f:dL->dL)(s:cJ):cJ:={ s with aN:=s.aN.map (F7 f) }
def xQ(f:dL->dL)(d:bI):bI:={ d with stops:=d.stops.map (zK f) }
def mY(f:dL->dL)(o:aV):aV:={ o with aD:=o.aD.map (xQ f) }
def BY(fm b r:Int):Int:=if fm<=r then r+b else r
def mM(fm b:Int)(w:dL):dL:=⟨BY fm b w.aL,w.shift⟩
def wT(fm:Int)(w:dL):Bool:=decide (w.aL=fm)
theorem aS4(k id v n:Nat){t:TypeId}{e:TypeId}(ht:prog.underlying t=some (.slice e)):gA prog .len #[t] [hb k id v n]=some (.int .i64 n):=by
 unfold hb;split
 .exact uh
 .simp[gA,ht]
theorem aAV(k id v n:Nat){t:TypeId}{e:TypeId}(ht:prog.underlying t=some (.slice e)):gA prog .len #[t] [hq k id v n]=some (.int .i64 n):=by
 unfold hq;split
 .exact uh
 .simp[gA,ht]
def kQ{α:Type}(f:α->α)(i:Nat)(l:List α):List α:=(l.take i).map f++l.drop i
theorem G6{α:Type}(f:α->α)(i:Nat)(l:List α):(kQ f i l).length=l.length:=by
 unfold kQ;rw[yAa,yAe,yAt,yBa];omega
theorem aAT{α:Type}(f:α->α)(i:Nat)(l:List α)(h:i<l.length):(kQ f i l)[i]'(by rw[G6];exact h)=l[i]:=by
 unfold kQ;exact ki
theorem aAU{α:Type}(f:α->α)(i:Nat)(l:List α)(h:i<l.length):(kQ f i l).set i (f l[i])=kQ f (i+1) l:=by
 unfold kQ;exact ko
theorem aHj{α:Type}(f:α->α)(i:Nat)(l:List α)(h:i<l.length)(he:f l[i]=l[i]):kQ f i l=kQ f (i+1) l:=by
 rw[<-aAU f i l h,he];have e:∀(a:List α) (h:i<a.length),a=a.set i a[i]:=λa h=>Ck
 have h2:=e (kQ f i l) (by rw[G6];exact h);rw[aAT f i l h]at h2;exact h2
structure rD (aS σ1:List aA) (lo:Nat) (o:aV) (tW:Nat->Nat->Nat->Nat) (fm b:Int) (P:Nat->Nat->Nat->Prop) (hs:Bool):Prop where
 len:aS.length<=σ1.length
 low:∀id,id<lo->σ1[id]?=aS[id]?
 aM:∀(id:Nat) (x:aA),(∀cs,x≠.row 89 2 0 cs)->aS[id]?=some x->σ1[id]?=some x
 done:∀d s g (h:d<o.aD.length) (k:s<o.aD[d].stops.length) (l:g<o.aD[d].stops[s].aN.length),P d s g->0<o.aD[d].stops[s].aN[g].aQ.length->σ1[tW d s g]?=some (.row 89 2 0 (iZ (o.aD[d].stops[s].aN[g].aQ.map (mM fm b))))
 rest:∀d s g (h:d<o.aD.length) (k:s<o.aD[d].stops.length) (l:g<o.aD[d].stops[s].aN.length),¬P d s g->0<o.aD[d].stops[s].aN[g].aQ.length->σ1[tW d s g]?=some (.row 89 2 0 (iZ o.aD[d].stops[s].aN[g].aQ))
 has:hs=true↔∃d s g,∃(h:d<o.aD.length) (k:s<o.aD[d].stops.length) (l:g<o.aD[d].stops[s].aN.length),P d s g/\o.aD[d].stops[s].aN[g].aQ.any (wT fm)=true
theorem rD.app{aS σ1:Jp}{lo:Nat}{o:aV}{tW:Nat->Nat->Nat->Nat}{fm b:Int}{P:Nat->Nat->Nat->Prop}{hs:Bool}(h:rD aS σ1 lo o tW fm b P hs)(hl:lo<=aS.length)(L:List aA):rD aS (σ1++L) lo o tW fm b P hs:=by
 obtain⟨h1,h2,h3,h4,h5,h6⟩:=h;exact⟨by rw[yAa];omega,λid hi=>by rw[yAg Cj];exact h2 id hi,λid x hx h=>bG (h3 id x hx h),λd s g h k l hp q=>bG (h4 d s g h k l hp q),λd s g h k l hp q=>bG (h5 d s g h k l hp q),h6⟩
theorem rD.congr{aS σ1:Jp}{lo:Nat}{o:aV}{tW:Nat->Nat->Nat->Nat}{fm b:Int}{P Q:Nat->Nat->Nat->Prop}{hs:Bool}(h:rD aS σ1 lo o tW fm b P hs)(hq:∀d s g (h:d<o.aD.length) (k:s<o.aD[d].stops.length) (l:g<o.aD[d].stops[s].aN.length),P d s g↔Q d s g):rD aS σ1 lo o tW fm b Q hs:=by
 obtain⟨h1,h2,h3,h4,h5,h6⟩:=h;refine⟨h1,h2,h3,λd s g h k l hp=>h4 d s g h k l ((hq d s g h k l).2 hp),λd s g h k l hp q=>h5 d s g h k l (λx=>hp ((hq d s g h k l).1 x)) q,h6.trans ⟨λ⟨d,s,g,h,k,l,p,q⟩=>⟨d,s,g,h,k,l,(hq d s g h k l).1 p,q⟩,λ⟨d,s,g,h,k,l,p,q⟩=>⟨d,s,g,h,k,l,(hq d s g h k l).2 p,q⟩⟩⟩
theorem jN.draw{aS:Jp}{lo:Nat}{o:aV}{p:PD}{iR iD iC:Nat}{ds:Jn}{tS:Nat->Nat}{tss:Jm}{tG:Nat->Nat->Nat}{tgs:Jl}{tW:Nat->Nat->Nat->Nat}(hO:jN aS lo o p iR iD iC ds tS tss tG tgs tW){d s g:Nat}(h:d<o.aD.length)(k:s<o.aD[d].stops.length)(l:g<o.aD[d].stops[s].aN.length)(hp:0<o.aD[d].stops[s].aN[g].aQ.length):lo<=tW d s g/\aS[tW d s g]?=some (.row 89 2 0 (iZ o.aD[d].stops[s].aN[g].aQ)):=
 ((((hO.at_ d h).2.at_ s k).2.at_ g l).2) hp
theorem rD.start{aS:Jp}{lo:Nat}{o:aV}{p:PD}{iR iD iC:Nat}{ds:Jn}{tS:Nat->Nat}{tss:Jm}{tG:Nat->Nat->Nat}{tgs:Jl}{tW:Nat->Nat->Nat->Nat}{fm b:Int}(hO:jN aS lo o p iR iD iC ds tS tss tG tgs tW):rD aS aS lo o tW fm b (λ_ _ _=>False) false:=
 ⟨yAk _,λ_ _=>rfl,λ_ _ _ h=>h,λ_ _ _ _ _ _ h=>h.elim,λ_ _ _ h k l _ hp=>(hO.draw h k l hp).2,⟨λh=>Co,λ⟨_,_,_,_,_,_,h,_⟩=>h.elim⟩⟩
theorem rD.step{aS σ1 σ2:Jp}{lo:Nat}{o:aV}{p:PD}{iR iD iC:Nat}{ds:Jn}{tS:Nat->Nat}{tss:Jm}{tG:Nat->Nat->Nat}{tgs:Jl}{tW:Nat->Nat->Nat->Nat}{fm b:Int}{P:Nat->Nat->Nat->Prop}{hs:Bool}(hO:jN aS lo o p iR iD iC ds tS tss tG tgs tW)(hl:lo<=aS.length)(hI:rD aS σ1 lo o tW fm b P hs)
  {d s g:Nat} (h:d<o.aD.length) (k:s<o.aD[d].stops.length) (l:g<o.aD[d].stops[s].aN.length)
  (hlen:σ1.length<=σ2.length) (hk:∀(id:Nat) (x:aA),(0<o.aD[d].stops[s].aN[g].aQ.length->id≠tW d s g)->σ1[id]?=some x->σ2[id]?=some x)
  (hrow:0<o.aD[d].stops[s].aN[g].aQ.length->σ2[tW d s g]?=some (.row 89 2 0 (iZ (o.aD[d].stops[s].aN[g].aQ.map (mM fm b))))) :
  rD aS σ2 lo o tW fm b (λa b c=>P a b c\/(a=d/\b=s/\c=g)) (hs||o.aD[d].stops[s].aN[g].aQ.any (wT fm)):=by
 obtain⟨h1,h2,h3,h4,h5,h6⟩:=hI;refine⟨Cj,λid hi=>?_,λid x hx hi=>?_,λa b c ha hb hc hp hq=>?_,λa b c ha hb hc hp hq=>?_,?_⟩
 .exact oz
 .exact pg
 .by_cases e:a=d/\b=s/\c=g
  .obtain⟨rfl,rfl,rfl⟩:=e;exact hrow hq
  .have hp':=hp.resolve_right e;exact hk _ _ (λhr e2=>e (hO.MU a d b s c g ha h hb k hc l hq hr e2)) (h4 a b c ha hb hc hp' hq)
 .exact oe
 .rw[yBu,h6]
  constructor
  .rintro(⟨a,b,c,ha,hb,hc,p,q⟩ | q)
   .exact⟨a,b,c,ha,hb,hc,.inl p,q⟩
   .exact⟨d,s,g,h,k,l,.inr ⟨rfl,rfl,rfl⟩,q⟩
  .rintro⟨a,b,c,ha,hb,hc,p | ⟨rfl,rfl,rfl⟩,q⟩
   .exact .inl ⟨a,b,c,ha,hb,hc,p,q⟩
   .exact .inr q
theorem jN.ZP{aS σ1:Jp}{lo:Nat}{o:aV}{p:PD}{iR iD iC:Nat}{ds:Jn}{tS:Nat->Nat}{tss:Jm}{tG:Nat->Nat->Nat}{tgs:Jl}{tW:Nat->Nat->Nat->Nat}{fm b:Int}{hs:Bool}(hO:jN aS lo o p iR iD iC ds tS tss tG tgs tW)(hI:rD aS σ1 lo o tW fm b (λ_ _ _=>True) hs) :
  (hs=true↔∃d∈o.aD,∃s∈d.stops,∃g∈s.aN,g.aQ.any (wT fm)=true)/\jN σ1 lo (mY (mM fm b) o) p iR iD iC ds tS tss tG tgs tW:=by
 have hk:∀ {id:Nat} {t:TypeId} {n v:Nat} {cs:Jq},t≠89->aS[id]?=some (.row t n v cs)->σ1[id]?=some (.row t n v cs):=λht h=>hI.aM _ _ (λcs e=>ht (aA.row.inj e).1) h
 refine⟨hI.has.trans ⟨λ⟨d,s,g,h,k,l,_,q⟩=>⟨_,yAm h,_,yAm k,_,yAm l,q⟩,λ⟨d,hd,s,hs,g,hg,q⟩=>?_⟩,?_⟩
 .obtain⟨a,ha,rfl⟩:=yBU hd;obtain⟨b,hb,rfl⟩:=yBU hs;obtain⟨c,hc,rfl⟩:=yBU hg;exact⟨a,b,c,ha,hb,hc,trivial,q⟩
 obtain⟨h1,h2,h3,h4,h5,h6,h7,h8⟩:=hO;refine⟨?_,λh=>⟨(h2 h).1,hk Cn (h2 h).2⟩,λh=>⟨(h3 h).1,hk Cn (h3 h).2⟩,by simp[mY,h4],λh=>?_,λd h=>?_,λd d' h h' p q=>?_,λd d' s s' g g' h h' k k' l l' p q=>?_⟩
 .rw[h1];simp[mY]
 .have h':=h5 (by simpa [mY]using h);refine⟨h'.1,?_⟩;simp only[mY,yAe];exact hk Cn h'.2
 .have h':d<o.aD.length:=by simpa [mY]using h
  obtain⟨e1,e2⟩:=h6 d h';simp only[mY,yBq,xQ,yAe];refine⟨e1,by simp[e2.len],λhp=>?_,λs k=>?_,λs s' g g' k k' l l' p q=>?_⟩
  .simp only[yAe]at hp ⊢;exact⟨(e2.row hp).1,hk Cn (e2.row hp).2⟩
  .have k':s<o.aD[d].stops.length:=by simpa using k
   obtain⟨f1,f2⟩:=e2.at_ s k';simp only[yBq,zK,yAe];refine⟨f1,by simp[f2.len],λhp=>?_,λg l=>?_,λg g' l l' p q=>?_⟩
   .simp only[yAe]at hp ⊢;exact⟨(f2.row hp).1,hk Cn (f2.row hp).2⟩
   .have l':g<o.aD[d].stops[s].aN.length:=by simpa using l
    obtain⟨q1,q2⟩:=f2.at_ g l';simp only[yBq,F7,yAe];refine⟨q1,λhp=>?_⟩;have hp':0<o.aD[d].stops[s].aN[g].aQ.length:=Et;exact⟨(q2 hp').1,hI.done d s g h' k' l' trivial hp'⟩
   .simp only[yBq,F7,yAe]at p q;exact f2.inj g g' (by simpa using l) (by simpa using l') p q
  .simp only[yBq,zK,F7,yAe]at p q;exact e2.inj s s' g g' (by simpa using k) (by simpa using k') (by simpa [zK]using l) (by simpa [zK]using l') p q
 .simp only[mY,yBq,xQ,yAe]at p q;exact h7 d d' (by simpa [mY]using h) (by simpa [mY]using h') p q
 .simp only[mY,yBq,xQ,zK,F7,yAe]at p q;exact h8 d d' s s' g g' (by simpa [mY]using h) (by simpa [mY]using h') (by simpa [mY,xQ]using k) (by simpa [mY,xQ]using k') (by simpa [mY,xQ,zK]using l) (by simpa [mY,xQ,zK]using l') p q
variable{E E0:aE}(hU:aJ E)
include hU
theorem aKR(h0:E 46=none)(fm b:Int)(hb1:-1<=b/\b<=1)
  (o:aV) (p:PD) (aS:List aA) (lo iR iD iC:Nat) (ds:List (List PD)) (tS:Nat->Nat) (tss:Nat->List (List PD)) (tG:Nat->Nat->Nat) (tgs:Nat->Nat->List (List PD)) (tW:Nat->Nat->Nat->Nat) (hO:jN aS lo o p iR iD iC ds tS tss tG tgs tW) (hlo:lo<=aS.length) (ho:eF o)
  (hb:∀d∈o.aD,∀s∈d.stops,∀g∈s.aN,∀w∈g.aQ,-1000000000<=w.aL/\w.aL<=1000000000) :
  aK prog E 0 (.inl 46) [p,.int .i64 fm,.int .i64 b] aS (λq σ'=>∃hs:Bool,q=.bool hs/\(hs=true↔∃d∈o.aD,∃s∈d.stops,∃g∈s.aN,g.aQ.any (wT fm)=true)/\jN σ' lo (mY (mM fm b) o) p iR iD iC ds tS tss tG tgs tW/\aS.length<=σ'.length/\(∀id,id<lo->σ'[id]?=aS[id]?)/\∀(id:Nat) (x:aA),(∀n v cs,x≠.row 89 n v cs)->aS[id]?=some x->σ'[id]?=some x):=by
 clear hU;have hp:=hO.p;subst hp;obtain⟨hR,hhR⟩:=gn (Go.Kz.hn 6 iR o.aR.length);obtain⟨hD,hhD⟩:=gn (Go.Kz.hb 5 iD (o.aD.length-1) o.aD.length);obtain⟨hC,hhC⟩:=gn (Go.Kz.hn 5 iC o.aP.length);have lD:=aS4 5 iD (o.aD.length-1) o.aD.length underlying32;have pR:hR.plain=true:=Dr;have pD:hD.plain=true:=Dd;have pC:hC.plain=true:=Ds;unfold PD.plain at pR pD pC;simp only[hhR,hhD,hhC]at hO lD ⊢;simp[gA,underlying32]at lD;obtain⟨L0,lT⟩:=gn (aS.length);refine aK.aG 76 h0 func46 (h:=?_);apply WL.tH Cp;apply SL.box (p:=.agg [.str o.name,hR,hD,hC]) (hw:=Wt.i rfl) (hx:=rfl) (hp:=Gz) (hr:=Ns.i rfl) (hn:=Ns.i rfl) (hf:=Fr.i rfl);refine oS lD ?_;apply SQ.nil;refine aC (A2 lD lT) ?_;rw[lT];have hst:=(rD.start (fm:=fm) (b:=b) hO).app hlo [aA.box (.agg [.str o.name,hR,hD,hC])];refine Wp.dJ (λm fr σ=>∃(d:Nat) (hs:Bool) (σ1:List aA),∃gg:Nat->PD,(d+m=o.aD.length/\rD aS σ1 lo o tW fm b (λa _ _=>a<d) hs)/\fr=gg 0::.int .i64 fm::.int .i64 b::gg 3::gg 4::gg 5::gg 6::.bool hs::gg 8::gg 9::gg 10::gg 11::gg 12::gg 13::gg 14::gg 15::hD::.int .i64 o.aD.length::.int .i64 d::gg 19::gg 20::gg 21::gg 22::gg 23::gg 24::gg 25::gg 26::gg 27::gg 28::gg 29::gg 30::gg 31::gg 32::gg 33::gg 34::gg 35::gg 36::gg 37::gg 38::gg 39::gg 40::gg 41::gg 42::gg 43::gg 44::gg 45::gg 46::gg 47::gg 48::gg 49::gg 50::gg 51::gg 52::gg 53::gg 54::gg 55::gg 56::gg 57::gg 58::gg 59::gg 60::gg 61::gg 62::gg 63::gg 64::gg 65::gg 66::gg 67::gg 68::gg 69::gg 70::gg 71::gg 72::gg 73::gg 74::gg 75::[]/\σ=σ1) ?_ (o.aD.length) (by refine⟨0,false,(aS++[aA.box (.agg [.str o.name,hR,hD,hC])]),?_⟩;exact fQ (⟨Cj,hst.congr λa b c _ _ _=>Ck⟩) @lT)
 rintro m fr σ ⟨d,hs,σ1,gg,hI,rfl,rfl⟩
 obtain⟨hm,hI⟩:=hI;have hod:=ho.2.1.1
 by_cases hi:d<o.aD.length
 .have hzo:=ho.2.1.2 _ (yAm hi);have q1:(d:Int)<(o.aD.length:Int):=Cj;have hDr:hD=.aO iD (o.aD.length-1) 0 o.aD.length 5:=by rw[<-hhD];exact BV Cj
  have v2:=hI.aM _ _ (λcs e=>absurd (aA.row.inj e).1 Cn) (hO.row Cj).2;obtain⟨e1,e2⟩:=hO.at_ d hi;have gO:∀g∈ds,g.length=5:=λg h=>by
   exact ja
  have hat:=qX (sz:=5) ds d Jd gO;have hlen:=lF (sz:=5) ds gO;rw[(yA.1 e1).2]at hat;obtain⟨fs,hfs⟩:=gn (ds.flatten);rw[hfs]at v2 hlen hat;obtain⟨z,hz⟩:=gn (o.aD[d]);rw[hz]at hat e2 hzo;have hos:=hzo.1;obtain⟨r2,y2⟩:=yA.1 v2;have fG:d*5+5<=fs.length:=Je;have xk:jD prog 32 (.aO iD (o.aD.length-1) 0 o.aD.length 5) (.int .i64 d)=some (.dG iD (o.aD.length-1) (d*5)):=by
   simp[jT,hi]
  obtain⟨hS,hhS⟩:=gn (Go.Kz.hq 4 (tS d) (z.stops.length-1) z.stops.length);have pS:hS.plain=true:=by rw[<-hhS];exact G7 _ _ _ _
  have cS:hS.cells=[hS]:=by rw[<-hhS];exact G8 _ _ _ _
  have lS:=aAV 4 (tS d) (z.stops.length-1) z.stops.length underlying51;unfold PD.plain at pS;unfold PD.cells at cS;rw[hhS]at hat lS;simp[gA,underlying51]at lS;have j0:∀x:aA,(σ++[x])[σ.length]?=some x:=λx=>Ck
  rw[hDr];refine aC (A12 q1 hi xk @v2 r2 y2 fG hat j0 pS cS lS) ?_;have MT:=hI.app hlo [aA.box (.agg [.str z.name,.bool z.dO,.int .i64 z.low,.int .i64 z.high,hS])];obtain⟨M,ZJ⟩:∃M,M=m:=⟨_,rfl⟩;rw[<-ZJ]at hm ⊢;obtain⟨ZK,ZL⟩:=gn (σ++[aA.box (.agg [.str z.name,.bool z.dO,.int .i64 z.low,.int .i64 z.high,hS])]);rw[ZL]at MT ⊢;have hsl:z.stops.length=o.aD[d].stops.length:=by rw[hz]
  refine Wp.dJ (λm fr σ=>∃(s:Nat) (hs:Bool) (σ1:List aA),∃gg:Nat->PD,(s+m=z.stops.length/\rD aS σ1 lo o tW fm b (λa b _=>a<d\/(a=d/\b<s)) hs)/\fr=gg 0::.int .i64 fm::.int .i64 b::gg 3::gg 4::gg 5::gg 6::.bool hs::gg 8::gg 9::gg 10::gg 11::gg 12::gg 13::gg 14::gg 15::.aO iD (o.aD.length-1) 0 o.aD.length 5::.int .i64 o.aD.length::.int .i64 d::gg 19::gg 20::gg 21::gg 22::hS::.int .i64 z.stops.length::.int .i64 s::gg 26::gg 27::gg 28::gg 29::gg 30::gg 31::gg 32::gg 33::gg 34::gg 35::gg 36::gg 37::gg 38::gg 39::gg 40::gg 41::gg 42::gg 43::gg 44::gg 45::gg 46::gg 47::gg 48::gg 49::gg 50::gg 51::gg 52::gg 53::gg 54::gg 55::gg 56::gg 57::gg 58::gg 59::gg 60::gg 61::gg 62::gg 63::gg 64::gg 65::gg 66::gg 67::gg 68::gg 69::gg 70::gg 71::gg 72::gg 73::gg 74::gg 75::[]/\σ=σ1) ?_ (z.stops.length) (by refine⟨0,hs,ZK,?_⟩;exact cE (⟨Cj,MT.congr λa b c _ _ _=>Ck⟩))
  rintro m fr σ ⟨s,hs,σ1,gg,hI,rfl,rfl⟩
  obtain⟨hm2,GO⟩:=hI
  by_cases hi2:s<z.stops.length
  .have q1:(s:Int)<(z.stops.length:Int):=by omega
   have hwo:=hzo.2 _ (yAm hi2);have hSr:hS=.aO (tS d) (z.stops.length-1) 0 z.stops.length 4:=by rw[<-hhS];exact J3 Cj
   have v2:=GO.aM _ _ (λcs e=>absurd (aA.row.inj e).1 Cn) (e2.row Cj).2;obtain⟨f1,f2⟩:=e2.at_ s hi2;have gO:∀g∈tss d,g.length=4:=λg h=>by
    exact AX
   have hat:=qX (sz:=4) (tss d) s (by rw[e2.len];exact hi2) gO;have hlen:=lF (sz:=4) (tss d) gO;rw[(yA.1 f1).2]at hat;obtain⟨fs,hfs⟩:=gn ((tss d).flatten);rw[hfs]at v2 hlen hat;obtain⟨w,oK⟩:=gn (z.stops[s]);rw[oK]at hat f2 hwo;have hog:=hwo.1;obtain⟨r2,y2⟩:=yA.1 v2;have fG:s*4+4<=fs.length:=by rw[hlen,e2.len];omega
   have xk:jD prog 51 (.aO (tS d) (z.stops.length-1) 0 z.stops.length 4) (.int .i64 s)=some (.dG (tS d) (z.stops.length-1) (s*4)):=by
    simp[jT,hi2]
   obtain⟨hG,hhG⟩:=gn (Go.Kz.hq 3 (tG d s) (w.aN.length-1) w.aN.length);have pG:hG.plain=true:=by rw[<-hhG];exact G7 _ _ _ _
   have cG:hG.cells=[hG]:=by rw[<-hhG];exact G8 _ _ _ _
   have lG:=aAV 3 (tG d s) (w.aN.length-1) w.aN.length underlying54;unfold PD.plain at pG;unfold PD.cells at cG;rw[hhG]at hat lG;simp[gA,underlying54]at lG;have j0:∀x:aA,(σ++[x])[σ.length]?=some x:=λx=>Ck
   rw[hSr];refine aC (A12 q1 hi2 xk @v2 r2 y2 fG hat j0 pG cG lG) ?_;have vO:=GO.app hlo [aA.box (.agg [.str w.name,.int .i64 w.num,.int .i64 w.den,hG])];obtain⟨M2,z7⟩:∃M,M=m:=⟨_,rfl⟩;rw[<-z7]at hm2 ⊢;obtain⟨ZM,oW⟩:=gn (σ++[aA.box (.agg [.str w.name,.int .i64 w.num,.int .i64 w.den,hG])]);rw[oW]at vO ⊢;have hgl:∀(h:s<o.aD[d].stops.length),w.aN.length=o.aD[d].stops[s].aN.length:=λh=>by subst hz;rw[<-oK]
   refine Wp.dJ (λm fr σ=>∃(g:Nat) (hs:Bool) (σ1:List aA),∃gg:Nat->PD,(g+m=w.aN.length/\rD aS σ1 lo o tW fm b (λa b c=>a<d\/(a=d/\(b<s\/(b=s/\c<g)))) hs)/\fr=gg 0::.int .i64 fm::.int .i64 b::gg 3::gg 4::gg 5::gg 6::.bool hs::gg 8::gg 9::gg 10::gg 11::gg 12::gg 13::gg 14::gg 15::.aO iD (o.aD.length-1) 0 o.aD.length 5::.int .i64 o.aD.length::.int .i64 d::gg 19::gg 20::gg 21::gg 22::.aO (tS d) (z.stops.length-1) 0 z.stops.length 4::.int .i64 z.stops.length::.int .i64 s::gg 26::gg 27::gg 28::gg 29::hG::.int .i64 w.aN.length::.int .i64 g::gg 33::gg 34::gg 35::gg 36::gg 37::gg 38::gg 39::gg 40::gg 41::gg 42::gg 43::gg 44::gg 45::gg 46::gg 47::gg 48::gg 49::gg 50::gg 51::gg 52::gg 53::gg 54::gg 55::gg 56::gg 57::gg 58::gg 59::gg 60::gg 61::gg 62::gg 63::gg 64::gg 65::gg 66::gg 67::gg 68::gg 69::gg 70::gg 71::gg 72::gg 73::gg 74::gg 75::[]/\σ=σ1) ?_ (w.aN.length) (by refine⟨0,hs,ZM,?_⟩;exact cE (⟨Cj,vO.congr λa b c _ _ _=>Ck⟩))
   rintro m fr σ ⟨g,hs,σ1,gg,hI,rfl,rfl⟩
   obtain⟨ZN,vO⟩:=hI
   by_cases qY:g<w.aN.length
   .have q1:(g:Int)<(w.aN.length:Int):=by omega
    have how:=hwo.2 _ (yAm qY);have hGr:hG=.aO (tG d s) (w.aN.length-1) 0 w.aN.length 3:=by rw[<-hhG];exact J3 Cj
    have v2:=vO.aM _ _ (λcs e=>absurd (aA.row.inj e).1 Cn) (f2.row Cj).2;obtain⟨k1,k2⟩:=f2.at_ g qY;have gO:∀x∈tgs d s,x.length=3:=λx h=>by
     exact Ay
    have hat:=qX (sz:=3) (tgs d s) g (by rw[f2.len];exact qY) gO;have hlen:=lF (sz:=3) (tgs d s) gO;rw[(yA.1 k1).2]at hat;obtain⟨fs,hfs⟩:=gn ((tgs d s).flatten);rw[hfs]at v2 hlen hat;obtain⟨y,pU⟩:=gn (w.aN[g]);rw[pU]at hat k2 how;have how':y.aQ.length<=1000000:=how;obtain⟨r2,y2⟩:=yA.1 v2;have fG:g*3+3<=fs.length:=by rw[hlen,f2.len];omega
    have xk:jD prog 54 (.aO (tG d s) (w.aN.length-1) 0 w.aN.length 3) (.int .i64 g)=some (.dG (tG d s) (w.aN.length-1) (g*3)):=by
     simp[jT,qY]
    obtain⟨hW,hhW⟩:=gn (Go.Kz.hq 2 (tW d s g) 0 y.aQ.length);have pW:hW.plain=true:=by rw[<-hhW];exact G7 _ _ _ _
    have cW:hW.cells=[hW]:=by rw[<-hhW];exact G8 _ _ _ _
    have lW:=aAV 2 (tW d s g) 0 y.aQ.length underlying90;unfold PD.plain at pW;unfold PD.cells at cW;rw[hhW]at hat lW;simp[gA,underlying90]at lW;have j0:∀x:aA,(σ++[x])[σ.length]?=some x:=λx=>Ck
    rw[hGr];refine aC (A12 q1 qY xk @v2 r2 y2 fG hat j0 pW cW lW) ?_;have AA:=vO.app hlo [aA.box (.agg [.int .i64 y.lo,.int .i64 y.hi,hW])];obtain⟨M3,ZO⟩:∃M,M=m:=⟨_,rfl⟩;rw[<-ZO]at ZN ⊢;obtain⟨BG,hBG⟩:=gn (σ.length);have vG:(σ++[aA.box (.agg [.int .i64 y.lo,.int .i64 y.hi,hW])])[BG]?=some (.box (.agg [.int .i64 y.lo,.int .i64 y.hi,hW])):=by rw[<-hBG];exact j0 _
    obtain⟨oM,D3⟩:=gn (σ++[aA.box (.agg [.int .i64 y.lo,.int .i64 y.hi,hW])]);rw[D3]at AA vG ⊢;rw[hBG];have hyo:o.aD[d].stops[s]' Cj=w:=by subst hz;exact oK
    have hyl:∀(h:g<(o.aD[d].stops[s]' Cj).aN.length),(o.aD[d].stops[s]' Cj).aN[g]=y:=λh=>by simp only[hyo];exact pU
    have hgL:g<(o.aD[d].stops[s]' Cj).aN.length:=by rw[hyo];exact qY
    have vT:0<y.aQ.length->oM[tW d s g]?=some (.row 89 2 0 (iZ y.aQ)):=λhp=>by
     exact qe
    have hyM:y∈(o.aD[d].stops[s]' Cj).aN:=by rw[<-hyl hgL];exact yAm hgL
    have hby:∀x∈y.aQ,-1000000000<=x.aL/\x.aL<=1000000000:=λx hx=>hb _ (yAm hi) _ (yAm (show s<o.aD[d].stops.length by omega)) y hyM x hx
    obtain⟨hs0,aHk⟩:∃x,x=hs:=⟨_,rfl⟩;rw[<-aHk]at AA;have hfw:∀r:Int,-1000000000<=r/\r<=1000000000->IntKind.i64.wrap (r+b)=r+b:=λr hr=>Cq
    refine Wp.dJ (λm fr σ=>∃(i:Nat) (hs:Bool) (σ1:List aA),∃gg:Nat->PD,(i+m=y.aQ.length/\oM.length<=σ1.length/\(∀(id:Nat) (x:aA),(0<y.aQ.length->id≠tW d s g)->oM[id]?=some x->σ1[id]?=some x)/\(0<y.aQ.length->σ1[tW d s g]?=some (.row 89 2 0 (iZ (kQ (mM fm b) i y.aQ))))/\hs=(hs0||(y.aQ.take i).any (wT fm)))/\fr=gg 0::.int .i64 fm::.int .i64 b::gg 3::gg 4::gg 5::gg 6::.bool hs::gg 8::gg 9::gg 10::gg 11::gg 12::.ptr BG 0::gg 14::gg 15::.aO iD (o.aD.length-1) 0 o.aD.length 5::.int .i64 o.aD.length::.int .i64 d::gg 19::gg 20::gg 21::gg 22::.aO (tS d) (z.stops.length-1) 0 z.stops.length 4::.int .i64 z.stops.length::.int .i64 s::gg 26::gg 27::gg 28::gg 29::.aO (tG d s) (w.aN.length-1) 0 w.aN.length 3::.int .i64 w.aN.length::.int .i64 g::gg 33::gg 34::gg 35::gg 36::hW::.int .i64 y.aQ.length::.int .i64 i::gg 40::gg 41::gg 42::gg 43::gg 44::gg 45::gg 46::gg 47::gg 48::gg 49::gg 50::gg 51::gg 52::gg 53::gg 54::gg 55::gg 56::gg 57::gg 58::gg 59::gg 60::gg 61::gg 62::gg 63::gg 64::gg 65::gg 66::gg 67::gg 68::gg 69::gg 70::gg 71::gg 72::gg 73::gg 74::gg 75::[]/\σ=σ1) ?_ (y.aQ.length) (by refine⟨0,hs,oM,?_⟩;exact cE (⟨Cj,yAk _,λid x _ h=>h,vT,by rw[<-aHk];simp⟩))
    rintro m fr σ ⟨i,hs,σ1,gg,hI,rfl,rfl⟩
    obtain⟨hm4,jI,bU,sV,kB⟩:=hI
    by_cases hi4:i<y.aQ.length
    .have q1:(i:Int)<(y.aQ.length:Int):=by omega
     have hWr:hW=.aO (tW d s g) 0 0 y.aQ.length 2:=by rw[<-hhW];exact J3 Cj
     have vt:=sV Cj;have vg:=bU BG _ (λh e=>Ip) vG;obtain⟨rT,yT⟩:=yA.1 vt;obtain⟨rG,yG⟩:=yA.1 vg;have hat:=aFn (kQ (mM fm b) i y.aQ) i (by rw[G6];exact hi4);have hlen:=aFm (kQ (mM fm b) i y.aQ);have hfl:=aFo (kQ (mM fm b) i y.aQ) i (by rw[G6];exact hi4) (y.aQ[i].aL+b);rw[G6]at hlen;rw[aAT (mM fm b) i y.aQ hi4]at hat hfl;have hms:=aAU (mM fm b) i y.aQ hi4;have hmi:=aHj (mM fm b) i y.aQ hi4;obtain⟨JD,R7⟩:=gn (iZ (kQ (mM fm b) i y.aQ));rw[R7]at vt hlen hat hfl yT;have vN:i*2+1<=JD.length:=Cj;have lP:jD prog 90 (.aO (tW d s g) 0 0 y.aQ.length 2) (.int .i64 i)=some (.dG (tW d s g) 0 (i*2)):=by
      simp[jT,hi4]
     rw[hWr]at vg yG;rw[hWr];have hbr:=hby _ (yAm hi4);have hwr:=hfw _ hbr;have hal:hs=true\/hs=false:=by cases hs<;>simp
     have hany:(y.aQ.take (i+1)).any (wT fm)=((y.aQ.take i).any (wT fm)||decide (y.aQ[i].aL=fm)):=by
      rw[yBK hi4,List.any_append];simp[wT]
     obtain⟨r,hr⟩:=gn (y.aQ[i].aL);have hlw:mM fm b y.aQ[i]=⟨if fm<=r then r+b else r,y.aQ[i].shift⟩:=by rw[<-hr];rfl
     have hself:y.aQ[i]=⟨r,y.aQ[i].shift⟩:=by rw[<-hr]
     rw[hr]at hat hfl hbr hwr hany;simp only[dF,yAT,yAO,yAp,Nat.reduceAdd,yBX,yAi,yBs,yAV]at hfl;have D4:JD[i*2]' Cj=.int .i64 r:=by
      exact yo
     by_cases hge:fm<=r
     .rw[yAJ hge]at hlw;rw[hlw]at hms;rw[hms]at hfl;obtain⟨bW,dB⟩:=gn (σ.set (tW d s g) (.row 89 2 0 (iZ (kQ (mM fm b) (i+1) y.aQ))));have c1:oM.length<=bW.length:=by rw[<-dB,yAD];exact jI
      have c2:∀(id:Nat) (x:aA),(0<y.aQ.length->id≠tW d s g)->oM[id]?=some x->bW[id]?=some x:=λid x h hx=>by rw[<-dB,yAd (yAU (h Cj))];exact bU id x h hx
      have c3:0<y.aQ.length->bW[tW d s g]?=some (.row 89 2 0 (iZ (kQ (mM fm b) (i+1) y.aQ))):=λ_=>by rw[<-dB];exact yAj rT
      rcases hal with rfl|rfl
      .refine aC Bv ?_;refine bM.normal (m-1) Cj (by refine⟨i+1,true,bW,?_⟩;exact fQ (⟨Cj,c1,c2,c3,by rw[hany,<-yDT,<-kB];rfl⟩) @dB)
      .by_cases he:r=fm
       .subst he;refine aC Bv ?_;refine bM.normal (m-1) Cj (by refine⟨i+1,true,bW,?_⟩;exact fQ (⟨Cj,c1,c2,c3,by rw[hany];simp⟩) @dB)
       .refine aC Cf ?_;refine bM.normal (m-1) Cj (by refine⟨i+1,false,bW,?_⟩;exact fQ (⟨Cj,c1,c2,c3,by rw[hany,<-yDT,<-kB];simp[he]⟩) @dB)
     .have he:¬r=fm:=by omega
      rw[yAI hge]at hlw;have hmx:iZ (kQ (mM fm b) (i+1) y.aQ)=JD:=by rw[<-R7,<-aHj (mM fm b) i y.aQ hi4 (by rw[hlw];exact hself.symm)]
      have c3:0<y.aQ.length->σ[tW d s g]?=some (.row 89 2 0 (iZ (kQ (mM fm b) (i+1) y.aQ))):=λ_=>by rw[hmx];exact vt
      rcases hal with rfl|rfl
      .refine aC Bv ?_;refine bM.normal (m-1) Cj (by refine⟨i+1,true,σ,?_⟩;exact cE (⟨Cj,jI,bU,c3,by rw[hany,<-yDT,<-kB];rfl⟩))
      .refine aC Cf ?_;refine bM.normal (m-1) Cj (by refine⟨i+1,false,σ,?_⟩;exact cE (⟨Cj,jI,bU,c3,by rw[hany,<-yDT,<-kB];simp[he]⟩))
    .have q1:¬(i:Int)<(y.aQ.length:Int):=by omega
     refine aC q1 ?_;have hft:y.aQ.take i=y.aQ:=yAz Cj;have hmx:kQ (mM fm b) i y.aQ=y.aQ.map (mM fm b):=by unfold kQ;rw[hft,yAs Cj,yAl]
     rw[hmx]at sV;rw[hft]at kB;have nZ:=rD.step hO hlo AA hi (show s<o.aD[d].stops.length by omega) hgL jI (by rw[hyl hgL];exact bU) (by rw[hyl hgL];exact sV);rw[hyl hgL,<-kB]at nZ;have hN:=nZ.congr (Q:=λa b c=>a<d\/(a=d/\(b<s\/(b=s/\c<g+1)))) λa b c h k l=>Cj
     refine bM.normal (M3-1) Cj (by refine⟨g+1,hs,σ,?_⟩;exact cE (⟨Cj,hN⟩))
   .have q1:¬(g:Int)<(w.aN.length:Int):=by omega
    refine aC q1 ?_;have hN:=vO.congr (Q:=λa b _=>a<d\/(a=d/\b<s+1)) λa b c h k l=>by
     exact gv
    refine bM.normal (M2-1) Cj (by refine⟨s+1,hs,σ,?_⟩;exact cE (⟨Cj,hN⟩))
  .have q1:¬(s:Int)<(z.stops.length:Int):=by omega
   refine aC q1 ?_;have hN:=GO.congr (Q:=λa _ _=>a<d+1) λa b c h k _=>by
    exact lp
   refine bM.normal (M-1) Cj (by refine⟨d+1,hs,σ,?_⟩;exact cE (⟨Cj,hN⟩))
 .have q1:¬(d:Int)<(o.aD.length:Int):=by omega
  refine aC q1 ?_;have hT:=hI.congr (Q:=λ_ _ _=>True) λa b c h _ _=>Cu
  have hF:=hO.ZP hT;exact⟨_,_,rfl,hs,rfl,hF.1,hF.2,lT▸hT.len,hT.low,λid x ht hx=>hT.aM id x (λcs e=>ht _ _ _ e) hx⟩
end
section
def oZ(fm b:Int)(c:bX):bX:={ c with dK:=BY fm b c.dK,dst:=BY fm b c.dst }
def nW(fm:Int)(c:bX):Bool:=decide (c.dK=fm)||decide (c.dst=fm)
def zM(fm b:Int)(o:aV):aV:={ o with aP:=o.aP.map (oZ fm b) }
theorem aS2(k id n:Nat){t:TypeId}{e:TypeId}(ht:prog.underlying t=some (.slice e)):gA prog .len #[t] [hn k id n]=some (.int .i64 n):=by
 unfold hn;split
 .exact uh
 .simp[gA,ht]
theorem aHg{α:Type}{l:List α}{i:Nat}{x:α}(h:i<l.length)(e:l[i]=x):l.set i x=l:=by rw[<-e];simp
theorem aHh(l:List bX)(i:Nat)(h:i<l.length):∃(h1:i*5+1<(jJ l).length) (h2:i*5+2<(jJ l).length),(jJ l)[i*5+1]=.int .i64 l[i].dK/\(jJ l)[i*5+2]=.int .i64 l[i].dst:=by
 have hl:=MQ l;have h5:=aFj l i h;refine⟨Cj,Cj,?_,?_⟩
 .have h1:=yAL (λx=>x[1]?) h5;simp only[yAv,yBi]at h1;rw[yAJ Cn,yAh (show i*5+1<(jJ l).length by omega)]at h1;exact yAR h1
 .have h1:=yAL (λx=>x[2]?) h5;simp only[yAv,yBi]at h1;rw[yAJ Cn,yAh (show i*5+2<(jJ l).length by omega)]at h1;exact yAR h1
theorem jN.linked{aS σ1:Jp}{lo:Nat}{o:aV}{p:PD}{iR iD iC:Nat}{ds:Jn}{tS:Nat->Nat}{tss:Jm}{tG:Nat->Nat->Nat}{tgs:Jl}{tW:Nat->Nat->Nat->Nat}{fm b:Int}(hO:jN aS lo o p iR iD iC ds tS tss tG tgs tW)
  (hk:∀(id:Nat) (x:aA),(∀n v cs,x≠.row 58 n v cs)->aS[id]?=some x->σ1[id]?=some x) (hr:0<o.aP.length->σ1[iC]?=some (.row 58 5 0 (jJ (o.aP.map (oZ fm b))))):jN σ1 lo (zM fm b o) p iR iD iC ds tS tss tG tgs tW:=by
 have kk:∀ {id:Nat} {t:TypeId} {n v:Nat} {cs:Jq},t≠58->aS[id]?=some (.row t n v cs)->σ1[id]?=some (.row t n v cs):=λht h=>hk _ _ (λn v cs e=>ht (aA.row.inj e).1) h
 obtain⟨h1,h2,h3,h4,h5,h6,h7,h8⟩:=hO;refine⟨by rw[h1];simp[zM],λh=>⟨(h2 h).1,kk Cn (h2 h).2⟩,λh=>?_,h4,λh=>⟨(h5 h).1,kk Cn (h5 h).2⟩,λd h=>⟨(h6 d h).1,?_⟩,h7,h8⟩
 .have h':0<o.aP.length:=by simpa [zM]using h
  refine⟨(h3 h').1,?_⟩;simp only[zM];rw[RZ];exact hr h'
 .obtain⟨a1,a2,a3,a4⟩:=(h6 d h).2;refine⟨a1,λhp=>⟨(a2 hp).1,kk Cn (a2 hp).2⟩,λs h=>⟨(a3 s h).1,?_⟩,a4⟩;obtain⟨b1,b2,b3,b4⟩:=(a3 s h).2;exact⟨b1,λhp=>⟨(b2 hp).1,kk Cn (b2 hp).2⟩,λg h=>⟨(b3 g h).1,λhp=>⟨((b3 g h).2 hp).1,kk Cn ((b3 g h).2 hp).2⟩⟩,b4⟩
variable{E E0:aE}(hU:aJ E)
include hU
theorem aKT(h0:E 48=none)(fm b:Int)(hb1:-1<=b/\b<=1)
  (o:aV) (p:PD) (aS:List aA) (lo iR iD iC:Nat) (ds:List (List PD)) (tS:Nat->Nat) (tss:Nat->List (List PD)) (tG:Nat->Nat->Nat) (tgs:Nat->Nat->List (List PD)) (tW:Nat->Nat->Nat->Nat) (hO:jN aS lo o p iR iD iC ds tS tss tG tgs tW) (hlo:lo<=aS.length) (ho:eF o)
  (hb:∀c∈o.aP,(-1000000000<=c.dK/\c.dK<=1000000000)/\-1000000000<=c.dst/\c.dst<=1000000000) :
  aK prog E 0 (.inl 48) [p,.int .i64 fm,.int .i64 b] aS (λq σ'=>∃hs:Bool,q=.bool hs/\(hs=true↔o.aP.any (nW fm)=true)/\jN σ' lo (zM fm b o) p iR iD iC ds tS tss tG tgs tW/\aS.length<=σ'.length/\(∀id,id<lo->σ'[id]?=aS[id]?)/\∀(id:Nat) (x:aA),(∀n v cs,x≠.row 58 n v cs)->aS[id]?=some x->σ'[id]?=some x):=by
 clear hU;have hp:=hO.p;subst hp;obtain⟨hR,hhR⟩:=gn (Go.Kz.hn 6 iR o.aR.length);obtain⟨hD,hhD⟩:=gn (Go.Kz.hb 5 iD (o.aD.length-1) o.aD.length);obtain⟨hC,hhC⟩:=gn (Go.Kz.hn 5 iC o.aP.length);have lC:=aS2 5 iC o.aP.length underlying33;have pR:hR.plain=true:=Dr;have pD:hD.plain=true:=Dd;have pC:hC.plain=true:=Ds;have cC:hC.cells=[hC]:=Dz;unfold PD.plain at pR pD pC;unfold PD.cells at cC;simp only[hhR,hhD,hhC]at hO lC ⊢;simp[gA,underlying33]at lC;obtain⟨L0,lT⟩:=gn (aS.length);have hcl:o.aP.length<=1000000:=ho.2.2;refine aK.aG 67 h0 func48 (h:=?_);apply WL.tH Cp;apply SL.box (p:=.agg [.str o.name,hR,hD,hC]) (hw:=Wt.i rfl) (hx:=rfl) (hp:=Gz) (hr:=Ns.i rfl) (hn:=Ns.i rfl) (hf:=Fr.i rfl);refine T8 lC ?_;apply SQ.nil;refine aC (A2 lC lT) ?_;rw[lT];obtain⟨oM,D3⟩:=gn (aS++[aA.box (.agg [.str o.name,hR,hD,hC])]);have vG:oM[L0]?=some (.box (.agg [.str o.name,hR,hD,hC])):=by rw[<-D3,<-lT];simp
 have k0:∀(id:Nat) (x:aA),aS[id]?=some x->oM[id]?=some x:=λid x h=>by rw[<-D3];exact bG h
 have l3:oM.length=L0+1:=by rw[<-D3,yAa,lT];rfl
 rw[D3];have vT:0<o.aP.length->oM[iC]?=some (.row 58 5 0 (jJ o.aP)):=λhp=>by
  have h1:=(hO.aZ hp).2;rw[RZ]at h1;exact k0 _ _ h1
 refine Wp.dJ (λm fr σ=>∃(i:Nat) (hs:Bool) (σ1:List aA),∃gg:Nat->PD,(i+m=o.aP.length/\oM.length<=σ1.length/\(∀(id:Nat) (x:aA),(0<o.aP.length->id≠iC)->oM[id]?=some x->σ1[id]?=some x)/\(0<o.aP.length->σ1[iC]?=some (.row 58 5 0 (jJ (kQ (oZ fm b) i o.aP))))/\hs=(o.aP.take i).any (nW fm))/\fr=gg 0::.int .i64 fm::.int .i64 b::.ptr L0 0::gg 4::gg 5::gg 6::.bool hs::gg 8::gg 9::gg 10::hC::.int .i64 o.aP.length::.int .i64 i::gg 14::gg 15::gg 16::gg 17::gg 18::gg 19::gg 20::gg 21::gg 22::gg 23::gg 24::gg 25::gg 26::gg 27::gg 28::gg 29::gg 30::gg 31::gg 32::gg 33::gg 34::gg 35::gg 36::gg 37::gg 38::gg 39::gg 40::gg 41::gg 42::gg 43::gg 44::gg 45::gg 46::gg 47::gg 48::gg 49::gg 50::gg 51::gg 52::gg 53::gg 54::gg 55::gg 56::gg 57::gg 58::gg 59::gg 60::gg 61::gg 62::gg 63::gg 64::gg 65::gg 66::[]/\σ=σ1) ?_ (o.aP.length) (by refine⟨0,false,oM,?_⟩;exact cE (⟨Cj,yAk _,λid x _ h=>h,vT,rfl⟩))
 rintro m fr σ ⟨i,hs,σ1,gg,hI,rfl,rfl⟩
 obtain⟨hm4,jI,bU,sV,kB⟩:=hI
 by_cases hi4:i<o.aP.length
 .have q1:(i:Int)<(o.aP.length:Int):=by omega
  have hCr:hC=.aO iC 0 0 o.aP.length 5:=by rw[<-hhC];exact aAS Cj
  have vt:=sV Cj;have vg:=bU L0 _ (λh e=>Ip) vG;obtain⟨rT,yT⟩:=yA.1 vt;obtain⟨rG,yG⟩:=yA.1 vg;obtain⟨l',hl'⟩:∃l',kQ (oZ fm b) i o.aP=l':=⟨_,rfl⟩;have hll:i<l'.length:=by rw[<-hl',G6];exact hi4
  have hli:l'[i]=o.aP[i]:=by subst hl';exact aAT (oZ fm b) i o.aP hi4
  have hbr:=hb _ (yAm hi4);have hms:=aAU (oZ fm b) i o.aP hi4;rw[hl']at vt hms yT;have hany:(o.aP.take (i+1)).any (nW fm)=((o.aP.take i).any (nW fm)||nW fm o.aP[i]):=by
   rw[yBK hi4,List.any_append];simp
  obtain⟨⟨cn,a,d,sh,th⟩,hc⟩:∃c,o.aP[i]=c:=⟨_,rfl⟩;rw[hc]at hms hbr hany hli;simp only at hbr;have hlen:(jJ l').length=l'.length*5:=MQ l';obtain⟨x1,x2,a1,a2⟩:=aHh l' i hll;rw[hli]at a1 a2;have f1:=aFk l' i hll (a+b);rw[hli]at f1;have aHi:i<(l'.set i ⟨cn,a+b,d,sh,th⟩).length:=by rw[yAD];exact hll
  have aS3:(jJ (l'.set i ⟨cn,a+b,d,sh,th⟩)).length=l'.length*5:=by rw[MQ,yAD]
  obtain⟨y1,y2,b1,b2⟩:=aHh (l'.set i ⟨cn,a+b,d,sh,th⟩) i aHi;rw[yCT]at b1 b2;have f2:=ZI (l'.set i ⟨cn,a+b,d,sh,th⟩) i aHi (d+b);rw[yCT,List.set_set]at f2;have f3:=ZI l' i hll (d+b);rw[hli]at f3;simp only at f1 f2 f3 b1 b2 a1 a2;have wa:IntKind.i64.wrap (a+b)=a+b:=Cq;have wd:IntKind.i64.wrap (d+b)=d+b:=Cq;have lP:jD prog 33 (.aO iC 0 0 o.aP.length 5) (.int .i64 i)=some (.dG iC 0 (i*5)):=by
   simp[jT,hi4]
  have hl5:l'.length=o.aP.length:=by rw[<-hl',G6]
  obtain⟨fs,hfs⟩:=gn (jJ l');obtain⟨wZ,xW⟩:=gn (jJ (l'.set i ⟨cn,a+b,d,sh,th⟩));simp only[hfs]at vt yT f1 f3 a1 a2 hlen x1 x2;simp only[xW]at f1 f2 b1 b2 aS3 y1 y2;have g1:i*5+1+1<=fs.length:=Cj;have g2:i*5+2+1<=fs.length:=Cj;have g3:i*5+2+1<=wZ.length:=Cj;simp only[dF,yAT,yAO,yAp,Nat.reduceAdd,yBX,yAi,yBs,yAV]at f1 f2 f3;have fin:∀(l9:List bX) (x6:Bool),l9=kQ (oZ fm b) (i+1) o.aP->x6=((o.aP.take i).any (nW fm)||nW fm ⟨cn,a,d,sh,th⟩)->(i+1)+(m-1)=o.aP.length/\oM.length<=(σ.set iC (.row 58 5 0 (jJ l9))).length/\(∀(id:Nat) (x:aA),(0<o.aP.length->id≠iC)->oM[id]?=some x->(σ.set iC (.row 58 5 0 (jJ l9)))[id]?=some x)/\(0<o.aP.length->(σ.set iC (.row 58 5 0 (jJ l9)))[iC]?=some (.row 58 5 0 (jJ (kQ (oZ fm b) (i+1) o.aP))))/\x6=(o.aP.take (i+1)).any (nW fm):=λl9 x6 h1 h2=>by
   subst h1;exact⟨Cj,by rw[yAD];exact jI,λid x h hx=>by rw[yAd (yAU (h Cj))];exact bU id x h hx,λ_=>yAj rT,by rw[h2,hany]⟩
  have sel:σ.set iC (.row 58 5 0 fs)=σ:=by
   exact aHg rT yT
  rw[hCr]at vg yG;rw[hCr];have hal:hs=true\/hs=false:=by cases hs<;>simp
  by_cases iE:fm<=a
  .by_cases pE:fm<=d
   .have hL:oZ fm b ⟨cn,a,d,sh,th⟩=⟨cn,a+b,d+b,sh,th⟩:=by unfold oZ BY;simp[iE,pE]
    rw[hL]at hms;rcases hal with rfl|rfl
    .have hz:=h0;refine OV Bp ?_;have hF:=fin (l'.set i ⟨cn,a+b,d+b,sh,th⟩) true hms Iy;exact dx
    .by_cases e1:a=fm
     .subst e1;refine CZ Bp ?_;exact Az
     .by_cases e2:d=fm
      .subst e2;refine CZ Cg ?_;exact Az
      .have hz:=h0;refine CZ Bs ?_;have hF:=fin (l'.set i ⟨cn,a+b,d+b,sh,th⟩) false hms Fx;exact jo
   .have hL:oZ fm b ⟨cn,a,d,sh,th⟩=⟨cn,a+b,d,sh,th⟩:=by unfold oZ BY;simp[iE,pE]
    rw[hL]at hms;rcases hal with rfl|rfl
    .have hz:=h0;refine OV Bp ?_;have hF:=fin (l'.set i ⟨cn,a+b,d,sh,th⟩) true hms Iy;rw[xW]at hF;exact dx
    .by_cases e1:a=fm
     .subst e1;refine CZ Bp ?_;have hF:=fin (l'.set i ⟨cn,a+b,d,sh,th⟩) true hms (by rw[<-kB];simp[nW]);rw[xW]at hF;exact dx
     .by_cases e2:d=fm
      .exact absurd e2 Cj
      .have hz:=h0;refine CZ Bs ?_;have hF:=fin (l'.set i ⟨cn,a+b,d,sh,th⟩) false hms Fx;rw[xW]at hF;exact jo
  .by_cases pE:fm<=d
   .have hL:oZ fm b ⟨cn,a,d,sh,th⟩=⟨cn,a,d+b,sh,th⟩:=by unfold oZ BY;simp[iE,pE]
    rw[hL]at hms;rcases hal with rfl|rfl
    .have hz:=h0;refine OV Bp ?_;have hF:=fin (l'.set i ⟨cn,a,d+b,sh,th⟩) true hms Iy;exact dx
    .by_cases e1:a=fm
     .exact absurd e1 Cj
     .by_cases e2:d=fm
      .subst e2;refine CZ Cg ?_;have hF:=fin (l'.set i ⟨cn,a,d+b,sh,th⟩) true hms (by rw[<-kB];simp[nW]);exact dx
      .have hz:=h0;refine CZ Bs ?_;have hF:=fin (l'.set i ⟨cn,a,d+b,sh,th⟩) false hms Fx;exact jo
   .have hL:oZ fm b ⟨cn,a,d,sh,th⟩=⟨cn,a,d,sh,th⟩:=by unfold oZ BY;simp[iE,pE]
    rw[hL]at hms;have hms:l'=kQ (oZ fm b) (i+1) o.aP:=by rw[<-hms];exact(aHg hll hli).symm
    rcases hal with rfl|rfl
    .have hz:=h0;refine OV Bp ?_;have hF:=fin l' true hms Iy;rw[hfs,sel]at hF;exact dx
    .by_cases e1:a=fm
     .exact absurd e1 Cj
     .by_cases e2:d=fm
      .exact absurd e2 Cj
      .have hz:=h0;refine CZ Bs ?_;have hF:=fin l' false hms Fx;rw[hfs,sel]at hF;exact jo
 .have q1:¬(i:Int)<(o.aP.length:Int):=by omega
  refine aC q1 ?_;have hft:o.aP.take i=o.aP:=yAz Cj;have hmx:kQ (oZ fm b) i o.aP=o.aP.map (oZ fm b):=by unfold kQ;rw[hft,yAs Cj,yAl]
  rw[hmx]at sV;rw[hft]at kB;have hle:aS.length<=σ.length:=by rw[l3]at jI;omega
  have hkk:∀(id:Nat) (x:aA),(∀n v cs,x≠.row 58 n v cs)->aS[id]?=some x->σ[id]?=some x:=λid x ht hx=>bU id x (λhp e=>by
    have h1:=(hO.aZ hp).2;rw[<-e,hx]at h1;exact ht _ _ _ (yAR h1)) (k0 id x hx)
  refine⟨_,_,rfl,hs,rfl,by rw[kB],hO.linked hkk sV,by first|exact hle|exact lT▸hle,λid hid=>?_,hkk⟩
  .have xZ:id<aS.length:=by omega
   have hx0:aS[id]?=some aS[id]:=yAh xZ;rw[hx0];exact bU id _ (λhp e=>by have:=(hO.aZ hp).1;omega) (k0 id _ hx0)
end
end Go.Kz
end
