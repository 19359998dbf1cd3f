/- Steps of the proof. -/
import Derived.Test.YteegpeenjdgodaaGreatDoorU1
import Derived.Test.YteegpeenjdgodaaGreatDoorT1b
set_option linter.all false
set_option maxHeartbeats 40000000
set_option maxRecDepth 100000
open Go.Proofs.Tryz
namespace Go.Kz
open Go Go.Proofs
section
def FZ(f:dQ->dQ)(g:jE):jE:={ g with aR:=g.aR.map f }
def zN(f:dQ->dQ)(s:cO):cO:={ s with aO:=s.aO.map (FZ f) }
def xT(f:dQ->dQ)(d:bO):bO:={ d with stops:=d.stops.map (zN f) }
def mT(f:dQ->dQ)(o:aY):aY:={ o with aD:=o.aD.map (xT f) }
def BQ(fm b r:Int):Int:=if fm<=r then r+b else r
def mI(fm b:Int)(w:dQ):dQ:=⟨BQ fm b w.aN,w.shift⟩
def wX(fm:Int)(w:dQ):Bool:=decide (w.aN=fm)
theorem aSy(k id v n:Nat){t:TypeId}{e:TypeId}(ht:prog.underlying t=some (.slice e)):gF prog .len #[t] [hb k id v n]=some (.int .i64 n):=by
 unfold hb;split
 .exact tq
 .simp[gF,ht]
theorem aAu(k id v n:Nat){t:TypeId}{e:TypeId}(ht:prog.underlying t=some (.slice e)):gF prog .len #[t] [hq k id v n]=some (.int .i64 n):=by
 unfold hq;split
 .exact tq
 .simp[gF,ht]
def kL{α:Type}(f:α->α)(i:Nat)(l:List α):List α:=(l.take i).map f++l.drop i
theorem GW{α:Type}(f:α->α)(i:Nat)(l:List α):(kL f i l).length=l.length:=by
 unfold kL;rw[yAa,yAe,yAt,yBa];omega
theorem aAs{α:Type}(f:α->α)(i:Nat)(l:List α)(h:i<l.length):(kL f i l)[i]'(by rw[GW];exact h)=l[i]:=by
 unfold kL;exact jx
theorem aAt{α:Type}(f:α->α)(i:Nat)(l:List α)(h:i<l.length):(kL f i l).set i (f l[i])=kL f (i+1) l:=by
 unfold kL;exact kg
theorem aGH{α:Type}(f:α->α)(i:Nat)(l:List α)(h:i<l.length)(he:f l[i]=l[i]):kL f i l=kL f (i+1) l:=by
 rw[<-aAt f i l h,he];have e:∀(a:List α) (h:i<a.length),a=a.set i a[i]:=λa h=>Ce
 have h2:=e (kL f i l) (by rw[GW];exact h);rw[aAs f i l h]at h2;exact h2
structure rD (aV σ1:List aA) (lo:Nat) (o:aY) (tW:Nat->Nat->Nat->Nat) (fm b:Int) (P:Nat->Nat->Nat->Prop) (hs:Bool):Prop where
 len:aV.length<=σ1.length
 low:∀id,id<lo->σ1[id]?=aV[id]?
 aM:∀(id:Nat) (x:aA),(∀cs,x≠.row 89 2 0 cs)->aV[id]?=some x->σ1[id]?=some x
 done:∀d s g (h:d<o.aD.length) (k:s<o.aD[d].stops.length) (l:g<o.aD[d].stops[s].aO.length),P d s g->0<o.aD[d].stops[s].aO[g].aR.length->σ1[tW d s g]?=some (.row 89 2 0 (jD (o.aD[d].stops[s].aO[g].aR.map (mI fm b))))
 rest:∀d s g (h:d<o.aD.length) (k:s<o.aD[d].stops.length) (l:g<o.aD[d].stops[s].aO.length),¬P d s g->0<o.aD[d].stops[s].aO[g].aR.length->σ1[tW d s g]?=some (.row 89 2 0 (jD o.aD[d].stops[s].aO[g].aR))
 has:hs=true↔∃d s g,∃(h:d<o.aD.length) (k:s<o.aD[d].stops.length) (l:g<o.aD[d].stops[s].aO.length),P d s g/\o.aD[d].stops[s].aO[g].aR.any (wX fm)=true
theorem rD.app{aV σ1:Jj}{lo:Nat}{o:aY}{tW:Nat->Nat->Nat->Nat}{fm b:Int}{P:Nat->Nat->Nat->Prop}{hs:Bool}(h:rD aV σ1 lo o tW fm b P hs)(hl:lo<=aV.length)(L:List aA):rD aV (σ1++L) lo o tW fm b P hs:=by
 obtain⟨h1,h2,h3,h4,h5,h6⟩:=h;exact⟨by rw[yAa];omega,λid hi=>by rw[yAg Cd];exact h2 id hi,λid x hx h=>bR (h3 id x hx h),λd s g h k l hp q=>bR (h4 d s g h k l hp q),λd s g h k l hp q=>bR (h5 d s g h k l hp q),h6⟩
theorem rD.congr{aV σ1:Jj}{lo:Nat}{o:aY}{tW:Nat->Nat->Nat->Nat}{fm b:Int}{P Q:Nat->Nat->Nat->Prop}{hs:Bool}(h:rD aV σ1 lo o tW fm b P hs)(hq:∀d s g (h:d<o.aD.length) (k:s<o.aD[d].stops.length) (l:g<o.aD[d].stops[s].aO.length),P d s g↔Q d s g):rD aV σ1 lo o tW fm b Q hs:=by
 obtain⟨h1,h2,h3,h4,h5,h6⟩:=h;refine⟨h1,h2,h3,λd s g h k l hp=>h4 d s g h k l ((hq d s g h k l).2 hp),λd s g h k l hp q=>h5 d s g h k l (λx=>hp ((hq d s g h k l).1 x)) q,h6.trans ⟨λ⟨d,s,g,h,k,l,p,q⟩=>⟨d,s,g,h,k,l,(hq d s g h k l).1 p,q⟩,λ⟨d,s,g,h,k,l,p,q⟩=>⟨d,s,g,h,k,l,(hq d s g h k l).2 p,q⟩⟩⟩
theorem jR.draw{aV:Jj}{lo:Nat}{o:aY}{p:PD}{iR iD iC:Nat}{ds:Jh}{tS:Nat->Nat}{tss:Jg}{tG:Nat->Nat->Nat}{tgs:Jf}{tW:Nat->Nat->Nat->Nat}(hO:jR aV lo o p iR iD iC ds tS tss tG tgs tW){d s g:Nat}(h:d<o.aD.length)(k:s<o.aD[d].stops.length)(l:g<o.aD[d].stops[s].aO.length)(hp:0<o.aD[d].stops[s].aO[g].aR.length):lo<=tW d s g/\aV[tW d s g]?=some (.row 89 2 0 (jD o.aD[d].stops[s].aO[g].aR)):=
 ((((hO.at_ d h).2.at_ s k).2.at_ g l).2) hp
theorem rD.start{aV:Jj}{lo:Nat}{o:aY}{p:PD}{iR iD iC:Nat}{ds:Jh}{tS:Nat->Nat}{tss:Jg}{tG:Nat->Nat->Nat}{tgs:Jf}{tW:Nat->Nat->Nat->Nat}{fm b:Int}(hO:jR aV lo o p iR iD iC ds tS tss tG tgs tW):rD aV aV lo o tW fm b (λ_ _ _=>False) false:=
 ⟨yAk _,λ_ _=>rfl,λ_ _ _ h=>h,λ_ _ _ _ _ _ h=>h.elim,λ_ _ _ h k l _ hp=>(hO.draw h k l hp).2,⟨λh=>Ck,λ⟨_,_,_,_,_,_,h,_⟩=>h.elim⟩⟩
theorem rD.step{aV σ1 σ2:Jj}{lo:Nat}{o:aY}{p:PD}{iR iD iC:Nat}{ds:Jh}{tS:Nat->Nat}{tss:Jg}{tG:Nat->Nat->Nat}{tgs:Jf}{tW:Nat->Nat->Nat->Nat}{fm b:Int}{P:Nat->Nat->Nat->Prop}{hs:Bool}(hO:jR aV lo o p iR iD iC ds tS tss tG tgs tW)(hl:lo<=aV.length)(hI:rD aV σ1 lo o tW fm b P hs)
  {d s g:Nat} (h:d<o.aD.length) (k:s<o.aD[d].stops.length) (l:g<o.aD[d].stops[s].aO.length)
  (hlen:σ1.length<=σ2.length) (hk:∀(id:Nat) (x:aA),(0<o.aD[d].stops[s].aO[g].aR.length->id≠tW d s g)->σ1[id]?=some x->σ2[id]?=some x)
  (hrow:0<o.aD[d].stops[s].aO[g].aR.length->σ2[tW d s g]?=some (.row 89 2 0 (jD (o.aD[d].stops[s].aO[g].aR.map (mI fm b))))) :
  rD aV σ2 lo o tW fm b (λa b c=>P a b c\/(a=d/\b=s/\c=g)) (hs||o.aD[d].stops[s].aO[g].aR.any (wX fm)):=by
 obtain⟨h1,h2,h3,h4,h5,h6⟩:=hI;refine⟨Cd,λid hi=>?_,λid x hx hi=>?_,λa b c ha hb hc hp hq=>?_,λa b c ha hb hc hp hq=>?_,?_⟩
 .exact oq
 .exact ot
 .by_cases e:a=d/\b=s/\c=g
  .obtain⟨rfl,rfl,rfl⟩:=e;exact hrow hq
  .have hp':=hp.resolve_right e;exact hk _ _ (λhr e2=>e (hO.MB a d b s c g ha h hb k hc l hq hr e2)) (h4 a b c ha hb hc hp' hq)
 .exact ny
 .rw[yBv,h6]
  constructor
  .rintro(⟨a,b,c,ha,hb,hc,p,q⟩ | q)
   .exact⟨a,b,c,ha,hb,hc,.inl p,q⟩
   .exact⟨d,s,g,h,k,l,.inr ⟨rfl,rfl,rfl⟩,q⟩
  .rintro⟨a,b,c,ha,hb,hc,p | ⟨rfl,rfl,rfl⟩,q⟩
   .exact .inl ⟨a,b,c,ha,hb,hc,p,q⟩
   .exact .inr q
theorem jR.YU{aV σ1:Jj}{lo:Nat}{o:aY}{p:PD}{iR iD iC:Nat}{ds:Jh}{tS:Nat->Nat}{tss:Jg}{tG:Nat->Nat->Nat}{tgs:Jf}{tW:Nat->Nat->Nat->Nat}{fm b:Int}{hs:Bool}(hO:jR aV lo o p iR iD iC ds tS tss tG tgs tW)(hI:rD aV σ1 lo o tW fm b (λ_ _ _=>True) hs) :
  (hs=true↔∃d∈o.aD,∃s∈d.stops,∃g∈s.aO,g.aR.any (wX fm)=true)/\jR σ1 lo (mT (mI fm b) o) p iR iD iC ds tS tss tG tgs tW:=by
 have hk:∀ {id:Nat} {t:TypeId} {n v:Nat} {cs:Jk},t≠89->aV[id]?=some (.row t n v cs)->σ1[id]?=some (.row t n v cs):=λht h=>hI.aM _ _ (λcs e=>ht (aA.row.inj e).1) h
 refine⟨hI.has.trans ⟨λ⟨d,s,g,h,k,l,_,q⟩=>⟨_,yAm h,_,yAm k,_,yAm l,q⟩,λ⟨d,hd,s,hs,g,hg,q⟩=>?_⟩,?_⟩
 .obtain⟨a,ha,rfl⟩:=yBT hd;obtain⟨b,hb,rfl⟩:=yBT hs;obtain⟨c,hc,rfl⟩:=yBT hg;exact⟨a,b,c,ha,hb,hc,trivial,q⟩
 obtain⟨h1,h2,h3,h4,h5,h6,h7,h8⟩:=hO;refine⟨?_,λh=>⟨(h2 h).1,hk Ch (h2 h).2⟩,λh=>⟨(h3 h).1,hk Ch (h3 h).2⟩,by simp[mT,h4],λh=>?_,λd h=>?_,λd d' h h' p q=>?_,λd d' s s' g g' h h' k k' l l' p q=>?_⟩
 .rw[h1];simp[mT]
 .have h':=h5 (by simpa [mT]using h);refine⟨h'.1,?_⟩;simp only[mT,yAe];exact hk Ch h'.2
 .have h':d<o.aD.length:=by simpa [mT]using h
  obtain⟨e1,e2⟩:=h6 d h';simp only[mT,yBp,xT,yAe];refine⟨e1,by simp[e2.len],λhp=>?_,λs k=>?_,λs s' g g' k k' l l' p q=>?_⟩
  .simp only[yAe]at hp ⊢;exact⟨(e2.row hp).1,hk Ch (e2.row hp).2⟩
  .have k':s<o.aD[d].stops.length:=by simpa using k
   obtain⟨f1,f2⟩:=e2.at_ s k';simp only[yBp,zN,yAe];refine⟨f1,by simp[f2.len],λhp=>?_,λg l=>?_,λg g' l l' p q=>?_⟩
   .simp only[yAe]at hp ⊢;exact⟨(f2.row hp).1,hk Ch (f2.row hp).2⟩
   .have l':g<o.aD[d].stops[s].aO.length:=by simpa using l
    obtain⟨q1,q2⟩:=f2.at_ g l';simp only[yBp,FZ,yAe];refine⟨q1,λhp=>?_⟩;have hp':0<o.aD[d].stops[s].aO[g].aR.length:=Es;exact⟨(q2 hp').1,hI.done d s g h' k' l' trivial hp'⟩
   .simp only[yBp,FZ,yAe]at p q;exact f2.inj g g' (by simpa using l) (by simpa using l') p q
  .simp only[yBp,zN,FZ,yAe]at p q;exact e2.inj s s' g g' (by simpa using k) (by simpa using k') (by simpa [zN]using l) (by simpa [zN]using l') p q
 .simp only[mT,yBp,xT,yAe]at p q;exact h7 d d' (by simpa [mT]using h) (by simpa [mT]using h') p q
 .simp only[mT,yBp,xT,zN,FZ,yAe]at p q;exact h8 d d' s s' g g' (by simpa [mT]using h) (by simpa [mT]using h') (by simpa [mT,xT]using k) (by simpa [mT,xT]using k') (by simpa [mT,xT,zN]using l) (by simpa [mT,xT,zN]using l') p q
variable{E E0:aE}(hU:aJ E)
include hU
theorem aKj(h0:E 46=none)(fm b:Int)(hb1:-1<=b/\b<=1)
  (o:aY) (p:PD) (aV:List aA) (lo iR iD iC:Nat) (ds:List (List PD)) (tS:Nat->Nat) (tss:Nat->List (List PD)) (tG:Nat->Nat->Nat) (tgs:Nat->Nat->List (List PD)) (tW:Nat->Nat->Nat->Nat) (hO:jR aV lo o p iR iD iC ds tS tss tG tgs tW) (hlo:lo<=aV.length) (ho:fX o)
  (hb:∀d∈o.aD,∀s∈d.stops,∀g∈s.aO,∀w∈g.aR,-1000000000<=w.aN/\w.aN<=1000000000) :
  aK prog E 0 (.inl 46) [p,.int .i64 fm,.int .i64 b] aV (λq σ'=>∃hs:Bool,q=.bool hs/\(hs=true↔∃d∈o.aD,∃s∈d.stops,∃g∈s.aO,g.aR.any (wX fm)=true)/\jR σ' lo (mT (mI fm b) o) p iR iD iC ds tS tss tG tgs tW/\aV.length<=σ'.length/\(∀id,id<lo->σ'[id]?=aV[id]?)/\∀(id:Nat) (x:aA),(∀n v cs,x≠.row 89 n v cs)->aV[id]?=some x->σ'[id]?=some x):=by
 clear hU;have hp:=hO.p;subst hp;obtain⟨hR,hhR⟩:=gn (Go.Kz.hn 6 iR o.aQ.length);obtain⟨hD,hhD⟩:=gn (Go.Kz.hb 5 iD (o.aD.length-1) o.aD.length);obtain⟨hC,hhC⟩:=gn (Go.Kz.hn 5 iC o.aL.length);have lD:=aSy 5 iD (o.aD.length-1) o.aD.length underlying32;have pR:hR.plain=true:=Dl;have pD:hD.plain=true:=Cy;have pC:hC.plain=true:=Dm;unfold PD.plain at pR pD pC;simp only[hhR,hhD,hhC]at hO lD ⊢;simp[gF,underlying32]at lD;obtain⟨L0,lO⟩:=gn (aV.length);refine aK.aG 76 h0 func46 (h:=?_);apply WL.tI Cj;apply SL.box (p:=.agg [.str o.name,hR,hD,hC]) (hw:=Wt.i rfl) (hx:=rfl) (hp:=Gv) (hr:=Ns.i rfl) (hn:=Ns.i rfl) (hf:=Fr.i rfl);refine oQ lD ?_;apply SQ.nil;refine aC (A2 lD lO) ?_;rw[lO];have hst:=(rD.start (fm:=fm) (b:=b) hO).app hlo [aA.box (.agg [.str o.name,hR,hD,hC])];refine Wp.dW (λm fr σ=>∃(d:Nat) (hs:Bool) (σ1:List aA),∃gg:Nat->PD,(d+m=o.aD.length/\rD aV σ1 lo o tW fm b (λa _ _=>a<d) hs)/\fr=gg 0::.int .i64 fm::.int .i64 b::gg 3::gg 4::gg 5::gg 6::.bool hs::gg 8::gg 9::gg 10::gg 11::gg 12::gg 13::gg 14::gg 15::hD::.int .i64 o.aD.length::.int .i64 d::gg 19::gg 20::gg 21::gg 22::gg 23::gg 24::gg 25::gg 26::gg 27::gg 28::gg 29::gg 30::gg 31::gg 32::gg 33::gg 34::gg 35::gg 36::gg 37::gg 38::gg 39::gg 40::gg 41::gg 42::gg 43::gg 44::gg 45::gg 46::gg 47::gg 48::gg 49::gg 50::gg 51::gg 52::gg 53::gg 54::gg 55::gg 56::gg 57::gg 58::gg 59::gg 60::gg 61::gg 62::gg 63::gg 64::gg 65::gg 66::gg 67::gg 68::gg 69::gg 70::gg 71::gg 72::gg 73::gg 74::gg 75::[]/\σ=σ1) ?_ (o.aD.length) (by refine⟨0,false,(aV++[aA.box (.agg [.str o.name,hR,hD,hC])]),?_⟩;exact fU (⟨Cd,hst.congr λa b c _ _ _=>Ce⟩) @lO)
 rintro m fr σ ⟨d,hs,σ1,gg,hI,rfl,rfl⟩
 obtain⟨hm,hI⟩:=hI;have hod:=ho.2.1.1
 by_cases hi:d<o.aD.length
 .have hzo:=ho.2.1.2 _ (yAm hi);have q1:(d:Int)<(o.aD.length:Int):=Cd;have hDr:hD=.aP iD (o.aD.length-1) 0 o.aD.length 5:=by rw[<-hhD];exact BP Cd
  have v2:=hI.aM _ _ (λcs e=>absurd (aA.row.inj e).1 Ch) (hO.row Cd).2;obtain⟨e1,e2⟩:=hO.at_ d hi;have gP:∀g∈ds,g.length=5:=λg h=>by
   exact ir
  have hat:=qX (sz:=5) ds d Ix gP;have hlen:=lA (sz:=5) ds gP;rw[(yA.1 e1).2]at hat;obtain⟨fs,hfs⟩:=gn (ds.flatten);rw[hfs]at v2 hlen hat;obtain⟨z,hz⟩:=gn (o.aD[d]);rw[hz]at hat e2 hzo;have hos:=hzo.1;obtain⟨r2,y2⟩:=yA.1 v2;have fJ:d*5+5<=fs.length:=Iy;have xk:jH prog 32 (.aP iD (o.aD.length-1) 0 o.aD.length 5) (.int .i64 d)=some (.dM iD (o.aD.length-1) (d*5)):=by
   simp[jV,hi]
  obtain⟨hS,hhS⟩:=gn (Go.Kz.hq 4 (tS d) (z.stops.length-1) z.stops.length);have pS:hS.plain=true:=by rw[<-hhS];exact GX _ _ _ _
  have cS:hS.cells=[hS]:=by rw[<-hhS];exact GY _ _ _ _
  have lS:=aAu 4 (tS d) (z.stops.length-1) z.stops.length underlying51;unfold PD.plain at pS;unfold PD.cells at cS;rw[hhS]at hat lS;simp[gF,underlying51]at lS;have j0:∀x:aA,(σ++[x])[σ.length]?=some x:=λx=>Ce
  rw[hDr];refine aC (A12 q1 hi xk @v2 r2 y2 fJ hat j0 pS cS lS) ?_;have MA:=hI.app hlo [aA.box (.agg [.str z.name,.bool z.dV,.int .i64 z.low,.int .i64 z.high,hS])];obtain⟨M,YO⟩:∃M,M=m:=⟨_,rfl⟩;rw[<-YO]at hm ⊢;obtain⟨YP,YQ⟩:=gn (σ++[aA.box (.agg [.str z.name,.bool z.dV,.int .i64 z.low,.int .i64 z.high,hS])]);rw[YQ]at MA ⊢;have hsl:z.stops.length=o.aD[d].stops.length:=by rw[hz]
  refine Wp.dW (λm fr σ=>∃(s:Nat) (hs:Bool) (σ1:List aA),∃gg:Nat->PD,(s+m=z.stops.length/\rD aV σ1 lo o tW fm b (λa b _=>a<d\/(a=d/\b<s)) hs)/\fr=gg 0::.int .i64 fm::.int .i64 b::gg 3::gg 4::gg 5::gg 6::.bool hs::gg 8::gg 9::gg 10::gg 11::gg 12::gg 13::gg 14::gg 15::.aP iD (o.aD.length-1) 0 o.aD.length 5::.int .i64 o.aD.length::.int .i64 d::gg 19::gg 20::gg 21::gg 22::hS::.int .i64 z.stops.length::.int .i64 s::gg 26::gg 27::gg 28::gg 29::gg 30::gg 31::gg 32::gg 33::gg 34::gg 35::gg 36::gg 37::gg 38::gg 39::gg 40::gg 41::gg 42::gg 43::gg 44::gg 45::gg 46::gg 47::gg 48::gg 49::gg 50::gg 51::gg 52::gg 53::gg 54::gg 55::gg 56::gg 57::gg 58::gg 59::gg 60::gg 61::gg 62::gg 63::gg 64::gg 65::gg 66::gg 67::gg 68::gg 69::gg 70::gg 71::gg 72::gg 73::gg 74::gg 75::[]/\σ=σ1) ?_ (z.stops.length) (by refine⟨0,hs,YP,?_⟩;exact cL (⟨Cd,MA.congr λa b c _ _ _=>Ce⟩))
  rintro m fr σ ⟨s,hs,σ1,gg,hI,rfl,rfl⟩
  obtain⟨hm2,GF⟩:=hI
  by_cases hi2:s<z.stops.length
  .have q1:(s:Int)<(z.stops.length:Int):=by omega
   have hwo:=hzo.2 _ (yAm hi2);have hSr:hS=.aP (tS d) (z.stops.length-1) 0 z.stops.length 4:=by rw[<-hhS];exact JR Cd
   have v2:=GF.aM _ _ (λcs e=>absurd (aA.row.inj e).1 Ch) (e2.row Cd).2;obtain⟨f1,f2⟩:=e2.at_ s hi2;have gP:∀g∈tss d,g.length=4:=λg h=>by
    exact Aw
   have hat:=qX (sz:=4) (tss d) s (by rw[e2.len];exact hi2) gP;have hlen:=lA (sz:=4) (tss d) gP;rw[(yA.1 f1).2]at hat;obtain⟨fs,hfs⟩:=gn ((tss d).flatten);rw[hfs]at v2 hlen hat;obtain⟨w,oK⟩:=gn (z.stops[s]);rw[oK]at hat f2 hwo;have hog:=hwo.1;obtain⟨r2,y2⟩:=yA.1 v2;have fJ:s*4+4<=fs.length:=by rw[hlen,e2.len];omega
   have xk:jH prog 51 (.aP (tS d) (z.stops.length-1) 0 z.stops.length 4) (.int .i64 s)=some (.dM (tS d) (z.stops.length-1) (s*4)):=by
    simp[jV,hi2]
   obtain⟨hG,hhG⟩:=gn (Go.Kz.hq 3 (tG d s) (w.aO.length-1) w.aO.length);have pG:hG.plain=true:=by rw[<-hhG];exact GX _ _ _ _
   have cG:hG.cells=[hG]:=by rw[<-hhG];exact GY _ _ _ _
   have lG:=aAu 3 (tG d s) (w.aO.length-1) w.aO.length underlying54;unfold PD.plain at pG;unfold PD.cells at cG;rw[hhG]at hat lG;simp[gF,underlying54]at lG;have j0:∀x:aA,(σ++[x])[σ.length]?=some x:=λx=>Ce
   rw[hSr];refine aC (A12 q1 hi2 xk @v2 r2 y2 fJ hat j0 pG cG lG) ?_;have vQ:=GF.app hlo [aA.box (.agg [.str w.name,.int .i64 w.num,.int .i64 w.den,hG])];obtain⟨M2,zZ⟩:∃M,M=m:=⟨_,rfl⟩;rw[<-zZ]at hm2 ⊢;obtain⟨YR,oU⟩:=gn (σ++[aA.box (.agg [.str w.name,.int .i64 w.num,.int .i64 w.den,hG])]);rw[oU]at vQ ⊢;have hgl:∀(h:s<o.aD[d].stops.length),w.aO.length=o.aD[d].stops[s].aO.length:=λh=>by subst hz;rw[<-oK]
   refine Wp.dW (λm fr σ=>∃(g:Nat) (hs:Bool) (σ1:List aA),∃gg:Nat->PD,(g+m=w.aO.length/\rD aV σ1 lo o tW fm b (λa b c=>a<d\/(a=d/\(b<s\/(b=s/\c<g)))) hs)/\fr=gg 0::.int .i64 fm::.int .i64 b::gg 3::gg 4::gg 5::gg 6::.bool hs::gg 8::gg 9::gg 10::gg 11::gg 12::gg 13::gg 14::gg 15::.aP iD (o.aD.length-1) 0 o.aD.length 5::.int .i64 o.aD.length::.int .i64 d::gg 19::gg 20::gg 21::gg 22::.aP (tS d) (z.stops.length-1) 0 z.stops.length 4::.int .i64 z.stops.length::.int .i64 s::gg 26::gg 27::gg 28::gg 29::hG::.int .i64 w.aO.length::.int .i64 g::gg 33::gg 34::gg 35::gg 36::gg 37::gg 38::gg 39::gg 40::gg 41::gg 42::gg 43::gg 44::gg 45::gg 46::gg 47::gg 48::gg 49::gg 50::gg 51::gg 52::gg 53::gg 54::gg 55::gg 56::gg 57::gg 58::gg 59::gg 60::gg 61::gg 62::gg 63::gg 64::gg 65::gg 66::gg 67::gg 68::gg 69::gg 70::gg 71::gg 72::gg 73::gg 74::gg 75::[]/\σ=σ1) ?_ (w.aO.length) (by refine⟨0,hs,YR,?_⟩;exact cL (⟨Cd,vQ.congr λa b c _ _ _=>Ce⟩))
   rintro m fr σ ⟨g,hs,σ1,gg,hI,rfl,rfl⟩
   obtain⟨YS,vQ⟩:=hI
   by_cases qY:g<w.aO.length
   .have q1:(g:Int)<(w.aO.length:Int):=by omega
    have how:=hwo.2 _ (yAm qY);have hGr:hG=.aP (tG d s) (w.aO.length-1) 0 w.aO.length 3:=by rw[<-hhG];exact JR Cd
    have v2:=vQ.aM _ _ (λcs e=>absurd (aA.row.inj e).1 Ch) (f2.row Cd).2;obtain⟨k1,k2⟩:=f2.at_ g qY;have gP:∀x∈tgs d s,x.length=3:=λx h=>by
     exact At
    have hat:=qX (sz:=3) (tgs d s) g (by rw[f2.len];exact qY) gP;have hlen:=lA (sz:=3) (tgs d s) gP;rw[(yA.1 k1).2]at hat;obtain⟨fs,hfs⟩:=gn ((tgs d s).flatten);rw[hfs]at v2 hlen hat;obtain⟨y,pT⟩:=gn (w.aO[g]);rw[pT]at hat k2 how;have how':y.aR.length<=1000000:=how;obtain⟨r2,y2⟩:=yA.1 v2;have fJ:g*3+3<=fs.length:=by rw[hlen,f2.len];omega
    have xk:jH prog 54 (.aP (tG d s) (w.aO.length-1) 0 w.aO.length 3) (.int .i64 g)=some (.dM (tG d s) (w.aO.length-1) (g*3)):=by
     simp[jV,qY]
    obtain⟨hW,hhW⟩:=gn (Go.Kz.hq 2 (tW d s g) 0 y.aR.length);have pW:hW.plain=true:=by rw[<-hhW];exact GX _ _ _ _
    have cW:hW.cells=[hW]:=by rw[<-hhW];exact GY _ _ _ _
    have lW:=aAu 2 (tW d s g) 0 y.aR.length underlying90;unfold PD.plain at pW;unfold PD.cells at cW;rw[hhW]at hat lW;simp[gF,underlying90]at lW;have j0:∀x:aA,(σ++[x])[σ.length]?=some x:=λx=>Ce
    rw[hGr];refine aC (A12 q1 qY xk @v2 r2 y2 fJ hat j0 pW cW lW) ?_;have z7:=vQ.app hlo [aA.box (.agg [.int .i64 y.lo,.int .i64 y.hi,hW])];obtain⟨M3,YT⟩:∃M,M=m:=⟨_,rfl⟩;rw[<-YT]at YS ⊢;obtain⟨BG,hBG⟩:=gn (σ.length);have vG:(σ++[aA.box (.agg [.int .i64 y.lo,.int .i64 y.hi,hW])])[BG]?=some (.box (.agg [.int .i64 y.lo,.int .i64 y.hi,hW])):=by rw[<-hBG];exact j0 _
    obtain⟨oL,DW⟩:=gn (σ++[aA.box (.agg [.int .i64 y.lo,.int .i64 y.hi,hW])]);rw[DW]at z7 vG ⊢;rw[hBG];have hyo:o.aD[d].stops[s]' Cd=w:=by subst hz;exact oK
    have hyl:∀(h:g<(o.aD[d].stops[s]' Cd).aO.length),(o.aD[d].stops[s]' Cd).aO[g]=y:=λh=>by simp only[hyo];exact pT
    have hgL:g<(o.aD[d].stops[s]' Cd).aO.length:=by rw[hyo];exact qY
    have vT:0<y.aR.length->oL[tW d s g]?=some (.row 89 2 0 (jD y.aR)):=λhp=>by
     exact oz
    have hyM:y∈(o.aD[d].stops[s]' Cd).aO:=by rw[<-hyl hgL];exact yAm hgL
    have hby:∀x∈y.aR,-1000000000<=x.aN/\x.aN<=1000000000:=λx hx=>hb _ (yAm hi) _ (yAm (show s<o.aD[d].stops.length by omega)) y hyM x hx
    obtain⟨hs0,aGI⟩:∃x,x=hs:=⟨_,rfl⟩;rw[<-aGI]at z7;have hfw:∀r:Int,-1000000000<=r/\r<=1000000000->IntKind.i64.wrap (r+b)=r+b:=λr hr=>Ci
    refine Wp.dW (λm fr σ=>∃(i:Nat) (hs:Bool) (σ1:List aA),∃gg:Nat->PD,(i+m=y.aR.length/\oL.length<=σ1.length/\(∀(id:Nat) (x:aA),(0<y.aR.length->id≠tW d s g)->oL[id]?=some x->σ1[id]?=some x)/\(0<y.aR.length->σ1[tW d s g]?=some (.row 89 2 0 (jD (kL (mI fm b) i y.aR))))/\hs=(hs0||(y.aR.take i).any (wX fm)))/\fr=gg 0::.int .i64 fm::.int .i64 b::gg 3::gg 4::gg 5::gg 6::.bool hs::gg 8::gg 9::gg 10::gg 11::gg 12::.ptr BG 0::gg 14::gg 15::.aP iD (o.aD.length-1) 0 o.aD.length 5::.int .i64 o.aD.length::.int .i64 d::gg 19::gg 20::gg 21::gg 22::.aP (tS d) (z.stops.length-1) 0 z.stops.length 4::.int .i64 z.stops.length::.int .i64 s::gg 26::gg 27::gg 28::gg 29::.aP (tG d s) (w.aO.length-1) 0 w.aO.length 3::.int .i64 w.aO.length::.int .i64 g::gg 33::gg 34::gg 35::gg 36::hW::.int .i64 y.aR.length::.int .i64 i::gg 40::gg 41::gg 42::gg 43::gg 44::gg 45::gg 46::gg 47::gg 48::gg 49::gg 50::gg 51::gg 52::gg 53::gg 54::gg 55::gg 56::gg 57::gg 58::gg 59::gg 60::gg 61::gg 62::gg 63::gg 64::gg 65::gg 66::gg 67::gg 68::gg 69::gg 70::gg 71::gg 72::gg 73::gg 74::gg 75::[]/\σ=σ1) ?_ (y.aR.length) (by refine⟨0,hs,oL,?_⟩;exact cL (⟨Cd,yAk _,λid x _ h=>h,vT,by rw[<-aGI];simp⟩))
    rintro m fr σ ⟨i,hs,σ1,gg,hI,rfl,rfl⟩
    obtain⟨hm4,jK,cE,sV,j7⟩:=hI
    by_cases hi4:i<y.aR.length
    .have q1:(i:Int)<(y.aR.length:Int):=by omega
     have hWr:hW=.aP (tW d s g) 0 0 y.aR.length 2:=by rw[<-hhW];exact JR Cd
     have vt:=sV Cd;have vg:=cE BG _ (λh e=>Ik) vG;obtain⟨rT,yT⟩:=yA.1 vt;obtain⟨rG,yG⟩:=yA.1 vg;have hat:=aEM (kL (mI fm b) i y.aR) i (by rw[GW];exact hi4);have hlen:=aEL (kL (mI fm b) i y.aR);have hfl:=aEN (kL (mI fm b) i y.aR) i (by rw[GW];exact hi4) (y.aR[i].aN+b);rw[GW]at hlen;rw[aAs (mI fm b) i y.aR hi4]at hat hfl;have hms:=aAt (mI fm b) i y.aR hi4;have hmi:=aGH (mI fm b) i y.aR hi4;obtain⟨I4,RG⟩:=gn (jD (kL (mI fm b) i y.aR));rw[RG]at vt hlen hat hfl yT;have vP:i*2+1<=I4.length:=Cd;have lN:jH prog 90 (.aP (tW d s g) 0 0 y.aR.length 2) (.int .i64 i)=some (.dM (tW d s g) 0 (i*2)):=by
      simp[jV,hi4]
     rw[hWr]at vg yG;rw[hWr];have hbr:=hby _ (yAm hi4);have hwr:=hfw _ hbr;have hal:hs=true\/hs=false:=by cases hs<;>simp
     have hany:(y.aR.take (i+1)).any (wX fm)=((y.aR.take i).any (wX fm)||decide (y.aR[i].aN=fm)):=by
      rw[yBI hi4,List.any_append];simp[wX]
     obtain⟨r,hr⟩:=gn (y.aR[i].aN);have hlw:mI fm b y.aR[i]=⟨if fm<=r then r+b else r,y.aR[i].shift⟩:=by rw[<-hr];rfl
     have hself:y.aR[i]=⟨r,y.aR[i].shift⟩:=by rw[<-hr]
     rw[hr]at hat hfl hbr hwr hany;simp only[dL,yAT,yAO,yAp,Nat.reduceAdd,yBW,yAi,yBt,yAW]at hfl;have DY:I4[i*2]' Cd=.int .i64 r:=by
      exact yc
     by_cases hge:fm<=r
     .rw[yAJ hge]at hlw;rw[hlw]at hms;rw[hms]at hfl;obtain⟨cH,dH⟩:=gn (σ.set (tW d s g) (.row 89 2 0 (jD (kL (mI fm b) (i+1) y.aR))));have c1:oL.length<=cH.length:=by rw[<-dH,yAD];exact jK
      have c2:∀(id:Nat) (x:aA),(0<y.aR.length->id≠tW d s g)->oL[id]?=some x->cH[id]?=some x:=λid x h hx=>by rw[<-dH,yAd (yAU (h Cd))];exact cE id x h hx
      have c3:0<y.aR.length->cH[tW d s g]?=some (.row 89 2 0 (jD (kL (mI fm b) (i+1) y.aR))):=λ_=>by rw[<-dH];exact yAj rT
      rcases hal with rfl|rfl
      .refine aC Bp ?_;refine bU.normal (m-1) Cd (by refine⟨i+1,true,cH,?_⟩;exact fU (⟨Cd,c1,c2,c3,by rw[hany,<-yDV,<-j7];rfl⟩) @dH)
      .by_cases he:r=fm
       .subst he;refine aC Bp ?_;refine bU.normal (m-1) Cd (by refine⟨i+1,true,cH,?_⟩;exact fU (⟨Cd,c1,c2,c3,by rw[hany];simp⟩) @dH)
       .refine aC Bz ?_;refine bU.normal (m-1) Cd (by refine⟨i+1,false,cH,?_⟩;exact fU (⟨Cd,c1,c2,c3,by rw[hany,<-yDV,<-j7];simp[he]⟩) @dH)
     .have he:¬r=fm:=by omega
      rw[yAI hge]at hlw;have hmx:jD (kL (mI fm b) (i+1) y.aR)=I4:=by rw[<-RG,<-aGH (mI fm b) i y.aR hi4 (by rw[hlw];exact hself.symm)]
      have c3:0<y.aR.length->σ[tW d s g]?=some (.row 89 2 0 (jD (kL (mI fm b) (i+1) y.aR))):=λ_=>by rw[hmx];exact vt
      rcases hal with rfl|rfl
      .refine aC Bp ?_;refine bU.normal (m-1) Cd (by refine⟨i+1,true,σ,?_⟩;exact cL (⟨Cd,jK,cE,c3,by rw[hany,<-yDV,<-j7];rfl⟩))
      .refine aC Bz ?_;refine bU.normal (m-1) Cd (by refine⟨i+1,false,σ,?_⟩;exact cL (⟨Cd,jK,cE,c3,by rw[hany,<-yDV,<-j7];simp[he]⟩))
    .have q1:¬(i:Int)<(y.aR.length:Int):=by omega
     refine aC q1 ?_;have hft:y.aR.take i=y.aR:=yAz Cd;have hmx:kL (mI fm b) i y.aR=y.aR.map (mI fm b):=by unfold kL;rw[hft,yAs Cd,yAl]
     rw[hmx]at sV;rw[hft]at j7;have nY:=rD.step hO hlo z7 hi (show s<o.aD[d].stops.length by omega) hgL jK (by rw[hyl hgL];exact cE) (by rw[hyl hgL];exact sV);rw[hyl hgL,<-j7]at nY;have hN:=nY.congr (Q:=λa b c=>a<d\/(a=d/\(b<s\/(b=s/\c<g+1)))) λa b c h k l=>Cd
     refine bU.normal (M3-1) Cd (by refine⟨g+1,hs,σ,?_⟩;exact cL (⟨Cd,hN⟩))
   .have q1:¬(g:Int)<(w.aO.length:Int):=by omega
    refine aC q1 ?_;have hN:=vQ.congr (Q:=λa b _=>a<d\/(a=d/\b<s+1)) λa b c h k l=>by
     exact gq
    refine bU.normal (M2-1) Cd (by refine⟨s+1,hs,σ,?_⟩;exact cL (⟨Cd,hN⟩))
  .have q1:¬(s:Int)<(z.stops.length:Int):=by omega
   refine aC q1 ?_;have hN:=GF.congr (Q:=λa _ _=>a<d+1) λa b c h k _=>by
    exact kz
   refine bU.normal (M-1) Cd (by refine⟨d+1,hs,σ,?_⟩;exact cL (⟨Cd,hN⟩))
 .have q1:¬(d:Int)<(o.aD.length:Int):=by omega
  refine aC q1 ?_;have hT:=hI.congr (Q:=λ_ _ _=>True) λa b c h _ _=>Co
  have hF:=hO.YU hT;exact⟨_,_,rfl,hs,rfl,hF.1,hF.2,lO▸hT.len,hT.low,λid x ht hx=>hT.aM id x (λcs e=>ht _ _ _ e) hx⟩
end
end Go.Kz
