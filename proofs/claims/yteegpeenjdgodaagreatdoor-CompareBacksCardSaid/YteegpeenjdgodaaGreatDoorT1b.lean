/- Steps of the proof. -/
import Derived.Test.YteegpeenjdgodaaGreatDoorT1
set_option linter.all false
set_option maxHeartbeats 40000000
set_option maxRecDepth 100000
open Go.Proofs.Tryz
namespace Go.Kz
open Go Go.Proofs
section
def dR(n way index:Int):Int×Bool:=
 if way=0/\index<=n then(n+1,true)
 else if way=1/\n=index then(n,false)
 else if way=1/\index<n then(n-1,true)
 else(n,true)
def Em.aNO:Em (Int×Bool):=.p7 i64 .bool
def uE(way index:Int)(w:dQ):dQ:=⟨(dR w.aN way index).1,w.shift⟩
def okW(way index:Int)(w:dQ):Bool:=(dR w.aN way index).2
structure q8 (aV σ1:List aA) (lo:Nat) (o:aY) (tW:Nat->Nat->Nat->Nat) (way index:Int) (P:Nat->Nat->Nat->Prop):Prop where
 len:aV.length<=σ1.length
 low:∀id,id<lo->σ1[id]?=aV[id]?
 aM:∀(id:Nat) (x:aA),(∀cs,x≠.row 89 2 0 cs)->aV[id]?=some x->σ1[id]?=some x
 done:∀d s g (h:d<o.aD.length) (k:s<o.aD[d].stops.length) (l:g<o.aD[d].stops[s].aO.length),P d s g->(∀w∈o.aD[d].stops[s].aO[g].aR,okW way index w=true)/\(0<o.aD[d].stops[s].aO[g].aR.length->σ1[tW d s g]?=some (.row 89 2 0 (jD (o.aD[d].stops[s].aO[g].aR.map (uE way index)))))
 rest:∀d s g (h:d<o.aD.length) (k:s<o.aD[d].stops.length) (l:g<o.aD[d].stops[s].aO.length),¬P d s g->0<o.aD[d].stops[s].aO[g].aR.length->σ1[tW d s g]?=some (.row 89 2 0 (jD o.aD[d].stops[s].aO[g].aR))
theorem q8.app{aV σ1:Jj}{lo:Nat}{o:aY}{tW:Nat->Nat->Nat->Nat}{way index:Int}{P:Nat->Nat->Nat->Prop}(h:q8 aV σ1 lo o tW way index P)(hl:lo<=aV.length)(L:List aA):q8 aV (σ1++L) lo o tW way index P:=by
 obtain⟨h1,h2,h3,h4,h5⟩:=h;exact⟨by rw[yAa];omega,λid hi=>by rw[yAg Cd];exact h2 id hi,λid x hx h=>bR (h3 id x hx h),λd s g h k l hp=>⟨(h4 d s g h k l hp).1,λq=>bR ((h4 d s g h k l hp).2 q)⟩,λd s g h k l hp q=>bR (h5 d s g h k l hp q)⟩
theorem q8.congr{aV σ1:Jj}{lo:Nat}{o:aY}{tW:Nat->Nat->Nat->Nat}{way index:Int}{P Q:Nat->Nat->Nat->Prop}(h:q8 aV σ1 lo o tW way index P)(hq:∀d s g (h:d<o.aD.length) (k:s<o.aD[d].stops.length) (l:g<o.aD[d].stops[s].aO.length),P d s g↔Q d s g):q8 aV σ1 lo o tW way index Q:=by
 obtain⟨h1,h2,h3,h4,h5⟩:=h;exact⟨h1,h2,h3,λd s g h k l hp=>h4 d s g h k l ((hq d s g h k l).2 hp),λd s g h k l hp q=>h5 d s g h k l (λx=>hp ((hq d s g h k l).1 x)) q⟩
theorem jC.draw{aV:Jj}{lo:Nat}{o:aY}{p:PD}{iR iD iC:Nat}{ds:Jh}{tS:Nat->Nat}{tss:Jg}{tG:Nat->Nat->Nat}{tgs:Jf}{tW:Nat->Nat->Nat->Nat}(hO:jC aV lo o p iR iD iC ds tS tss tG tgs tW){d s g:Nat}(h:d<o.aD.length)(k:s<o.aD[d].stops.length)(l:g<o.aD[d].stops[s].aO.length)(hp:0<o.aD[d].stops[s].aO[g].aR.length):lo<=tW d s g/\aV[tW d s g]?=some (.row 89 2 0 (jD o.aD[d].stops[s].aO[g].aR)):=
 ((((hO.at_ d h).2.at_ s k).2.at_ g l).2) hp
theorem q8.start{aV:Jj}{lo:Nat}{o:aY}{p:PD}{iR iD iC:Nat}{ds:Jh}{tS:Nat->Nat}{tss:Jg}{tG:Nat->Nat->Nat}{tgs:Jf}{tW:Nat->Nat->Nat->Nat}{way index:Int}(hO:jC aV lo o p iR iD iC ds tS tss tG tgs tW):q8 aV aV lo o tW way index (λ_ _ _=>False):=
 ⟨yAk _,λ_ _=>rfl,λ_ _ _ h=>h,λ_ _ _ _ _ _ h=>h.elim,λ_ _ _ h k l _ hp=>(hO.draw h k l hp).2⟩
theorem q8.step{aV σ1 σ2:Jj}{lo:Nat}{o:aY}{p:PD}{iR iD iC:Nat}{ds:Jh}{tS:Nat->Nat}{tss:Jg}{tG:Nat->Nat->Nat}{tgs:Jf}{tW:Nat->Nat->Nat->Nat}{way index:Int}{P:Nat->Nat->Nat->Prop}(hO:jC aV lo o p iR iD iC ds tS tss tG tgs tW)(hl:lo<=aV.length)(hI:q8 aV σ1 lo o tW way index P)
  {d s g:Nat} (h:d<o.aD.length) (k:s<o.aD[d].stops.length) (l:g<o.aD[d].stops[s].aO.length)
  (hlen:σ1.length<=σ2.length) (hk:∀(id:Nat) (x:aA),(0<o.aD[d].stops[s].aO[g].aR.length->id≠tW d s g)->σ1[id]?=some x->σ2[id]?=some x)
  (hok:∀w∈o.aD[d].stops[s].aO[g].aR,okW way index w=true) (hrow:0<o.aD[d].stops[s].aO[g].aR.length->σ2[tW d s g]?=some (.row 89 2 0 (jD (o.aD[d].stops[s].aO[g].aR.map (uE way index))))) :
  q8 aV σ2 lo o tW way index (λa b c=>P a b c\/(a=d/\b=s/\c=g)):=by
 obtain⟨h1,h2,h3,h4,h5⟩:=hI;refine⟨Cd,λid hi=>?_,λid x hx hi=>?_,λa b c ha hb hc hp=>?_,λa b c ha hb hc hp hq=>?_⟩
 .exact oq
 .exact ot
 .by_cases e:a=d/\b=s/\c=g
  .obtain⟨rfl,rfl,rfl⟩:=e;exact⟨hok,hrow⟩
  .have hp':=hp.resolve_right e;refine⟨(h4 a b c ha hb hc hp').1,λhq=>hk _ _ (λhr e2=>e ?_) ((h4 a b c ha hb hc hp').2 hq)⟩;exact hO.MB a d b s c g ha h hb k hc l hq hr e2
 .exact ny
variable{E E0:aE}(hU:aJ E)
include hU
theorem aMP(h0:E 111=none)(n way index:Int)(hn:-1000000000<=n/\n<=1000000000):aI prog E 111 [i64.aB n,i64.aB way,i64.aB index] (.aH [.int .i64 (dR n way index).1,.bool (dR n way index).2]):=by
 by_cases w0:way=0
 .subst w0
  by_cases c:index<=n
  .have e:dR n 0 index=(n+1,true):=by simp[dR,c]
   exact Bc
  .have e:dR n 0 index=(n,true):=by simp[dR,c]
   exact Bc
 by_cases w1:way=1
 .subst w1
  by_cases c:n=index
  .subst c;have e:dR n 1 n=(n,false):=by simp[dR]
   rw[e];refine aI.aG 38 h0 func111 (h:=?_);refine aC trivial ?_;exact cg
  by_cases d:index<n
  .have e:dR n 1 index=(n-1,true):=by simp[dR,c,d]
   exact Ba
  .have e:dR n 1 index=(n,true):=by simp[dR,c,d]
   exact Ba
 have e:dR n way index=(n,true):=by simp[dR,w0,w1]
 rw[e];refine aI.aG 38 h0 func111 (h:=?_);refine aC (A2 w0 w1) ?_;exact cg
end
def wY(way index:Int)(g:jE):jE:={ g with aR:=g.aR.map (uE way index) }
def sM(way index:Int)(s:cO):cO:={ s with aO:=s.aO.map (wY way index) }
def oY(way index:Int)(d:bO):bO:={ d with stops:=d.stops.map (sM way index) }
def eY(way index:Int)(o:aY):aY:={ o with aD:=o.aD.map (oY way index) }
def sK(way index:Int)(o:aY):Prop:=∀d∈o.aD,∀s∈d.stops,∀g∈s.aO,∀w∈g.aR,okW way index w=true
theorem jC.YU{aV σ1:Jj}{lo:Nat}{o:aY}{p:PD}{iR iD iC:Nat}{ds:Jh}{tS:Nat->Nat}{tss:Jg}{tG:Nat->Nat->Nat}{tgs:Jf}{tW:Nat->Nat->Nat->Nat}{way index:Int}(hO:jC aV lo o p iR iD iC ds tS tss tG tgs tW)(hI:q8 aV σ1 lo o tW way index (λ_ _ _=>True)) :
  sK way index o/\jC σ1 lo (eY way index o) p iR iD iC ds tS tss tG tgs tW:=by
 have hk:∀ {id:Nat} {t:TypeId} {n v:Nat} {cs:Jk},t≠89->aV[id]?=some (.row t n v cs)->σ1[id]?=some (.row t n v cs):=λht h=>hI.aM _ _ (λcs e=>ht (aA.row.inj e).1) h
 refine⟨λd hd s hs g hg w hw=>?_,?_⟩
 .obtain⟨a,ha,rfl⟩:=yBT hd;obtain⟨b,hb,rfl⟩:=yBT hs;obtain⟨c,hc,rfl⟩:=yBT hg;exact(hI.done a b c ha hb hc trivial).1 w hw
 obtain⟨h1,h2,h3,h4,h5,h6,h7,h8⟩:=hO;refine⟨?_,λh=>⟨(h2 h).1,hk Ch (h2 h).2⟩,λh=>⟨(h3 h).1,hk Ch (h3 h).2⟩,by simp[eY,h4],λh=>⟨(h5 He).1,hk Ch (h5 He).2⟩,λd h=>?_,λd d' h h' p q=>?_,λd d' s s' g g' h h' k k' l l' p q=>?_⟩
 .rw[h1];simp[eY]
 .have h':d<o.aD.length:=by simpa [eY]using h
  obtain⟨e1,e2⟩:=h6 d h';simp only[eY,yBp,oY,yAe];refine⟨e1,Ce,by simp[e2.len],λhp=>⟨(e2.row Es).1,hk Ch (e2.row Es).2⟩,λs k=>?_,λs s' g g' k k' l l' p q=>?_⟩
  .have k':s<o.aD[d].stops.length:=by simpa using k
   obtain⟨f1,f2⟩:=e2.at_ s k';simp only[yBp,sM,yAe];refine⟨f1,Ce,by simp[f2.len],λhp=>⟨(f2.row Es).1,hk Ch (f2.row Es).2⟩,λg l=>?_,λg g' l l' p q=>?_⟩
   .have l':g<o.aD[d].stops[s].aO.length:=by simpa using l
    obtain⟨q1,q2⟩:=f2.at_ g l';simp only[yBp,wY,yAe];refine⟨q1,λhp=>?_⟩;have hp':0<o.aD[d].stops[s].aO[g].aR.length:=Es;exact⟨(q2 hp').1,(hI.done d s g h' k' l' trivial).2 hp'⟩
   .simp only[yBp,wY,yAe]at p q;exact f2.inj g g' (by simpa using l) (by simpa using l') p q
  .simp only[yBp,sM,wY,yAe]at p q;exact e2.inj s s' g g' (by simpa using k) (by simpa using k') (by simpa [sM]using l) (by simpa [sM]using l') p q
 .simp only[eY,yBp,oY,yAe]at p q;exact h7 d d' He (by simpa [eY]using h') p q
 .simp only[eY,yBp,oY,sM,wY,yAe]at p q;exact h8 d d' s s' g g' He (by simpa [eY]using h') (by simpa [eY,oY]using k) (by simpa [eY,oY]using k') (by simpa [eY,oY,sM]using l) (by simpa [eY,oY,sM]using l') p q
section
theorem zY(k id n:Nat){t:TypeId}{e:TypeId}(ht:prog.underlying t=some (.slice e)):gF prog .len #[t] [hd k id n]=some (.int .i64 n):=by
 unfold hd;split
 .exact tq
 .simp[gF,ht]
theorem qG{k id n:Nat}(h:0<n):hd k id n=.aP id 0 0 n k:=by unfold hd;rw[yAI Cd]
def sW(way index:Int)(i:Nat)(l:List dQ):List dQ:=(l.take i).map (uE way index)++l.drop i
theorem RF(way index:Int)(i:Nat)(l:List dQ):(sW way index i l).length=l.length:=by
 unfold sW;rw[yAa,yAe,yAt,yBa];omega
theorem aOh(way index:Int)(i:Nat)(l:List dQ)(h:i<l.length):(sW way index i l)[i]'(by rw[RF];exact h)=l[i]:=by
 unfold sW;exact jx
theorem aOi(way index:Int)(i:Nat)(l:List dQ)(h:i<l.length):(sW way index i l).set i (uE way index l[i])=sW way index (i+1) l:=by
 unfold sW;exact kg
theorem aEL(l:List dQ):(jD l).length=l.length*2:=by
 unfold jD;rw[lA (sz:=2) _ (λg h=>Fe),yAe]
theorem aEM(l:List dQ)(i:Nat)(h:i<l.length):((jD l).drop (i*2)).take 1=[.int .i64 l[i].aN]:=by
 have h1:=qX (sz:=2) (l.map λw=>[PD.int .i64 w.aN,.int .i64 w.shift]) i Eb (λg h=>Fe);rw[yBp]at h1;unfold jD;have h2:=yAL (List.take 1) h1;rw[yCp]at h2;exact h2
theorem aEN(l:List dQ)(i:Nat)(h:i<l.length)(r:Int):dL (jD l) (i*2) [.int .i64 r]=jD (l.set i ⟨r,l[i].shift⟩):=by
 have h1:=w8 (sz:=2) (new:=[.int .i64 r]) (j:=0) Ce (l.map λw=>[PD.int .i64 w.aN,.int .i64 w.shift]) i Eb (λg h=>Fe);rw[yBp,yBk]at h1;unfold jD;rw[h1,yCS];rfl
variable{E E0:aE}(hU:aJ E)
include hU
theorem aNP{gM:Je}(h0:E 81=none)(h1:E 111=some gM)(way index:Int)
  (hM:∀n,-1000000000<=n/\n<=1000000000->∀fl σ,gM fl [.int .i64 n,.int .i64 way,.int .i64 index] σ=some (.aH [.int .i64 (dR n way index).1,.bool (dR n way index).2],σ))
  (o:aY) (p:PD) (aV:List aA) (lo iR iD iC:Nat) (ds:List (List PD)) (tS:Nat->Nat) (tss:Nat->List (List PD)) (tG:Nat->Nat->Nat) (tgs:Nat->Nat->List (List PD)) (tW:Nat->Nat->Nat->Nat) (hO:jC aV lo o p iR iD iC ds tS tss tG tgs tW) (hlo:lo<=aV.length) (ho:fX o)
  (hb:∀d∈o.aD,∀s∈d.stops,∀g∈s.aO,∀w∈g.aR,-1000000000<=w.aN/\w.aN<=1000000000) (hw:-1000000000<=way/\way<=1000000000) :
  aK prog E 0 (.inl 81) [p,.int .i64 way,.int .i64 index] aV (λq σ'=>∃b:Bool,q=.bool b/\(b=true->sK way index o/\jC σ' lo (eY way index o) p iR iD iC ds tS tss tG tgs tW/\aV.length<=σ'.length/\∀id,id<lo->σ'[id]?=aV[id]?)/\(b=false->¬sK way index o/\aV.length<=σ'.length/\∀id,id<lo->σ'[id]?=aV[id]?)):=by
 have hp:=hO.p;subst hp;obtain⟨hR,hhR⟩:=gn (Go.Kz.hd 6 iR o.aQ.length);obtain⟨hD,hhD⟩:=gn (Go.Kz.hd 5 iD o.aD.length);obtain⟨hC,hhC⟩:=gn (Go.Kz.hd 5 iC o.aL.length);have lD:=zY 5 iD o.aD.length underlying32;have pR:hR.plain=true:=Cu;have pD:hD.plain=true:=Cv;have pC:hC.plain=true:=Cw;unfold PD.plain at pR pD pC;simp only[hhR,hhD,hhC]at hO lD ⊢;simp[gF,underlying32]at lD;obtain⟨L0,lO⟩:=gn (aV.length);refine aK.aG 67 h0 func81 (h:=?_);apply WL.tI Cj;apply SL.box (p:=.agg [.str o.name,hR,hD,hC]) (hw:=Wt.i rfl) (hx:=rfl) (hp:=Gv) (hr:=Ns.i rfl) (hn:=Ns.i rfl) (hf:=Fr.i rfl);refine oQ lD ?_;apply SQ.nil;refine aC (A2 lD lO) ?_;rw[lO];have hst:=(q8.start (way:=way) (index:=index) hO).app hlo [aA.box (.agg [.str o.name,hR,hD,hC])];refine Wp.dW (λm fr σ=>∃(d:Nat) (σ1:List aA),∃gg:Nat->PD,(d+m=o.aD.length/\q8 aV σ1 lo o tW way index (λa _ _=>a<d))/\fr=gg 0::.int .i64 way::.int .i64 index::gg 3::gg 4::gg 5::.bool false::gg 7::gg 8::gg 9::gg 10::gg 11::gg 12::gg 13::gg 14::gg 15::gg 16::hD::.int .i64 o.aD.length::.int .i64 d::gg 20::gg 21::gg 22::gg 23::gg 24::gg 25::gg 26::gg 27::gg 28::gg 29::gg 30::gg 31::gg 32::gg 33::gg 34::gg 35::gg 36::gg 37::gg 38::gg 39::gg 40::gg 41::gg 42::gg 43::gg 44::gg 45::gg 46::gg 47::gg 48::gg 49::gg 50::gg 51::gg 52::gg 53::gg 54::gg 55::gg 56::gg 57::gg 58::gg 59::gg 60::gg 61::gg 62::gg 63::gg 64::gg 65::gg 66::[]/\σ=σ1) ?_ (o.aD.length) (by refine⟨0,(aV++[aA.box (.agg [.str o.name,hR,hD,hC])]),?_⟩;exact fU (⟨Cd,hst.congr λa b c _ _ _=>Ce⟩) @lO)
 rintro m fr σ ⟨d,σ1,gg,hI,rfl,rfl⟩
 obtain⟨hm,hI⟩:=hI;have hod:=ho.2.1.1
 by_cases hi:d<o.aD.length
 .have hzo:=ho.2.1.2 _ (yAm hi);have q1:(d:Int)<(o.aD.length:Int):=Cd;have hDr:hD=.aP iD 0 0 o.aD.length 5:=by rw[<-hhD];exact qG Cd
  have v2:=hI.aM _ _ (λcs e=>absurd (aA.row.inj e).1 Ch) (hO.row Cd).2;obtain⟨e1,e2⟩:=hO.at_ d hi;have gP:∀g∈ds,g.length=5:=λg h=>by
   exact ir
  have hat:=qX (sz:=5) ds d Ix gP;have hlen:=lA (sz:=5) ds gP;rw[(yA.1 e1).2]at hat;obtain⟨fs,hfs⟩:=gn (ds.flatten);rw[hfs]at v2 hlen hat;obtain⟨z,hz⟩:=gn (o.aD[d]);rw[hz]at hat e2 hzo;have hos:=hzo.1;obtain⟨r2,y2⟩:=yA.1 v2;have fJ:d*5+5<=fs.length:=Iy;have xk:jH prog 32 (.aP iD 0 0 o.aD.length 5) (.int .i64 d)=some (.dM iD 0 (d*5)):=by
   simp[jV,hi]
  obtain⟨hS,hhS⟩:=gn (Go.Kz.hd 4 (tS d) z.stops.length);have pS:hS.plain=true:=Fy;have cS:hS.cells=[hS]:=Fz;have lS:=zY 4 (tS d) z.stops.length underlying51;unfold PD.plain at pS;unfold PD.cells at cS;rw[hhS]at hat lS;simp[gF,underlying51]at lS;have j0:∀x:aA,(σ++[x])[σ.length]?=some x:=λx=>Ce
  rw[hDr];refine aC (A12 q1 hi xk @v2 r2 y2 fJ hat j0 pS cS lS) ?_;have MA:=hI.app hlo [aA.box (.agg [.str z.name,.bool z.dV,.int .i64 z.low,.int .i64 z.high,hS])];obtain⟨M,YO⟩:∃M,M=m:=⟨_,rfl⟩;rw[<-YO]at hm ⊢;obtain⟨YP,YQ⟩:=gn (σ++[aA.box (.agg [.str z.name,.bool z.dV,.int .i64 z.low,.int .i64 z.high,hS])]);rw[YQ]at MA ⊢;have hsl:z.stops.length=o.aD[d].stops.length:=by rw[hz]
  refine Wp.dW (λm fr σ=>∃(s:Nat) (σ1:List aA),∃gg:Nat->PD,(s+m=z.stops.length/\q8 aV σ1 lo o tW way index (λa b _=>a<d\/(a=d/\b<s)))/\fr=gg 0::.int .i64 way::.int .i64 index::gg 3::gg 4::gg 5::.bool false::gg 7::gg 8::gg 9::gg 10::gg 11::gg 12::gg 13::gg 14::gg 15::gg 16::.aP iD 0 0 o.aD.length 5::.int .i64 o.aD.length::.int .i64 d::gg 20::gg 21::gg 22::gg 23::hS::.int .i64 z.stops.length::.int .i64 s::gg 27::gg 28::gg 29::gg 30::gg 31::gg 32::gg 33::gg 34::gg 35::gg 36::gg 37::gg 38::gg 39::gg 40::gg 41::gg 42::gg 43::gg 44::gg 45::gg 46::gg 47::gg 48::gg 49::gg 50::gg 51::gg 52::gg 53::gg 54::gg 55::gg 56::gg 57::gg 58::gg 59::gg 60::gg 61::gg 62::gg 63::gg 64::gg 65::gg 66::[]/\σ=σ1) ?_ (z.stops.length) (by refine⟨0,YP,?_⟩;exact cL (⟨Cd,MA.congr λa b c _ _ _=>Ce⟩))
  rintro m fr σ ⟨s,σ1,gg,hI,rfl,rfl⟩
  obtain⟨hm2,GF⟩:=hI
  by_cases hi2:s<z.stops.length
  .have q1:(s:Int)<(z.stops.length:Int):=by omega
   have hwo:=hzo.2 _ (yAm hi2);have hSr:hS=.aP (tS d) 0 0 z.stops.length 4:=by rw[<-hhS];exact qG Cd
   have v2:=GF.aM _ _ (λcs e=>absurd (aA.row.inj e).1 Ch) (e2.row Cd).2;obtain⟨f1,f2⟩:=e2.at_ s hi2;have gP:∀g∈tss d,g.length=4:=λg h=>by
    exact Aw
   have hat:=qX (sz:=4) (tss d) s (by rw[e2.len];exact hi2) gP;have hlen:=lA (sz:=4) (tss d) gP;rw[(yA.1 f1).2]at hat;obtain⟨fs,hfs⟩:=gn ((tss d).flatten);rw[hfs]at v2 hlen hat;obtain⟨w,oK⟩:=gn (z.stops[s]);rw[oK]at hat f2 hwo;have hog:=hwo.1;obtain⟨r2,y2⟩:=yA.1 v2;have fJ:s*4+4<=fs.length:=by rw[hlen,e2.len];omega
   have xk:jH prog 51 (.aP (tS d) 0 0 z.stops.length 4) (.int .i64 s)=some (.dM (tS d) 0 (s*4)):=by
    simp[jV,hi2]
   obtain⟨hG,hhG⟩:=gn (Go.Kz.hd 3 (tG d s) w.aO.length);have pG:hG.plain=true:=by rw[<-hhG];exact fN _ _ _
   have cG:hG.cells=[hG]:=by rw[<-hhG];exact kY _ _ _
   have lG:=zY 3 (tG d s) w.aO.length underlying54;unfold PD.plain at pG;unfold PD.cells at cG;rw[hhG]at hat lG;simp[gF,underlying54]at lG;have j0:∀x:aA,(σ++[x])[σ.length]?=some x:=λx=>Ce
   rw[hSr];refine aC (A12 q1 hi2 xk @v2 r2 y2 fJ hat j0 pG cG lG) ?_;have vQ:=GF.app hlo [aA.box (.agg [.str w.name,.int .i64 w.num,.int .i64 w.den,hG])];obtain⟨M2,zZ⟩:∃M,M=m:=⟨_,rfl⟩;rw[<-zZ]at hm2 ⊢;obtain⟨YR,oU⟩:=gn (σ++[aA.box (.agg [.str w.name,.int .i64 w.num,.int .i64 w.den,hG])]);rw[oU]at vQ ⊢;have hgl:∀(h:s<o.aD[d].stops.length),w.aO.length=o.aD[d].stops[s].aO.length:=λh=>by subst hz;rw[<-oK]
   refine Wp.dW (λm fr σ=>∃(g:Nat) (σ1:List aA),∃gg:Nat->PD,(g+m=w.aO.length/\q8 aV σ1 lo o tW way index (λa b c=>a<d\/(a=d/\(b<s\/(b=s/\c<g)))))/\fr=gg 0::.int .i64 way::.int .i64 index::gg 3::gg 4::gg 5::.bool false::gg 7::gg 8::gg 9::gg 10::gg 11::gg 12::gg 13::gg 14::gg 15::gg 16::.aP iD 0 0 o.aD.length 5::.int .i64 o.aD.length::.int .i64 d::gg 20::gg 21::gg 22::gg 23::.aP (tS d) 0 0 z.stops.length 4::.int .i64 z.stops.length::.int .i64 s::gg 27::gg 28::gg 29::gg 30::hG::.int .i64 w.aO.length::.int .i64 g::gg 34::gg 35::gg 36::gg 37::gg 38::gg 39::gg 40::gg 41::gg 42::gg 43::gg 44::gg 45::gg 46::gg 47::gg 48::gg 49::gg 50::gg 51::gg 52::gg 53::gg 54::gg 55::gg 56::gg 57::gg 58::gg 59::gg 60::gg 61::gg 62::gg 63::gg 64::gg 65::gg 66::[]/\σ=σ1) ?_ (w.aO.length) (by refine⟨0,YR,?_⟩;exact cL (⟨Cd,vQ.congr λa b c _ _ _=>Ce⟩))
   rintro m fr σ ⟨g,σ1,gg,hI,rfl,rfl⟩
   obtain⟨YS,vQ⟩:=hI
   by_cases qY:g<w.aO.length
   .have q1:(g:Int)<(w.aO.length:Int):=by omega
    have how:=hwo.2 _ (yAm qY);have hGr:hG=.aP (tG d s) 0 0 w.aO.length 3:=by rw[<-hhG];exact qG Cd
    have v2:=vQ.aM _ _ (λcs e=>absurd (aA.row.inj e).1 Ch) (f2.row Cd).2;obtain⟨k1,k2⟩:=f2.at_ g qY;have gP:∀x∈tgs d s,x.length=3:=λx h=>by
     exact At
    have hat:=qX (sz:=3) (tgs d s) g (by rw[f2.len];exact qY) gP;have hlen:=lA (sz:=3) (tgs d s) gP;rw[(yA.1 k1).2]at hat;obtain⟨fs,hfs⟩:=gn ((tgs d s).flatten);rw[hfs]at v2 hlen hat;obtain⟨y,pT⟩:=gn (w.aO[g]);rw[pT]at hat k2 how;have how':y.aR.length<=1000000:=how;obtain⟨r2,y2⟩:=yA.1 v2;have fJ:g*3+3<=fs.length:=by rw[hlen,f2.len];omega
    have xk:jH prog 54 (.aP (tG d s) 0 0 w.aO.length 3) (.int .i64 g)=some (.dM (tG d s) 0 (g*3)):=by
     simp[jV,qY]
    obtain⟨hW,hhW⟩:=gn (Go.Kz.hd 2 (tW d s g) y.aR.length);have pW:hW.plain=true:=by rw[<-hhW];exact fN _ _ _
    have cW:hW.cells=[hW]:=by rw[<-hhW];exact kY _ _ _
    have lW:=zY 2 (tW d s g) y.aR.length underlying90;unfold PD.plain at pW;unfold PD.cells at cW;rw[hhW]at hat lW;simp[gF,underlying90]at lW;have j0:∀x:aA,(σ++[x])[σ.length]?=some x:=λx=>Ce
    rw[hGr];refine aC (A12 q1 qY xk @v2 r2 y2 fJ hat j0 pW cW lW) ?_;have z7:=vQ.app hlo [aA.box (.agg [.int .i64 y.lo,.int .i64 y.hi,hW])];obtain⟨M3,YT⟩:∃M,M=m:=⟨_,rfl⟩;rw[<-YT]at YS ⊢;obtain⟨BG,hBG⟩:=gn (σ.length);have vG:(σ++[aA.box (.agg [.int .i64 y.lo,.int .i64 y.hi,hW])])[BG]?=some (.box (.agg [.int .i64 y.lo,.int .i64 y.hi,hW])):=by rw[<-hBG];exact j0 _
    obtain⟨oL,DW⟩:=gn (σ++[aA.box (.agg [.int .i64 y.lo,.int .i64 y.hi,hW])]);rw[DW]at z7 vG ⊢;rw[hBG];have hyo:o.aD[d].stops[s]' Cd=w:=by subst hz;exact oK
    have hyl:∀(h:g<(o.aD[d].stops[s]' Cd).aO.length),(o.aD[d].stops[s]' Cd).aO[g]=y:=λh=>by simp only[hyo];exact pT
    have hgL:g<(o.aD[d].stops[s]' Cd).aO.length:=by rw[hyo];exact qY
    have vT:0<y.aR.length->oL[tW d s g]?=some (.row 89 2 0 (jD y.aR)):=λhp=>by
     exact oz
    have hyM:y∈(o.aD[d].stops[s]' Cd).aO:=by rw[<-hyl hgL];exact yAm hgL
    have hby:∀x∈y.aR,-1000000000<=x.aN/\x.aN<=1000000000:=λx hx=>hb _ (yAm hi) _ (yAm (show s<o.aD[d].stops.length by omega)) y hyM x hx
    refine Wp.dW (λm fr σ=>∃(i:Nat) (σ1:List aA),∃gg:Nat->PD,(i+m=y.aR.length/\oL.length<=σ1.length/\(∀(id:Nat) (x:aA),(0<y.aR.length->id≠tW d s g)->oL[id]?=some x->σ1[id]?=some x)/\(0<y.aR.length->σ1[tW d s g]?=some (.row 89 2 0 (jD (sW way index i y.aR))))/\(∀x∈y.aR.take i,okW way index x=true))/\fr=gg 0::.int .i64 way::.int .i64 index::gg 3::gg 4::gg 5::.bool false::gg 7::gg 8::gg 9::gg 10::gg 11::.ptr BG 0::gg 13::gg 14::gg 15::gg 16::.aP iD 0 0 o.aD.length 5::.int .i64 o.aD.length::.int .i64 d::gg 20::gg 21::gg 22::gg 23::.aP (tS d) 0 0 z.stops.length 4::.int .i64 z.stops.length::.int .i64 s::gg 27::gg 28::gg 29::gg 30::.aP (tG d s) 0 0 w.aO.length 3::.int .i64 w.aO.length::.int .i64 g::gg 34::gg 35::gg 36::gg 37::hW::.int .i64 y.aR.length::.int .i64 i::gg 41::gg 42::gg 43::gg 44::gg 45::gg 46::gg 47::gg 48::gg 49::gg 50::gg 51::gg 52::gg 53::gg 54::gg 55::gg 56::gg 57::gg 58::gg 59::gg 60::gg 61::gg 62::gg 63::gg 64::gg 65::gg 66::[]/\σ=σ1) ?_ (y.aR.length) (by refine⟨0,oL,?_⟩;exact cL (⟨Cd,yAk _,λid x _ h=>h,vT,λx h=>Dw⟩))
    rintro m fr σ ⟨i,σ1,gg,hI,rfl,rfl⟩
    obtain⟨hm4,jK,cE,sV,j7⟩:=hI
    by_cases hi4:i<y.aR.length
    .have q1:(i:Int)<(y.aR.length:Int):=by omega
     have hWr:hW=.aP (tW d s g) 0 0 y.aR.length 2:=by rw[<-hhW];exact qG Cd
     have vt:=sV Cd;have vg:=cE BG _ (λh e=>Ik) vG;obtain⟨rT,yT⟩:=yA.1 vt;obtain⟨rG,yG⟩:=yA.1 vg;have hat:=aEM (sW way index i y.aR) i (by rw[RF];exact hi4);have hlen:=aEL (sW way index i y.aR);have hfl:=aEN (sW way index i y.aR) i (by rw[RF];exact hi4) (dR y.aR[i].aN way index).1;rw[RF]at hlen;rw[aOh way index i y.aR hi4]at hat hfl;have hms:=aOi way index i y.aR hi4;have hmw:uE way index y.aR[i]=⟨(dR y.aR[i].aN way index).1,y.aR[i].shift⟩:=rfl;rw[hmw]at hms;rw[hms]at hfl;have hMi:=hM _ (hby _ (yAm hi4));obtain⟨I4,RG⟩:=gn (jD (sW way index i y.aR));rw[RG]at vt hlen hat hfl yT;have vP:i*2+1<=I4.length:=Cd;have lN:jH prog 90 (.aP (tW d s g) 0 0 y.aR.length 2) (.int .i64 i)=some (.dM (tW d s g) 0 (i*2)):=by
      simp[jV,hi4]
     rw[hWr]at vg yG;rw[hWr];obtain⟨r,hr⟩:=gn (y.aR[i].aN);rw[hr]at hat hfl hMi;obtain⟨ok,hok⟩:=gn ((dR r way index).2);obtain⟨nr,hnr⟩:=gn ((dR r way index).1);rw[hok,hnr]at hMi;rw[hnr]at hfl;simp only[dL,yAT,yAO,yAp,Nat.reduceAdd,yBW,yAi,yBt,yAW]at hfl;have DY:I4[i*2]' Cd=.int .i64 r:=by
      exact yc
     have hokw:okW way index y.aR[i]=ok:=by rw[<-hok,<-hr];rfl
     cases ok with
     |true=>
      refine aC Bt ?_;have hto:∀x∈y.aR.take (i+1),okW way index x=true:=λx hx=>by
       rw[yBI hi4]at hx;rcases yBr.1 hx with hx|hx
       .exact j7 x hx
       .rw[yCt.1 hx];exact hokw
      obtain⟨cH,dH⟩:=gn (σ.set (tW d s g) (.row 89 2 0 (jD (sW way index (i+1) y.aR))));refine bU.normal (m-1) Cd (by refine⟨i+1,cH,?_⟩;exact fU (⟨Cd,by rw[<-dH,yAD];exact jK,λid x h hx=>by rw[<-dH,yAd (yAU (h Cd))];exact cE id x h hx,λ_=>by rw[<-dH];exact yAj rT,hto⟩) @dH)
     |false=>
      refine aC Bt ?_;refine⟨_,_,rfl,false,rfl,(λh=>Ck),λ_=>⟨λhx=>?_,yAQ (by rw[<-lO];exact z7.len) jK,λid hid=>?_⟩⟩
      .have hx1:=hx _ (yAm hi) _ (yAm (show s<o.aD[d].stops.length by omega)) y hyM _ (yAm hi4);rw[hokw]at hx1;cases hx1
      .have hlow:=z7.low id hid;have x9:id<aV.length:=Cd;have hx0:aV[id]?=some aV[id]:=yAh x9;have hdw:=(hO.draw hi (show s<o.aD[d].stops.length by omega) hgL (by rw[hyl hgL];omega)).1;rw[hx0]at hlow ⊢;exact cE id _ (λ_ e=>absurd hid (by rw[e];exact Nat.not_lt.2 hdw)) hlow
    .have q1:¬(i:Int)<(y.aR.length:Int):=by omega
     refine aC q1 ?_;have hft:y.aR.take i=y.aR:=yAz Cd;have hmx:sW way index i y.aR=y.aR.map (uE way index):=by unfold sW;rw[hft,yAs Cd,yAl]
     rw[hmx]at sV;rw[hft]at j7;have nY:=q8.step hO hlo z7 hi (show s<o.aD[d].stops.length by omega) hgL jK (by rw[hyl hgL];exact cE) (by rw[hyl hgL];exact j7) (by rw[hyl hgL];exact sV);have hN:=nY.congr (Q:=λa b c=>a<d\/(a=d/\(b<s\/(b=s/\c<g+1)))) λa b c h k l=>Cd
     refine bU.normal (M3-1) Cd (by refine⟨g+1,σ,?_⟩;exact cL (⟨Cd,hN⟩))
   .have q1:¬(g:Int)<(w.aO.length:Int):=by omega
    refine aC q1 ?_;have hN:=vQ.congr (Q:=λa b _=>a<d\/(a=d/\b<s+1)) λa b c h k l=>by
     exact gq
    refine bU.normal (M2-1) Cd (by refine⟨s+1,σ,?_⟩;exact cL (⟨Cd,hN⟩))
  .have q1:¬(s:Int)<(z.stops.length:Int):=by omega
   refine aC q1 ?_;have hN:=GF.congr (Q:=λa _ _=>a<d+1) λa b c h k _=>by
    exact kz
   refine bU.normal (M-1) Cd (by refine⟨d+1,σ,?_⟩;exact cL (⟨Cd,hN⟩))
 .have q1:¬(d:Int)<(o.aD.length:Int):=by omega
  refine aC q1 ?_;have hT:=hI.congr (Q:=λ_ _ _=>True) λa b c h _ _=>Co
  have hF:=hO.YU hT;exact⟨_,_,rfl,true,rfl,λ_=>⟨hF.1,hF.2,lO▸hT.len,hT.low⟩,λh=>Ck⟩
end
section
def rL(way index:Int)(c:cJ):cJ:={ c with dJ:=(dR c.dJ way index).1,dst:=(dR c.dst way index).1 }
def oX(way index:Int)(c:cJ):Bool:=(dR c.dJ way index).2&&(dR c.dst way index).2
def iZ(way index:Int)(o:aY):aY:={ o with aL:=o.aL.map (rL way index) }
def jL(l:List cJ):List PD:=(l.map λc=>[PD.str c.name,.int .i64 c.dJ,.int .i64 c.dst,.int .i64 c.shift,.bool c.qM]).flatten
theorem Q8(R:List cJ):(R.map Em.bF.aB).flatMap PD.cells=jL R:=by
 unfold jL
 induction R with
 |nil=>rfl
 |cons r R ih=>simp only[yAV,yBx,yBD,ih];rfl
def rR(way index:Int)(i:Nat)(l:List cJ):List cJ:=(l.take i).map (rL way index)++l.drop i
theorem I2(way index:Int)(i:Nat)(l:List cJ):(rR way index i l).length=l.length:=by
 unfold rR;rw[yAa,yAe,yAt,yBa];omega
theorem aOd(way index:Int)(i:Nat)(l:List cJ)(h:i<l.length):(rR way index i l)[i]'(by rw[I2];exact h)=l[i]:=by
 unfold rR;exact jx
theorem aOe(way index:Int)(i:Nat)(l:List cJ)(h:i<l.length):(rR way index i l).set i (rL way index l[i])=rR way index (i+1) l:=by
 unfold rR;exact kg
theorem Q9(l:List cJ):∀g∈(l.map λc=>[PD.str c.name,.int .i64 c.dJ,.int .i64 c.dst,.int .i64 c.shift,.bool c.qM]),g.length=5:=λg h=>Fe
theorem L8(l:List cJ):(jL l).length=l.length*5:=by
 unfold jL;rw[lA (sz:=5) _ (Q9 l),yAe]
theorem aEI(l:List cJ)(i:Nat)(h:i<l.length):((jL l).drop (i*5)).take 5=[.str l[i].name,.int .i64 l[i].dJ,.int .i64 l[i].dst,.int .i64 l[i].shift,.bool l[i].qM]:=by
 have h1:=qX (sz:=5) (l.map λc=>[PD.str c.name,.int .i64 c.dJ,.int .i64 c.dst,.int .i64 c.shift,.bool c.qM]) i Eb (Q9 l);rw[yBp]at h1;exact h1
theorem aEJ(l:List cJ)(i:Nat)(h:i<l.length)(r:Int):dL (jL l) (i*5+1) [.int .i64 r]=jL (l.set i { l[i]with dJ:=r }):=by
 have h1:=w8 (sz:=5) (new:=[.int .i64 r]) (j:=1) Ce (l.map λc=>[PD.str c.name,.int .i64 c.dJ,.int .i64 c.dst,.int .i64 c.shift,.bool c.qM]) i Eb (Q9 l);rw[yBp]at h1;unfold jL;rw[h1,yCS];rfl
theorem YN(l:List cJ)(i:Nat)(h:i<l.length)(r:Int):dL (jL l) (i*5+2) [.int .i64 r]=jL (l.set i { l[i]with dst:=r }):=by
 have h1:=w8 (sz:=5) (new:=[.int .i64 r]) (j:=2) Ce (l.map λc=>[PD.str c.name,.int .i64 c.dJ,.int .i64 c.dst,.int .i64 c.shift,.bool c.qM]) i Eb (Q9 l);rw[yBp]at h1;unfold jL;rw[h1,yCS];rfl
theorem mU.aOf{σ σ':Jj}{lo:Nat}{d:bO}{p:PD}{iS:Nat}{ss:Jh}{tG:Nat->Nat}{tgs:Jg}{tW:Nat->Nat->Nat}(T:TypeId)(h:mU σ lo d p iS ss tG tgs tW)(ht:56≠T/\92≠T/\89≠T)(hk:∀(id:Nat) (t:TypeId) (n v:Nat) (cs:List PD),t≠T->σ[id]?=some (.row t n v cs)->σ'[id]?=some (.row t n v cs)):mU σ' lo d p iS ss tG tgs tW:=by
 obtain⟨h1,h2,h3,h4,h5⟩:=h;refine⟨h1,h2,λhp=>⟨(h3 hp).1,hk _ _ _ _ _ ht.1 (h3 hp).2⟩,λs h=>⟨(h4 s h).1,?_⟩,h5⟩;obtain⟨k1,k2,k3,k4,k5⟩:=(h4 s h).2;exact⟨k1,k2,λhp=>⟨(k3 hp).1,hk _ _ _ _ _ ht.2.1 (k3 hp).2⟩,λg h=>⟨(k4 g h).1,λhp=>⟨((k4 g h).2 hp).1,hk _ _ _ _ _ ht.2.2 ((k4 g h).2 hp).2⟩⟩,k5⟩
variable{E E0:aE}(hU:aJ E)
include hU
theorem aNQ{gM:Je}(h0:E 83=none)(h1:E 111=some gM)(way index:Int)
  (hM:∀n,-1000000000<=n/\n<=1000000000->∀fl σ,gM fl [.int .i64 n,.int .i64 way,.int .i64 index] σ=some (.aH [.int .i64 (dR n way index).1,.bool (dR n way index).2],σ))
  (o:aY) (p:PD) (aV:List aA) (lo iR iD iC:Nat) (ds:List (List PD)) (tS:Nat->Nat) (tss:Nat->List (List PD)) (tG:Nat->Nat->Nat) (tgs:Nat->Nat->List (List PD)) (tW:Nat->Nat->Nat->Nat) (hO:jC aV lo o p iR iD iC ds tS tss tG tgs tW) (hlo:lo<=aV.length) (ho:fX o)
  (hb:∀c∈o.aL,(-1000000000<=c.dJ/\c.dJ<=1000000000)/\-1000000000<=c.dst/\c.dst<=1000000000) :
  aK prog E 0 (.inl 83) [p,.int .i64 way,.int .i64 index] aV (λq σ'=>∃b:Bool,q=.bool b/\(b=true->(∀c∈o.aL,oX way index c=true)/\jC σ' lo (iZ way index o) p iR iD iC ds tS tss tG tgs tW/\aV.length<=σ'.length/\∀id,id<lo->σ'[id]?=aV[id]?)/\(b=false->(¬ ∀c∈o.aL,oX way index c=true)/\aV.length<=σ'.length/\∀id,id<lo->σ'[id]?=aV[id]?)):=by
 have GD:aJ E/\True:=⟨hU,trivial⟩;clear hU;have hp:=hO.p;subst hp;obtain⟨hR,hhR⟩:=gn (Go.Kz.hd 6 iR o.aQ.length);obtain⟨hD,hhD⟩:=gn (Go.Kz.hd 5 iD o.aD.length);obtain⟨hC,hhC⟩:=gn (Go.Kz.hd 5 iC o.aL.length);have lC:=zY 5 iC o.aL.length underlying33;have pR:hR.plain=true:=Cu;have pD:hD.plain=true:=Cv;have pC:hC.plain=true:=Cw;unfold PD.plain at pR pD pC;simp only[hhR,hhD,hhC]at hO lC ⊢;simp[gF,underlying33]at lC;obtain⟨B,hB⟩:=gn (aV.length);refine aK.aG 56 h0 func83 (h:=?_);apply WL.tI Cj;apply SL.box (p:=.agg [.str o.name,hR,hD,hC]) (hw:=Wt.i rfl) (hx:=rfl) (hp:=Gv) (hr:=Ns.i rfl) (hn:=Ns.i rfl) (hf:=Fr.i rfl);refine oQ lC ?_;apply SQ.nil;refine aC (A2 lC hB) ?_;have hoc:=ho.2.2;have aVR:o.aL.length<=1000000:=hoc;obtain⟨ρ,hρ⟩:=gn (aV++[aA.box (.agg [.str o.name,hR,hD,hC])]);rw[hρ,hB];have vB:ρ[B]?=some (.box (.agg [.str o.name,hR,hD,hC])):=by rw[<-hρ,<-hB];simp
 have RA:∀(id:Nat) (x:aA),aV[id]?=some x->ρ[id]?=some x:=λid x h=>by rw[<-hρ];exact bR h
 have lρ:ρ.length=B+1:=by rw[<-hρ,yAa,hB];rfl
 have vC:0<o.aL.length->ρ[iC]?=some (.row 58 5 0 (jL o.aL)):=λh=>by rw[<-Q8];exact RA _ _ (hO.bF h).2
 refine Wp.dW (λm fr σ=>∃(i:Nat) (σ1:List aA),∃gg:Nat->PD,(i+m=o.aL.length/\ρ.length<=σ1.length/\(∀(id:Nat) (x:aA),(0<o.aL.length->id≠iC)->ρ[id]?=some x->σ1[id]?=some x)/\(0<o.aL.length->σ1[iC]?=some (.row 58 5 0 (jL (rR way index i o.aL))))/\(∀x∈o.aL.take i,oX way index x=true))/\fr=[gg 0,.int .i64 way,.int .i64 index,.ptr B 0,gg 4,gg 5,.bool false,gg 7,gg 8,gg 9,gg 10,gg 11,gg 12,gg 13,hC,.int .i64 o.aL.length,.int .i64 i,gg 17,gg 18,gg 19,gg 20,gg 21,gg 22,gg 23,gg 24,gg 25,gg 26,gg 27,gg 28,gg 29,gg 30,gg 31,gg 32,gg 33,gg 34,gg 35,gg 36,gg 37,gg 38,gg 39,gg 40,gg 41,gg 42,gg 43,gg 44,gg 45,gg 46,gg 47,gg 48,gg 49,gg 50,gg 51,gg 52,gg 53,gg 54,gg 55]/\σ=σ1) ?_ (o.aL.length) (by refine⟨0,ρ,?_⟩;exact cL (⟨Cd,yAk _,λid x _ h=>h,vC,λx h=>Dw⟩))
 rintro m fr σ ⟨i,σ1,gg,hI,rfl,rfl⟩
 obtain⟨hm,jK,cE,sV,j7⟩:=hI;have vg:=cE B _ (λh e=>by rw[e,vC h]at vB;cases vB) vB;have hlow:∀id,id<lo->σ[id]?=aV[id]?:=λid hid=>by
  have x9:id<aV.length:=Cd;have hx0:aV[id]?=some aV[id]:=yAh x9;rw[hx0];exact cE id _ (λh e=>absurd hid (by rw[e];exact Nat.not_lt.2 (hO.bF h).1)) (RA _ _ hx0)
 by_cases hi:i<o.aL.length
 .have q1:(i:Int)<(o.aL.length:Int):=by omega
  have hCr:hC=.aP iC 0 0 o.aL.length 5:=by rw[<-hhC];exact qG Cd
  have vt:=sV Cd;have hat:=aEI (rR way index i o.aL) i (by rw[I2];exact hi);have hlen:=L8 (rR way index i o.aL);have jF:=aEJ (rR way index i o.aL) i (by rw[I2];exact hi) (dR o.aL[i].dJ way index).1;have nM:=YN ((rR way index i o.aL).set i { o.aL[i]with dJ:=(dR o.aL[i].dJ way index).1 }) i (by rw[yAD,I2];exact hi) (dR o.aL[i].dst way index).1;rw[yCU,List.set_set]at nM;rw[I2]at hlen;rw[aOd way index i o.aL hi]at hat jF;have hms:=aOe way index i o.aL hi;have hmw:rL way index o.aL[i]={ o.aL[i]with dJ:=(dR o.aL[i].dJ way index).1,dst:=(dR o.aL[i].dst way index).1 }:=rfl;rw[hmw]at hms;simp only at nM hms;rw[hms]at nM;have hbi:=hb _ (yAm hi);have I3:=hM _ hbi.1;have zZ:=hM _ hbi.2;obtain⟨f0,CB⟩:=gn (jL (rR way index i o.aL));rw[CB]at vt hlen hat jF;obtain⟨f1,z6⟩:∃c,dL f0 (i*5+1) [.int .i64 (dR o.aL[i].dJ way index).1]=c:=⟨_,rfl⟩;rw[<-jF,z6]at nM;have hl1:f1.length=o.aL.length*5:=by
   rw[<-z6,jF,L8,yAD,I2]
  have hokw:oX way index o.aL[i]=((dR o.aL[i].dJ way index).2&&(dR o.aL[i].dst way index).2):=rfl;obtain⟨c,hc⟩:=gn (o.aL[i]);rw[hc]at hat z6 I3 zZ nM hokw;obtain⟨rT,yT⟩:=yA.1 vt;obtain⟨rG,yG⟩:=yA.1 vg;have vP:i*5+5<=f0.length:=Cd;have RB:i*5+5<=f1.length:=Cd;have RC:i*5+1+1<=f0.length:=Cd;have RD:i*5+2+1<=f1.length:=Cd;have lN:jH prog 33 (.aP iC 0 0 o.aL.length 5) (.int .i64 i)=some (.dM iC 0 (i*5)):=by
   simp[jV,hi]
  obtain⟨nm,a,b,sh,th⟩:=c;simp only at hat z6 I3 zZ nM hokw;obtain⟨S2,aEK⟩:=gn ((dR a way index).2);obtain⟨S3,o7⟩:=gn ((dR b way index).2);obtain⟨n1,y9⟩:=gn ((dR a way index).1);obtain⟨n2,hn2⟩:=gn ((dR b way index).1);rw[aEK,y9]at I3;rw[o7,hn2]at zZ;rw[y9]at z6;rw[hn2]at nM;rw[aEK,o7]at hokw;simp only[dL,yAT,yAO,yAp,Nat.reduceAdd,yBW,yAi,yBt,yAW]at z6 nM;have j0:∀x:aA,(σ++[x])[σ.length]?=some x:=λx=>Ce
  have RE:=fun(L:List aA)=>bR (τ:=L) vt
  have L9:=fun(L:List aA)=>bR (τ:=L) vg
  rw[hCr]at vg yG L9;rw[hCr];cases S2 with
  |true=>
   cases S3 with
   |true=>
    refine aC (A20 q1 hi lN vt rT yT vg rG yG vP RB RC RD hat h1 I3 zZ z6 nM (A3 j0 RE L9)) ?_;obtain⟨σ2,bT⟩:=gn (σ++[aA.box (.agg [.str nm,.int .i64 a,.int .i64 b,.int .i64 sh,.bool th])]);have u0:=L9 [aA.box (.agg [.str nm,.int .i64 a,.int .i64 b,.int .i64 sh,.bool th])];have u7:=RE [aA.box (.agg [.str nm,.int .i64 a,.int .i64 b,.int .i64 sh,.bool th])];have gC:σ.length<=σ2.length:=Ew;have hk2:∀(id:Nat) (x:aA),σ[id]?=some x->σ2[id]?=some x:=λid x h=>by rw[<-bT];exact bR h
    rw[bT]at u0 u7 ⊢;obtain⟨r7,y7⟩:=yA.1 u7;obtain⟨w0,z0⟩:=yA.1 u0;refine Wp.aOg GD.1 [some (46,52)] Cj Cf ?_;refine nL (A14 u0 w0 @z0 u7 r7 y7 lN hi vP RB RC RD z6 nM) ?_;apply SQ.nil;refine⟨⟨λx y hx hy e=>?_,trivial⟩,?_⟩
    .have hx':some B=some x:=hx;have hy':some iC=some y:=hy;have e2:B=iC:=by rw[yAS hx',yAS hy'];exact e
     rw[e2,u7]at u0;cases u0
    refine aC q1 ?_;obtain⟨cH,dH⟩:=gn (σ2.set iC (.row 58 5 0 (jL (rR way index (i+1) o.aL))));have hto:∀x∈o.aL.take (i+1),oX way index x=true:=λx hx=>by
     rw[yBI hi]at hx;rcases yBr.1 hx with hx|hx
     .exact j7 x hx
     .rw[yCt.1 hx,hc];exact hokw
    refine bU.normal (m-1) Cd (by refine⟨i+1,cH,?_⟩;exact fU (⟨Cd,Eu,λid x h hx=>by rw[<-dH,yAd (yAU (h Cd))];exact hk2 _ _ (cE id x h hx),λ_=>by rw[<-dH];exact yAj r7,hto⟩) @dH)
   |false=>
    exact ew
  |false=>
   exact ew
 .have q1:¬(i:Int)<(o.aL.length:Int):=by omega
  refine aC q1 ?_;have hft:o.aL.take i=o.aL:=yAz Cd;have hmx:rR way index i o.aL=o.aL.map (rL way index):=by unfold rR;rw[hft,yAs Cd,yAl]
  rw[hmx]at sV;rw[hft]at j7;have hk:∀(id:Nat) (t:TypeId) (n v:Nat) (cs:List PD),t≠58->aV[id]?=some (.row t n v cs)->σ[id]?=some (.row t n v cs):=λid t n v cs ht h=>cE id _ (λhp e=>by rw[e,(hO.bF hp).2]at h;exact ht (aA.row.inj (yAS h)).1.symm) (RA _ _ h)
  refine⟨_,_,rfl,true,rfl,λ_=>⟨j7,?_,by show B<=σ.length;omega,λid h=>?_⟩,λh=>Ck⟩
  .obtain⟨g1,g2,g3,g4,g5,g6,g7,g8⟩:=hO;refine⟨?_,λh=>⟨(g2 h).1,hk _ _ _ _ _ Ch (g2 h).2⟩,λh=>?_,g4,λh=>⟨(g5 h).1,hk _ _ _ _ _ Ch (g5 h).2⟩,λd h=>⟨(g6 d h).1,(g6 d h).2.aOf 58 Ch hk⟩,g7,g8⟩
   .rw[g1];simp[iZ]
   .have h':0<o.aL.length:=by simpa [iZ]using h
    refine⟨(g3 h').1,?_⟩;rw[Q8];exact sV h'
  .have hz:id<aV.length:=by omega
   show σ[id]?=aV[id]?
   rw[yAh hz];exact cE id _ (λhp e=>by have:=(hO.bF hp).1;omega) (RA _ _ (yAh hz))
end
end Go.Kz
