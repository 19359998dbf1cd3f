/- Steps of the proof. -/
import Derived.Test.YteegpeenjdgodaaGreatDoorX1
set_option linter.all false
set_option maxHeartbeats 40000000
set_option maxRecDepth 100000
open Go.Proofs.Tryz
namespace Go.Kz
open Go Go.Proofs
section
def fF(n way index:Int):Int×Bool:=
 if way=0/\index<=n then(n+1,true)
 else if way=1/\n=index then(n,false)
 else if way=1/\index<n then(n-1,true)
 else(n,true)
def Em.aOm:Em (Int×Bool):=.nT i64 .bool
def DO(way index:Int)(w:dL):dL:=⟨(fF w.aL way index).1,w.shift⟩
def okW(way index:Int)(w:dL):Bool:=(fF w.aL way index).2
structure q8 (aS σ1:List aA) (lo:Nat) (o:aV) (tW:Nat->Nat->Nat->Nat) (way index:Int) (P:Nat->Nat->Nat->Prop):Prop where
 len:aS.length<=σ1.length
 low:∀id,id<lo->σ1[id]?=aS[id]?
 aM:∀(id:Nat) (x:aA),(∀cs,x≠.row 89 2 0 cs)->aS[id]?=some x->σ1[id]?=some x
 done:∀d s g (h:d<o.aD.length) (k:s<o.aD[d].stops.length) (l:g<o.aD[d].stops[s].aN.length),P d s g->(∀w∈o.aD[d].stops[s].aN[g].aQ,okW way index w=true)/\(0<o.aD[d].stops[s].aN[g].aQ.length->σ1[tW d s g]?=some (.row 89 2 0 (iZ (o.aD[d].stops[s].aN[g].aQ.map (DO way index)))))
 rest:∀d s g (h:d<o.aD.length) (k:s<o.aD[d].stops.length) (l:g<o.aD[d].stops[s].aN.length),¬P d s g->0<o.aD[d].stops[s].aN[g].aQ.length->σ1[tW d s g]?=some (.row 89 2 0 (iZ o.aD[d].stops[s].aN[g].aQ))
theorem q8.app{aS σ1:Jp}{lo:Nat}{o:aV}{tW:Nat->Nat->Nat->Nat}{way index:Int}{P:Nat->Nat->Nat->Prop}(h:q8 aS σ1 lo o tW way index P)(hl:lo<=aS.length)(L:List aA):q8 aS (σ1++L) lo o tW way index P:=by
 obtain⟨h1,h2,h3,h4,h5⟩:=h;exact⟨by rw[yAa];omega,λid hi=>by rw[yAg Cj];exact h2 id hi,λid x hx h=>bG (h3 id x hx h),λd s g h k l hp=>⟨(h4 d s g h k l hp).1,λq=>bG ((h4 d s g h k l hp).2 q)⟩,λd s g h k l hp q=>bG (h5 d s g h k l hp q)⟩
theorem q8.congr{aS σ1:Jp}{lo:Nat}{o:aV}{tW:Nat->Nat->Nat->Nat}{way index:Int}{P Q:Nat->Nat->Nat->Prop}(h:q8 aS σ1 lo o tW way index P)(hq:∀d s g (h:d<o.aD.length) (k:s<o.aD[d].stops.length) (l:g<o.aD[d].stops[s].aN.length),P d s g↔Q d s g):q8 aS σ1 lo o tW way index Q:=by
 obtain⟨h1,h2,h3,h4,h5⟩:=h;exact⟨h1,h2,h3,λd s g h k l hp=>h4 d s g h k l ((hq d s g h k l).2 hp),λd s g h k l hp q=>h5 d s g h k l (λx=>hp ((hq d s g h k l).1 x)) q⟩
theorem iY.draw{aS:Jp}{lo:Nat}{o:aV}{p:PD}{iR iD iC:Nat}{ds:Jn}{tS:Nat->Nat}{tss:Jm}{tG:Nat->Nat->Nat}{tgs:Jl}{tW:Nat->Nat->Nat->Nat}(hO:iY aS lo o p iR iD iC ds tS tss tG tgs tW){d s g:Nat}(h:d<o.aD.length)(k:s<o.aD[d].stops.length)(l:g<o.aD[d].stops[s].aN.length)(hp:0<o.aD[d].stops[s].aN[g].aQ.length):lo<=tW d s g/\aS[tW d s g]?=some (.row 89 2 0 (iZ o.aD[d].stops[s].aN[g].aQ)):=
 ((((hO.at_ d h).2.at_ s k).2.at_ g l).2) hp
theorem q8.start{aS:Jp}{lo:Nat}{o:aV}{p:PD}{iR iD iC:Nat}{ds:Jn}{tS:Nat->Nat}{tss:Jm}{tG:Nat->Nat->Nat}{tgs:Jl}{tW:Nat->Nat->Nat->Nat}{way index:Int}(hO:iY aS lo o p iR iD iC ds tS tss tG tgs tW):q8 aS aS lo o tW way index (λ_ _ _=>False):=
 ⟨yAk _,λ_ _=>rfl,λ_ _ _ h=>h,λ_ _ _ _ _ _ h=>h.elim,λ_ _ _ h k l _ hp=>(hO.draw h k l hp).2⟩
theorem q8.step{aS σ1 σ2:Jp}{lo:Nat}{o:aV}{p:PD}{iR iD iC:Nat}{ds:Jn}{tS:Nat->Nat}{tss:Jm}{tG:Nat->Nat->Nat}{tgs:Jl}{tW:Nat->Nat->Nat->Nat}{way index:Int}{P:Nat->Nat->Nat->Prop}(hO:iY aS lo o p iR iD iC ds tS tss tG tgs tW)(hl:lo<=aS.length)(hI:q8 aS σ1 lo o tW way index P)
  {d s g:Nat} (h:d<o.aD.length) (k:s<o.aD[d].stops.length) (l:g<o.aD[d].stops[s].aN.length)
  (hlen:σ1.length<=σ2.length) (hk:∀(id:Nat) (x:aA),(0<o.aD[d].stops[s].aN[g].aQ.length->id≠tW d s g)->σ1[id]?=some x->σ2[id]?=some x)
  (hok:∀w∈o.aD[d].stops[s].aN[g].aQ,okW way index w=true) (hrow:0<o.aD[d].stops[s].aN[g].aQ.length->σ2[tW d s g]?=some (.row 89 2 0 (iZ (o.aD[d].stops[s].aN[g].aQ.map (DO way index))))) :
  q8 aS σ2 lo o tW way index (λa b c=>P a b c\/(a=d/\b=s/\c=g)):=by
 obtain⟨h1,h2,h3,h4,h5⟩:=hI;refine⟨Cj,λid hi=>?_,λid x hx hi=>?_,λa b c ha hb hc hp=>?_,λa b c ha hb hc hp hq=>?_⟩
 .exact oz
 .exact pg
 .by_cases e:a=d/\b=s/\c=g
  .obtain⟨rfl,rfl,rfl⟩:=e;exact⟨hok,hrow⟩
  .have hp':=hp.resolve_right e;refine⟨(h4 a b c ha hb hc hp').1,λhq=>hk _ _ (λhr e2=>e ?_) ((h4 a b c ha hb hc hp').2 hq)⟩;exact hO.MU a d b s c g ha h hb k hc l hq hr e2
 .exact oe
variable{E E0:aE}(hU:aJ E)
include hU
theorem aNm(h0:E 111=none)(n way index:Int)(hn:-1000000000<=n/\n<=1000000000):aI prog E 111 [i64.aB n,i64.aB way,i64.aB index] (.aH [.int .i64 (fF n way index).1,.bool (fF n way index).2]):=by
 by_cases w0:way=0
 .subst w0
  by_cases c:index<=n
  .have e:fF n 0 index=(n+1,true):=by simp[fF,c]
   exact Bi
  .have e:fF n 0 index=(n,true):=by simp[fF,c]
   exact Bi
 by_cases w1:way=1
 .subst w1
  by_cases c:n=index
  .subst c;have e:fF n 1 n=(n,false):=by simp[fF]
   rw[e];refine aI.aG 38 h0 func111 (h:=?_);refine aC trivial ?_;exact cg
  by_cases d:index<n
  .have e:fF n 1 index=(n-1,true):=by simp[fF,c,d]
   exact Bg
  .have e:fF n 1 index=(n,true):=by simp[fF,c,d]
   exact Bg
 have e:fF n way index=(n,true):=by simp[fF,w0,w1]
 rw[e];refine aI.aG 38 h0 func111 (h:=?_);refine aC (A2 w0 w1) ?_;exact cg
end
def F8(way index:Int)(g:jA):jA:={ g with aQ:=g.aQ.map (DO way index) }
def zL(way index:Int)(s:cJ):cJ:={ s with aN:=s.aN.map (F8 way index) }
def sN(way index:Int)(d:bI):bI:={ d with stops:=d.stops.map (zL way index) }
def jF(way index:Int)(o:aV):aV:={ o with aD:=o.aD.map (sN way index) }
def xP(way index:Int)(o:aV):Prop:=∀d∈o.aD,∀s∈d.stops,∀g∈s.aN,∀w∈g.aQ,okW way index w=true
theorem iY.ZP{aS σ1:Jp}{lo:Nat}{o:aV}{p:PD}{iR iD iC:Nat}{ds:Jn}{tS:Nat->Nat}{tss:Jm}{tG:Nat->Nat->Nat}{tgs:Jl}{tW:Nat->Nat->Nat->Nat}{way index:Int}(hO:iY aS lo o p iR iD iC ds tS tss tG tgs tW)(hI:q8 aS σ1 lo o tW way index (λ_ _ _=>True)) :
  xP way index o/\iY σ1 lo (jF way index o) p iR iD iC ds tS tss tG tgs tW:=by
 have hk:∀ {id:Nat} {t:TypeId} {n v:Nat} {cs:Jq},t≠89->aS[id]?=some (.row t n v cs)->σ1[id]?=some (.row t n v cs):=λht h=>hI.aM _ _ (λcs e=>ht (aA.row.inj e).1) h
 refine⟨λd hd s hs g hg w hw=>?_,?_⟩
 .obtain⟨a,ha,rfl⟩:=yBU hd;obtain⟨b,hb,rfl⟩:=yBU hs;obtain⟨c,hc,rfl⟩:=yBU hg;exact(hI.done a b c ha hb hc trivial).1 w hw
 obtain⟨h1,h2,h3,h4,h5,h6,h7,h8⟩:=hO;refine⟨?_,λh=>⟨(h2 h).1,hk Cn (h2 h).2⟩,λh=>⟨(h3 h).1,hk Cn (h3 h).2⟩,by simp[jF,h4],λh=>⟨(h5 Hi).1,hk Cn (h5 Hi).2⟩,λd h=>?_,λd d' h h' p q=>?_,λd d' s s' g g' h h' k k' l l' p q=>?_⟩
 .rw[h1];simp[jF]
 .have h':d<o.aD.length:=by simpa [jF]using h
  obtain⟨e1,e2⟩:=h6 d h';simp only[jF,yBq,sN,yAe];refine⟨e1,Ck,by simp[e2.len],λhp=>⟨(e2.row Et).1,hk Cn (e2.row Et).2⟩,λs k=>?_,λs s' g g' k k' l l' p q=>?_⟩
  .have k':s<o.aD[d].stops.length:=by simpa using k
   obtain⟨f1,f2⟩:=e2.at_ s k';simp only[yBq,zL,yAe];refine⟨f1,Ck,by simp[f2.len],λhp=>⟨(f2.row Et).1,hk Cn (f2.row Et).2⟩,λg l=>?_,λg g' l l' p q=>?_⟩
   .have l':g<o.aD[d].stops[s].aN.length:=by simpa using l
    obtain⟨q1,q2⟩:=f2.at_ g l';simp only[yBq,F8,yAe];refine⟨q1,λhp=>?_⟩;have hp':0<o.aD[d].stops[s].aN[g].aQ.length:=Et;exact⟨(q2 hp').1,(hI.done d s g h' k' l' trivial).2 hp'⟩
   .simp only[yBq,F8,yAe]at p q;exact f2.inj g g' (by simpa using l) (by simpa using l') p q
  .simp only[yBq,zL,F8,yAe]at p q;exact e2.inj s s' g g' (by simpa using k) (by simpa using k') (by simpa [zL]using l) (by simpa [zL]using l') p q
 .simp only[jF,yBq,sN,yAe]at p q;exact h7 d d' Hi (by simpa [jF]using h') p q
 .simp only[jF,yBq,sN,zL,F8,yAe]at p q;exact h8 d d' s s' g g' Hi (by simpa [jF]using h') (by simpa [jF,sN]using k) (by simpa [jF,sN]using k') (by simpa [jF,sN,zL]using l) (by simpa [jF,sN,zL]using l') p q
section
theorem z6(k id n:Nat){t:TypeId}{e:TypeId}(ht:prog.underlying t=some (.slice e)):gA prog .len #[t] [hd k id n]=some (.int .i64 n):=by
 unfold hd;split
 .exact uh
 .simp[gA,ht]
theorem qF{k id n:Nat}(h:0<n):hd k id n=.aO id 0 0 n k:=by unfold hd;rw[yAI Cj]
def sW(way index:Int)(i:Nat)(l:List dL):List dL:=(l.take i).map (DO way index)++l.drop i
theorem R6(way index:Int)(i:Nat)(l:List dL):(sW way index i l).length=l.length:=by
 unfold sW;rw[yAa,yAe,yAt,yBa];omega
theorem aOP(way index:Int)(i:Nat)(l:List dL)(h:i<l.length):(sW way index i l)[i]'(by rw[R6];exact h)=l[i]:=by
 unfold sW;exact ki
theorem aOQ(way index:Int)(i:Nat)(l:List dL)(h:i<l.length):(sW way index i l).set i (DO way index l[i])=sW way index (i+1) l:=by
 unfold sW;exact ko
theorem aFm(l:List dL):(iZ l).length=l.length*2:=by
 unfold iZ;rw[lF (sz:=2) _ (λg h=>Ff),yAe]
theorem aFn(l:List dL)(i:Nat)(h:i<l.length):((iZ l).drop (i*2)).take 1=[.int .i64 l[i].aL]:=by
 have h1:=qX (sz:=2) (l.map λw=>[PD.int .i64 w.aL,.int .i64 w.shift]) i Ed (λg h=>Ff);rw[yBq]at h1;unfold iZ;have h2:=yAL (List.take 1) h1;rw[yCd]at h2;exact h2
theorem aFo(l:List dL)(i:Nat)(h:i<l.length)(r:Int):dF (iZ l) (i*2) [.int .i64 r]=iZ (l.set i ⟨r,l[i].shift⟩):=by
 have h1:=wY (sz:=2) (new:=[.int .i64 r]) (j:=0) Ck (l.map λw=>[PD.int .i64 w.aL,.int .i64 w.shift]) i Ed (λg h=>Ff);rw[yBq,yBm]at h1;unfold iZ;rw[h1,yCQ];rfl
variable{E E0:aE}(hU:aJ E)
include hU
theorem aOn{gM:Jk}(h0:E 81=none)(h1:E 111=some gM)(way index:Int)
  (hM:∀n,-1000000000<=n/\n<=1000000000->∀fl σ,gM fl [.int .i64 n,.int .i64 way,.int .i64 index] σ=some (.aH [.int .i64 (fF n way index).1,.bool (fF n way index).2],σ))
  (o:aV) (p:PD) (aS:List aA) (lo iR iD iC:Nat) (ds:List (List PD)) (tS:Nat->Nat) (tss:Nat->List (List PD)) (tG:Nat->Nat->Nat) (tgs:Nat->Nat->List (List PD)) (tW:Nat->Nat->Nat->Nat) (hO:iY aS lo o p iR iD iC ds tS tss tG tgs tW) (hlo:lo<=aS.length) (ho:eF o)
  (hb:∀d∈o.aD,∀s∈d.stops,∀g∈s.aN,∀w∈g.aQ,-1000000000<=w.aL/\w.aL<=1000000000) (hw:-1000000000<=way/\way<=1000000000) :
  aK prog E 0 (.inl 81) [p,.int .i64 way,.int .i64 index] aS (λq σ'=>∃b:Bool,q=.bool b/\(b=true->xP way index o/\iY σ' lo (jF way index o) p iR iD iC ds tS tss tG tgs tW/\aS.length<=σ'.length/\∀id,id<lo->σ'[id]?=aS[id]?)/\(b=false->¬xP way index o/\aS.length<=σ'.length/\∀id,id<lo->σ'[id]?=aS[id]?)):=by
 have hp:=hO.p;subst hp;obtain⟨hR,hhR⟩:=gn (Go.Kz.hd 6 iR o.aR.length);obtain⟨hD,hhD⟩:=gn (Go.Kz.hd 5 iD o.aD.length);obtain⟨hC,hhC⟩:=gn (Go.Kz.hd 5 iC o.aP.length);have lD:=z6 5 iD o.aD.length underlying32;have pR:hR.plain=true:=Da;have pD:hD.plain=true:=Db;have pC:hC.plain=true:=Dc;unfold PD.plain at pR pD pC;simp only[hhR,hhD,hhC]at hO lD ⊢;simp[gA,underlying32]at lD;obtain⟨L0,lT⟩:=gn (aS.length);refine aK.aG 67 h0 func81 (h:=?_);apply WL.tH Cp;apply SL.box (p:=.agg [.str o.name,hR,hD,hC]) (hw:=Wt.i rfl) (hx:=rfl) (hp:=Gz) (hr:=Ns.i rfl) (hn:=Ns.i rfl) (hf:=Fr.i rfl);refine oS lD ?_;apply SQ.nil;refine aC (A2 lD lT) ?_;rw[lT];have hst:=(q8.start (way:=way) (index:=index) hO).app hlo [aA.box (.agg [.str o.name,hR,hD,hC])];refine Wp.dJ (λm fr σ=>∃(d:Nat) (σ1:List aA),∃gg:Nat->PD,(d+m=o.aD.length/\q8 aS σ1 lo o tW way index (λa _ _=>a<d))/\fr=gg 0::.int .i64 way::.int .i64 index::gg 3::gg 4::gg 5::.bool false::gg 7::gg 8::gg 9::gg 10::gg 11::gg 12::gg 13::gg 14::gg 15::gg 16::hD::.int .i64 o.aD.length::.int .i64 d::gg 20::gg 21::gg 22::gg 23::gg 24::gg 25::gg 26::gg 27::gg 28::gg 29::gg 30::gg 31::gg 32::gg 33::gg 34::gg 35::gg 36::gg 37::gg 38::gg 39::gg 40::gg 41::gg 42::gg 43::gg 44::gg 45::gg 46::gg 47::gg 48::gg 49::gg 50::gg 51::gg 52::gg 53::gg 54::gg 55::gg 56::gg 57::gg 58::gg 59::gg 60::gg 61::gg 62::gg 63::gg 64::gg 65::gg 66::[]/\σ=σ1) ?_ (o.aD.length) (by refine⟨0,(aS++[aA.box (.agg [.str o.name,hR,hD,hC])]),?_⟩;exact fQ (⟨Cj,hst.congr λa b c _ _ _=>Ck⟩) @lT)
 rintro m fr σ ⟨d,σ1,gg,hI,rfl,rfl⟩
 obtain⟨hm,hI⟩:=hI;have hod:=ho.2.1.1
 by_cases hi:d<o.aD.length
 .have hzo:=ho.2.1.2 _ (yAm hi);have q1:(d:Int)<(o.aD.length:Int):=Cj;have hDr:hD=.aO iD 0 0 o.aD.length 5:=by rw[<-hhD];exact qF Cj
  have v2:=hI.aM _ _ (λcs e=>absurd (aA.row.inj e).1 Cn) (hO.row Cj).2;obtain⟨e1,e2⟩:=hO.at_ d hi;have gO:∀g∈ds,g.length=5:=λg h=>by
   exact ja
  have hat:=qX (sz:=5) ds d Jd gO;have hlen:=lF (sz:=5) ds gO;rw[(yA.1 e1).2]at hat;obtain⟨fs,hfs⟩:=gn (ds.flatten);rw[hfs]at v2 hlen hat;obtain⟨z,hz⟩:=gn (o.aD[d]);rw[hz]at hat e2 hzo;have hos:=hzo.1;obtain⟨r2,y2⟩:=yA.1 v2;have fG:d*5+5<=fs.length:=Je;have xk:jD prog 32 (.aO iD 0 0 o.aD.length 5) (.int .i64 d)=some (.dG iD 0 (d*5)):=by
   simp[jT,hi]
  obtain⟨hS,hhS⟩:=gn (Go.Kz.hd 4 (tS d) z.stops.length);have pS:hS.plain=true:=Gc;have cS:hS.cells=[hS]:=Gd;have lS:=z6 4 (tS d) z.stops.length underlying51;unfold PD.plain at pS;unfold PD.cells at cS;rw[hhS]at hat lS;simp[gA,underlying51]at lS;have j0:∀x:aA,(σ++[x])[σ.length]?=some x:=λx=>Ck
  rw[hDr];refine aC (A12 q1 hi xk @v2 r2 y2 fG hat j0 pS cS lS) ?_;have MT:=hI.app hlo [aA.box (.agg [.str z.name,.bool z.dO,.int .i64 z.low,.int .i64 z.high,hS])];obtain⟨M,ZJ⟩:∃M,M=m:=⟨_,rfl⟩;rw[<-ZJ]at hm ⊢;obtain⟨ZK,ZL⟩:=gn (σ++[aA.box (.agg [.str z.name,.bool z.dO,.int .i64 z.low,.int .i64 z.high,hS])]);rw[ZL]at MT ⊢;have hsl:z.stops.length=o.aD[d].stops.length:=by rw[hz]
  refine Wp.dJ (λm fr σ=>∃(s:Nat) (σ1:List aA),∃gg:Nat->PD,(s+m=z.stops.length/\q8 aS σ1 lo o tW way index (λa b _=>a<d\/(a=d/\b<s)))/\fr=gg 0::.int .i64 way::.int .i64 index::gg 3::gg 4::gg 5::.bool false::gg 7::gg 8::gg 9::gg 10::gg 11::gg 12::gg 13::gg 14::gg 15::gg 16::.aO iD 0 0 o.aD.length 5::.int .i64 o.aD.length::.int .i64 d::gg 20::gg 21::gg 22::gg 23::hS::.int .i64 z.stops.length::.int .i64 s::gg 27::gg 28::gg 29::gg 30::gg 31::gg 32::gg 33::gg 34::gg 35::gg 36::gg 37::gg 38::gg 39::gg 40::gg 41::gg 42::gg 43::gg 44::gg 45::gg 46::gg 47::gg 48::gg 49::gg 50::gg 51::gg 52::gg 53::gg 54::gg 55::gg 56::gg 57::gg 58::gg 59::gg 60::gg 61::gg 62::gg 63::gg 64::gg 65::gg 66::[]/\σ=σ1) ?_ (z.stops.length) (by refine⟨0,ZK,?_⟩;exact cE (⟨Cj,MT.congr λa b c _ _ _=>Ck⟩))
  rintro m fr σ ⟨s,σ1,gg,hI,rfl,rfl⟩
  obtain⟨hm2,GO⟩:=hI
  by_cases hi2:s<z.stops.length
  .have q1:(s:Int)<(z.stops.length:Int):=by omega
   have hwo:=hzo.2 _ (yAm hi2);have hSr:hS=.aO (tS d) 0 0 z.stops.length 4:=by rw[<-hhS];exact qF Cj
   have v2:=GO.aM _ _ (λcs e=>absurd (aA.row.inj e).1 Cn) (e2.row Cj).2;obtain⟨f1,f2⟩:=e2.at_ s hi2;have gO:∀g∈tss d,g.length=4:=λg h=>by
    exact AX
   have hat:=qX (sz:=4) (tss d) s (by rw[e2.len];exact hi2) gO;have hlen:=lF (sz:=4) (tss d) gO;rw[(yA.1 f1).2]at hat;obtain⟨fs,hfs⟩:=gn ((tss d).flatten);rw[hfs]at v2 hlen hat;obtain⟨w,oK⟩:=gn (z.stops[s]);rw[oK]at hat f2 hwo;have hog:=hwo.1;obtain⟨r2,y2⟩:=yA.1 v2;have fG:s*4+4<=fs.length:=by rw[hlen,e2.len];omega
   have xk:jD prog 51 (.aO (tS d) 0 0 z.stops.length 4) (.int .i64 s)=some (.dG (tS d) 0 (s*4)):=by
    simp[jT,hi2]
   obtain⟨hG,hhG⟩:=gn (Go.Kz.hd 3 (tG d s) w.aN.length);have pG:hG.plain=true:=by rw[<-hhG];exact fL _ _ _
   have cG:hG.cells=[hG]:=by rw[<-hhG];exact lE _ _ _
   have lG:=z6 3 (tG d s) w.aN.length underlying54;unfold PD.plain at pG;unfold PD.cells at cG;rw[hhG]at hat lG;simp[gA,underlying54]at lG;have j0:∀x:aA,(σ++[x])[σ.length]?=some x:=λx=>Ck
   rw[hSr];refine aC (A12 q1 hi2 xk @v2 r2 y2 fG hat j0 pG cG lG) ?_;have vO:=GO.app hlo [aA.box (.agg [.str w.name,.int .i64 w.num,.int .i64 w.den,hG])];obtain⟨M2,z7⟩:∃M,M=m:=⟨_,rfl⟩;rw[<-z7]at hm2 ⊢;obtain⟨ZM,oW⟩:=gn (σ++[aA.box (.agg [.str w.name,.int .i64 w.num,.int .i64 w.den,hG])]);rw[oW]at vO ⊢;have hgl:∀(h:s<o.aD[d].stops.length),w.aN.length=o.aD[d].stops[s].aN.length:=λh=>by subst hz;rw[<-oK]
   refine Wp.dJ (λm fr σ=>∃(g:Nat) (σ1:List aA),∃gg:Nat->PD,(g+m=w.aN.length/\q8 aS σ1 lo o tW way index (λa b c=>a<d\/(a=d/\(b<s\/(b=s/\c<g)))))/\fr=gg 0::.int .i64 way::.int .i64 index::gg 3::gg 4::gg 5::.bool false::gg 7::gg 8::gg 9::gg 10::gg 11::gg 12::gg 13::gg 14::gg 15::gg 16::.aO iD 0 0 o.aD.length 5::.int .i64 o.aD.length::.int .i64 d::gg 20::gg 21::gg 22::gg 23::.aO (tS d) 0 0 z.stops.length 4::.int .i64 z.stops.length::.int .i64 s::gg 27::gg 28::gg 29::gg 30::hG::.int .i64 w.aN.length::.int .i64 g::gg 34::gg 35::gg 36::gg 37::gg 38::gg 39::gg 40::gg 41::gg 42::gg 43::gg 44::gg 45::gg 46::gg 47::gg 48::gg 49::gg 50::gg 51::gg 52::gg 53::gg 54::gg 55::gg 56::gg 57::gg 58::gg 59::gg 60::gg 61::gg 62::gg 63::gg 64::gg 65::gg 66::[]/\σ=σ1) ?_ (w.aN.length) (by refine⟨0,ZM,?_⟩;exact cE (⟨Cj,vO.congr λa b c _ _ _=>Ck⟩))
   rintro m fr σ ⟨g,σ1,gg,hI,rfl,rfl⟩
   obtain⟨ZN,vO⟩:=hI
   by_cases qY:g<w.aN.length
   .have q1:(g:Int)<(w.aN.length:Int):=by omega
    have how:=hwo.2 _ (yAm qY);have hGr:hG=.aO (tG d s) 0 0 w.aN.length 3:=by rw[<-hhG];exact qF Cj
    have v2:=vO.aM _ _ (λcs e=>absurd (aA.row.inj e).1 Cn) (f2.row Cj).2;obtain⟨k1,k2⟩:=f2.at_ g qY;have gO:∀x∈tgs d s,x.length=3:=λx h=>by
     exact Ay
    have hat:=qX (sz:=3) (tgs d s) g (by rw[f2.len];exact qY) gO;have hlen:=lF (sz:=3) (tgs d s) gO;rw[(yA.1 k1).2]at hat;obtain⟨fs,hfs⟩:=gn ((tgs d s).flatten);rw[hfs]at v2 hlen hat;obtain⟨y,pU⟩:=gn (w.aN[g]);rw[pU]at hat k2 how;have how':y.aQ.length<=1000000:=how;obtain⟨r2,y2⟩:=yA.1 v2;have fG:g*3+3<=fs.length:=by rw[hlen,f2.len];omega
    have xk:jD prog 54 (.aO (tG d s) 0 0 w.aN.length 3) (.int .i64 g)=some (.dG (tG d s) 0 (g*3)):=by
     simp[jT,qY]
    obtain⟨hW,hhW⟩:=gn (Go.Kz.hd 2 (tW d s g) y.aQ.length);have pW:hW.plain=true:=by rw[<-hhW];exact fL _ _ _
    have cW:hW.cells=[hW]:=by rw[<-hhW];exact lE _ _ _
    have lW:=z6 2 (tW d s g) y.aQ.length underlying90;unfold PD.plain at pW;unfold PD.cells at cW;rw[hhW]at hat lW;simp[gA,underlying90]at lW;have j0:∀x:aA,(σ++[x])[σ.length]?=some x:=λx=>Ck
    rw[hGr];refine aC (A12 q1 qY xk @v2 r2 y2 fG hat j0 pW cW lW) ?_;have AA:=vO.app hlo [aA.box (.agg [.int .i64 y.lo,.int .i64 y.hi,hW])];obtain⟨M3,ZO⟩:∃M,M=m:=⟨_,rfl⟩;rw[<-ZO]at ZN ⊢;obtain⟨BG,hBG⟩:=gn (σ.length);have vG:(σ++[aA.box (.agg [.int .i64 y.lo,.int .i64 y.hi,hW])])[BG]?=some (.box (.agg [.int .i64 y.lo,.int .i64 y.hi,hW])):=by rw[<-hBG];exact j0 _
    obtain⟨oM,D3⟩:=gn (σ++[aA.box (.agg [.int .i64 y.lo,.int .i64 y.hi,hW])]);rw[D3]at AA vG ⊢;rw[hBG];have hyo:o.aD[d].stops[s]' Cj=w:=by subst hz;exact oK
    have hyl:∀(h:g<(o.aD[d].stops[s]' Cj).aN.length),(o.aD[d].stops[s]' Cj).aN[g]=y:=λh=>by simp only[hyo];exact pU
    have hgL:g<(o.aD[d].stops[s]' Cj).aN.length:=by rw[hyo];exact qY
    have vT:0<y.aQ.length->oM[tW d s g]?=some (.row 89 2 0 (iZ y.aQ)):=λhp=>by
     exact qe
    have hyM:y∈(o.aD[d].stops[s]' Cj).aN:=by rw[<-hyl hgL];exact yAm hgL
    have hby:∀x∈y.aQ,-1000000000<=x.aL/\x.aL<=1000000000:=λx hx=>hb _ (yAm hi) _ (yAm (show s<o.aD[d].stops.length by omega)) y hyM x hx
    refine Wp.dJ (λm fr σ=>∃(i:Nat) (σ1:List aA),∃gg:Nat->PD,(i+m=y.aQ.length/\oM.length<=σ1.length/\(∀(id:Nat) (x:aA),(0<y.aQ.length->id≠tW d s g)->oM[id]?=some x->σ1[id]?=some x)/\(0<y.aQ.length->σ1[tW d s g]?=some (.row 89 2 0 (iZ (sW way index i y.aQ))))/\(∀x∈y.aQ.take i,okW way index x=true))/\fr=gg 0::.int .i64 way::.int .i64 index::gg 3::gg 4::gg 5::.bool false::gg 7::gg 8::gg 9::gg 10::gg 11::.ptr BG 0::gg 13::gg 14::gg 15::gg 16::.aO iD 0 0 o.aD.length 5::.int .i64 o.aD.length::.int .i64 d::gg 20::gg 21::gg 22::gg 23::.aO (tS d) 0 0 z.stops.length 4::.int .i64 z.stops.length::.int .i64 s::gg 27::gg 28::gg 29::gg 30::.aO (tG d s) 0 0 w.aN.length 3::.int .i64 w.aN.length::.int .i64 g::gg 34::gg 35::gg 36::gg 37::hW::.int .i64 y.aQ.length::.int .i64 i::gg 41::gg 42::gg 43::gg 44::gg 45::gg 46::gg 47::gg 48::gg 49::gg 50::gg 51::gg 52::gg 53::gg 54::gg 55::gg 56::gg 57::gg 58::gg 59::gg 60::gg 61::gg 62::gg 63::gg 64::gg 65::gg 66::[]/\σ=σ1) ?_ (y.aQ.length) (by refine⟨0,oM,?_⟩;exact cE (⟨Cj,yAk _,λid x _ h=>h,vT,λx h=>Ea⟩))
    rintro m fr σ ⟨i,σ1,gg,hI,rfl,rfl⟩
    obtain⟨hm4,jI,bU,sV,kB⟩:=hI
    by_cases hi4:i<y.aQ.length
    .have q1:(i:Int)<(y.aQ.length:Int):=by omega
     have hWr:hW=.aO (tW d s g) 0 0 y.aQ.length 2:=by rw[<-hhW];exact qF Cj
     have vt:=sV Cj;have vg:=bU BG _ (λh e=>Ip) vG;obtain⟨rT,yT⟩:=yA.1 vt;obtain⟨rG,yG⟩:=yA.1 vg;have hat:=aFn (sW way index i y.aQ) i (by rw[R6];exact hi4);have hlen:=aFm (sW way index i y.aQ);have hfl:=aFo (sW way index i y.aQ) i (by rw[R6];exact hi4) (fF y.aQ[i].aL way index).1;rw[R6]at hlen;rw[aOP way index i y.aQ hi4]at hat hfl;have hms:=aOQ way index i y.aQ hi4;have hmw:DO way index y.aQ[i]=⟨(fF y.aQ[i].aL way index).1,y.aQ[i].shift⟩:=rfl;rw[hmw]at hms;rw[hms]at hfl;have hMi:=hM _ (hby _ (yAm hi4));obtain⟨JD,R7⟩:=gn (iZ (sW way index i y.aQ));rw[R7]at vt hlen hat hfl yT;have vN:i*2+1<=JD.length:=Cj;have lP:jD prog 90 (.aO (tW d s g) 0 0 y.aQ.length 2) (.int .i64 i)=some (.dG (tW d s g) 0 (i*2)):=by
      simp[jT,hi4]
     rw[hWr]at vg yG;rw[hWr];obtain⟨r,hr⟩:=gn (y.aQ[i].aL);rw[hr]at hat hfl hMi;obtain⟨ok,hok⟩:=gn ((fF r way index).2);obtain⟨nr,hnr⟩:=gn ((fF r way index).1);rw[hok,hnr]at hMi;rw[hnr]at hfl;simp only[dF,yAT,yAO,yAp,Nat.reduceAdd,yBX,yAi,yBs,yAV]at hfl;have D4:JD[i*2]' Cj=.int .i64 r:=by
      exact yo
     have hokw:okW way index y.aQ[i]=ok:=by rw[<-hok,<-hr];rfl
     cases ok with
     |true=>
      refine aC Ca ?_;have hto:∀x∈y.aQ.take (i+1),okW way index x=true:=λx hx=>by
       rw[yBK hi4]at hx;rcases yBh.1 hx with hx|hx
       .exact kB x hx
       .rw[yCn.1 hx];exact hokw
      obtain⟨bW,dB⟩:=gn (σ.set (tW d s g) (.row 89 2 0 (iZ (sW way index (i+1) y.aQ))));refine bM.normal (m-1) Cj (by refine⟨i+1,bW,?_⟩;exact fQ (⟨Cj,by rw[<-dB,yAD];exact jI,λid x h hx=>by rw[<-dB,yAd (yAU (h Cj))];exact bU id x h hx,λ_=>by rw[<-dB];exact yAj rT,hto⟩) @dB)
     |false=>
      refine aC Ca ?_;refine⟨_,_,rfl,false,rfl,(λh=>Co),λ_=>⟨λhx=>?_,yAQ (by rw[<-lT];exact AA.len) jI,λid hid=>?_⟩⟩
      .have hx1:=hx _ (yAm hi) _ (yAm (show s<o.aD[d].stops.length by omega)) y hyM _ (yAm hi4);rw[hokw]at hx1;cases hx1
      .have hlow:=AA.low id hid;have xZ:id<aS.length:=Cj;have hx0:aS[id]?=some aS[id]:=yAh xZ;have hdw:=(hO.draw hi (show s<o.aD[d].stops.length by omega) hgL (by rw[hyl hgL];omega)).1;rw[hx0]at hlow ⊢;exact bU id _ (λ_ e=>absurd hid (by rw[e];exact Nat.not_lt.2 hdw)) hlow
    .have q1:¬(i:Int)<(y.aQ.length:Int):=by omega
     refine aC q1 ?_;have hft:y.aQ.take i=y.aQ:=yAz Cj;have hmx:sW way index i y.aQ=y.aQ.map (DO way index):=by unfold sW;rw[hft,yAs Cj,yAl]
     rw[hmx]at sV;rw[hft]at kB;have nZ:=q8.step hO hlo AA hi (show s<o.aD[d].stops.length by omega) hgL jI (by rw[hyl hgL];exact bU) (by rw[hyl hgL];exact kB) (by rw[hyl hgL];exact sV);have hN:=nZ.congr (Q:=λa b c=>a<d\/(a=d/\(b<s\/(b=s/\c<g+1)))) λa b c h k l=>Cj
     refine bM.normal (M3-1) Cj (by refine⟨g+1,σ,?_⟩;exact cE (⟨Cj,hN⟩))
   .have q1:¬(g:Int)<(w.aN.length:Int):=by omega
    refine aC q1 ?_;have hN:=vO.congr (Q:=λa b _=>a<d\/(a=d/\b<s+1)) λa b c h k l=>by
     exact gv
    refine bM.normal (M2-1) Cj (by refine⟨s+1,σ,?_⟩;exact cE (⟨Cj,hN⟩))
  .have q1:¬(s:Int)<(z.stops.length:Int):=by omega
   refine aC q1 ?_;have hN:=GO.congr (Q:=λa _ _=>a<d+1) λa b c h k _=>by
    exact lp
   refine bM.normal (M-1) Cj (by refine⟨d+1,σ,?_⟩;exact cE (⟨Cj,hN⟩))
 .have q1:¬(d:Int)<(o.aD.length:Int):=by omega
  refine aC q1 ?_;have hT:=hI.congr (Q:=λ_ _ _=>True) λa b c h _ _=>Cu
  have hF:=hO.ZP hT;exact⟨_,_,rfl,true,rfl,λ_=>⟨hF.1,hF.2,lT▸hT.len,hT.low⟩,λh=>Co⟩
end
end Go.Kz
