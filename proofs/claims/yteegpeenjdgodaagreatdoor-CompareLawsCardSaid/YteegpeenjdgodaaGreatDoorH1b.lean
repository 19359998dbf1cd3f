/- Steps of the proof. -/
import Derived.Test.YteegpeenjdgodaaGreatDoorH1
set_option linter.all false
set_option maxHeartbeats 40000000
set_option maxRecDepth 100000
open Go.Proofs.Tryz
namespace Go.Kz
open Go Go.Proofs
section
def eX(n way index:Int):Int×Bool:=
 if way=0/\index<=n then(n+1,true)
 else if way=1/\n=index then(n,false)
 else if way=1/\index<n then(n-1,true)
 else(n,true)
def Em.aNs:Em (Int×Bool):=.sA i64 .bool
def EZ(way index:Int)(w:dT):dT:=⟨(eX w.aG way index).1,w.shift⟩
def okW(way index:Int)(w:dT):Bool:=(eX w.aG way index).2
structure pO (bJ σ1:List aB) (lo:Nat) (o:aP) (tW:Nat->Nat->Nat->Nat) (way index:Int) (P:Nat->Nat->Nat->Prop):Prop where
 len:bJ.length<=σ1.length
 low:∀id,id<lo->σ1[id]?=bJ[id]?
 aQ:∀(id:Nat) (x:aB),(∀cs,x≠.row 89 2 0 cs)->bJ[id]?=some x->σ1[id]?=some x
 done:∀d s g (h:d<o.aD.length) (k:s<o.aD[d].stops.length) (l:g<o.aD[d].stops[s].aU.length),P d s g->(∀w∈o.aD[d].stops[s].aU[g].aX,okW way index w=true)/\(0<o.aD[d].stops[s].aU[g].aX.length->σ1[tW d s g]?=some (.row 89 2 0 (lT (o.aD[d].stops[s].aU[g].aX.map (EZ way index)))))
 rest:∀d s g (h:d<o.aD.length) (k:s<o.aD[d].stops.length) (l:g<o.aD[d].stops[s].aU.length),¬P d s g->0<o.aD[d].stops[s].aU[g].aX.length->σ1[tW d s g]?=some (.row 89 2 0 (lT o.aD[d].stops[s].aU[g].aX))
theorem pO.app{bJ σ1:Gb}{lo:Nat}{o:aP}{tW:Nat->Nat->Nat->Nat}{way index:Int}{P:Nat->Nat->Nat->Prop}(h:pO bJ σ1 lo o tW way index P)(hl:lo<=bJ.length)(L:List aB):pO bJ (σ1++L) lo o tW way index P:=by
 obtain⟨h1,h2,h3,h4,h5⟩:=h;exact⟨by rw[yAa];omega,λid hi=>by rw[yAg Ah];exact h2 id hi,λid x hx h=>cE (h3 id x hx h),λd s g h k l hp=>⟨(h4 d s g h k l hp).1,λq=>cE ((h4 d s g h k l hp).2 q)⟩,λd s g h k l hp q=>cE (h5 d s g h k l hp q)⟩
theorem pO.congr{bJ σ1:Gb}{lo:Nat}{o:aP}{tW:Nat->Nat->Nat->Nat}{way index:Int}{P Q:Nat->Nat->Nat->Prop}(h:pO bJ σ1 lo o tW way index P)(hq:∀d s g (h:d<o.aD.length) (k:s<o.aD[d].stops.length) (l:g<o.aD[d].stops[s].aU.length),P d s g↔Q d s g):pO bJ σ1 lo o tW way index Q:=by
 obtain⟨h1,h2,h3,h4,h5⟩:=h;exact⟨h1,h2,h3,λd s g h k l hp=>h4 d s g h k l ((hq d s g h k l).2 hp),λd s g h k l hp q=>h5 d s g h k l (λx=>hp ((hq d s g h k l).1 x)) q⟩
theorem iI.draw{bJ:Gb}{lo:Nat}{o:aP}{p:PD}{iR iD iC:Nat}{ds:Fz}{tS:Nat->Nat}{tss:Fy}{tG:Nat->Nat->Nat}{tgs:Fx}{tW:Nat->Nat->Nat->Nat}(hO:iI bJ lo o p iR iD iC ds tS tss tG tgs tW){d s g:Nat}(h:d<o.aD.length)(k:s<o.aD[d].stops.length)(l:g<o.aD[d].stops[s].aU.length)(hp:0<o.aD[d].stops[s].aU[g].aX.length):lo<=tW d s g/\bJ[tW d s g]?=some (.row 89 2 0 (lT o.aD[d].stops[s].aU[g].aX)):=
 ((((hO.at_ d h).2.at_ s k).2.at_ g l).2) hp
theorem pO.start{bJ:Gb}{lo:Nat}{o:aP}{p:PD}{iR iD iC:Nat}{ds:Fz}{tS:Nat->Nat}{tss:Fy}{tG:Nat->Nat->Nat}{tgs:Fx}{tW:Nat->Nat->Nat->Nat}{way index:Int}(hO:iI bJ lo o p iR iD iC ds tS tss tG tgs tW):pO bJ bJ lo o tW way index (λ_ _ _=>False):=
 ⟨yAk _,λ_ _=>rfl,λ_ _ _ h=>h,λ_ _ _ _ _ _ h=>h.elim,λ_ _ _ h k l _ hp=>(hO.draw h k l hp).2⟩
theorem pO.step{bJ σ1 σ2:Gb}{lo:Nat}{o:aP}{p:PD}{iR iD iC:Nat}{ds:Fz}{tS:Nat->Nat}{tss:Fy}{tG:Nat->Nat->Nat}{tgs:Fx}{tW:Nat->Nat->Nat->Nat}{way index:Int}{P:Nat->Nat->Nat->Prop}(hO:iI bJ lo o p iR iD iC ds tS tss tG tgs tW)(hl:lo<=bJ.length)(hI:pO bJ σ1 lo o tW way index P)
  {d s g:Nat} (h:d<o.aD.length) (k:s<o.aD[d].stops.length) (l:g<o.aD[d].stops[s].aU.length)
  (hlen:σ1.length<=σ2.length) (hk:∀(id:Nat) (x:aB),(0<o.aD[d].stops[s].aU[g].aX.length->id≠tW d s g)->σ1[id]?=some x->σ2[id]?=some x)
  (hok:∀w∈o.aD[d].stops[s].aU[g].aX,okW way index w=true) (hrow:0<o.aD[d].stops[s].aU[g].aX.length->σ2[tW d s g]?=some (.row 89 2 0 (lT (o.aD[d].stops[s].aU[g].aX.map (EZ way index))))) :
  pO bJ σ2 lo o tW way index (λa b c=>P a b c\/(a=d/\b=s/\c=g)):=by
 obtain⟨h1,h2,h3,h4,h5⟩:=hI;refine⟨Ah,λid hi=>?_,λid x hx hi=>?_,λa b c ha hb hc hp=>?_,λa b c ha hb hc hp hq=>?_⟩
 .have hz:id<σ1.length:=by omega
  rw[hk id _ (λhp=>by have:=(hO.draw h k l hp).1;omega) (yAh hz),<-h2 id hi,yAh hz]
 .refine hk id x (λhp e=>?_) (h3 id x hx hi);have:=(hO.draw h k l hp).2;rw[<-e,hi]at this;exact hx _ (yAU this)
 .by_cases e:a=d/\b=s/\c=g
  .obtain⟨rfl,rfl,rfl⟩:=e;exact⟨hok,hrow⟩
  .have hp':=hp.resolve_right e;refine⟨(h4 a b c ha hb hc hp').1,λhq=>hk _ _ (λhr e2=>e ?_) ((h4 a b c ha hb hc hp').2 hq)⟩;exact hO.XK a d b s c g ha h hb k hc l hq hr e2
 .refine hk _ _ (λhr e2=>hp (.inr ?_)) (h5 a b c ha hb hc (λx=>hp (.inl x)) hq);exact hO.XK a d b s c g ha h hb k hc l hq hr e2
variable{E E0:aE}(hU:aH E)
include hU
theorem aMr(h0:E 111=none)(n way index:Int)(hn:-1000000000<=n/\n<=1000000000):aJ prog E 111 [i64.aA n,i64.aA way,i64.aA index] (.aI [.int .i64 (eX n way index).1,.bool (eX n way index).2]):=by
 by_cases w0:way=0
 .subst w0
  by_cases c:index<=n
  .have e:eX n 0 index=(n+1,true):=by simp[eX,c]
   exact yO
  .have e:eX n 0 index=(n,true):=by simp[eX,c]
   exact yO
 by_cases w1:way=1
 .subst w1
  by_cases c:n=index
  .subst c;have e:eX n 1 n=(n,false):=by simp[eX]
   rw[e];refine aJ.aN 38 h0 func111 (h:=?_);refine aC trivial ?_;exact bx
  by_cases d:index<n
  .have e:eX n 1 index=(n-1,true):=by simp[eX,c,d]
   exact yy
  .have e:eX n 1 index=(n,true):=by simp[eX,c,d]
   exact yy
 have e:eX n way index=(n,true):=by simp[eX,w0,w1]
 rw[e];refine aJ.aN 38 h0 func111 (h:=?_);refine aC (A2 w0 w1) ?_;exact bx
end
def HQ(way index:Int)(g:iU):iU:={ g with aX:=g.aX.map (EZ way index) }
def AP(way index:Int)(s:bW):bW:={ s with aU:=s.aU.map (HQ way index) }
def qJ(way index:Int)(d:bD):bD:={ d with stops:=d.stops.map (AP way index) }
def iL(way index:Int)(o:aP):aP:={ o with aD:=o.aD.map (qJ way index) }
def x6(way index:Int)(o:aP):Prop:=∀d∈o.aD,∀s∈d.stops,∀g∈s.aU,∀w∈g.aX,okW way index w=true
theorem iI.aEq{bJ σ1:Gb}{lo:Nat}{o:aP}{p:PD}{iR iD iC:Nat}{ds:Fz}{tS:Nat->Nat}{tss:Fy}{tG:Nat->Nat->Nat}{tgs:Fx}{tW:Nat->Nat->Nat->Nat}{way index:Int}(hO:iI bJ lo o p iR iD iC ds tS tss tG tgs tW)(hI:pO bJ σ1 lo o tW way index (λ_ _ _=>True)) :
  x6 way index o/\iI σ1 lo (iL way index o) p iR iD iC ds tS tss tG tgs tW:=by
 have hk:∀ {id:Nat} {t:TypeId} {n v:Nat} {cs:Gc},t≠89->bJ[id]?=some (.row t n v cs)->σ1[id]?=some (.row t n v cs):=λht h=>hI.aQ _ _ (λcs e=>ht (aB.row.inj e).1) h
 refine⟨λd hd s hs g hg w hw=>?_,?_⟩
 .obtain⟨a,ha,rfl⟩:=yCA hd;obtain⟨b,hb,rfl⟩:=yCA hs;obtain⟨c,hc,rfl⟩:=yCA hg;exact(hI.done a b c ha hb hc trivial).1 w hw
 obtain⟨h1,h2,h3,h4,h5,h6,h7,h8⟩:=hO;refine⟨?_,λh=>⟨(h2 h).1,hk Al (h2 h).2⟩,λh=>⟨(h3 h).1,hk Al (h3 h).2⟩,by simp[iL,h4],λh=>⟨(h5 Er).1,hk Al (h5 Er).2⟩,λd h=>?_,λd d' h h' p q=>?_,λd d' s s' g g' h h' k k' l l' p q=>?_⟩
 .rw[h1];simp[iL]
 .have h':d<o.aD.length:=by simpa [iL]using h
  obtain⟨e1,e2⟩:=h6 d h';simp only[iL,yBE,qJ,yAe];refine⟨e1,Ai,by simp[e2.len],λhp=>⟨(e2.row Cs).1,hk Al (e2.row Cs).2⟩,λs k=>?_,λs s' g g' k k' l l' p q=>?_⟩
  .have k':s<o.aD[d].stops.length:=by simpa using k
   obtain⟨f1,f2⟩:=e2.at_ s k';simp only[yBE,AP,yAe];refine⟨f1,Ai,by simp[f2.len],λhp=>⟨(f2.row Cs).1,hk Al (f2.row Cs).2⟩,λg l=>?_,λg g' l l' p q=>?_⟩
   .have l':g<o.aD[d].stops[s].aU.length:=by simpa using l
    obtain⟨q1,q2⟩:=f2.at_ g l';simp only[yBE,HQ,yAe];refine⟨q1,λhp=>?_⟩;have hp':0<o.aD[d].stops[s].aU[g].aX.length:=Cs;exact⟨(q2 hp').1,(hI.done d s g h' k' l' trivial).2 hp'⟩
   .simp only[yBE,HQ,yAe]at p q;exact f2.inj g g' (by simpa using l) (by simpa using l') p q
  .simp only[yBE,AP,HQ,yAe]at p q;exact e2.inj s s' g g' (by simpa using k) (by simpa using k') (by simpa [AP]using l) (by simpa [AP]using l') p q
 .simp only[iL,yBE,qJ,yAe]at p q;exact h7 d d' Er (by simpa [iL]using h') p q
 .simp only[iL,yBE,qJ,AP,HQ,yAe]at p q;exact h8 d d' s s' g g' Er (by simpa [iL]using h') (by simpa [iL,qJ]using k) (by simpa [iL,qJ]using k') (by simpa [iL,qJ,AP]using l) (by simpa [iL,qJ,AP]using l') p q
section
theorem x7(k id n:Nat){t:TypeId}{e:TypeId}(ht:prog.underlying t=some (.slice e)):j5 prog .len #[t] [hd k id n]=some (.int .i64 n):=by
 unfold hd;split
 .rename_i h;subst h;simp[j5,ht]
 .simp[j5,ht]
theorem o5{k id n:Nat}(h:0<n):hd k id n=.aR id 0 0 n k:=by unfold hd;rw[yAI Ah]
def rM(way index:Int)(i:Nat)(l:List dT):List dT:=(l.take i).map (EZ way index)++l.drop i
theorem PS(way index:Int)(i:Nat)(l:List dT):(rM way index i l).length=l.length:=by
 unfold rM;rw[yAa,yAe,yAt,yBg];omega
theorem aN0(way index:Int)(i:Nat)(l:List dT)(h:i<l.length):(rM way index i l)[i]'(by rw[PS];exact h)=l[i]:=by
 unfold rM;exact nw
theorem aN1(way index:Int)(i:Nat)(l:List dT)(h:i<l.length):(rM way index i l).set i (EZ way index l[i])=rM way index (i+1) l:=by
 unfold rM;exact sj
theorem aN2(l:List dT):(lT l).length=l.length*2:=by
 unfold lT;rw[nH (sz:=2) _ (λg h=>Cv),yAe]
theorem aN3(l:List dT)(i:Nat)(h:i<l.length):((lT l).drop (i*2)).take 1=[.int .i64 l[i].aG]:=by
 have h1:=tP (sz:=2) (l.map λw=>[PD.int .i64 w.aG,.int .i64 w.shift]) i Cc (λg h=>Cv);rw[yBE]at h1;unfold lT;have h2:=yAK (List.take 1) h1;rw[yCj]at h2;exact h2
theorem aN4(l:List dT)(i:Nat)(h:i<l.length)(r:Int):dG (lT l) (i*2) [.int .i64 r]=lT (l.set i ⟨r,l[i].shift⟩):=by
 have h1:=wH (sz:=2) (new:=[.int .i64 r]) (j:=0) Ai (l.map λw=>[PD.int .i64 w.aG,.int .i64 w.shift]) i Cc (λg h=>Cv);rw[yBE,yBo]at h1;unfold lT;rw[h1,yCK];rfl
variable{E E0:aE}(hU:aH E)
include hU
theorem aNt{gM:Fw}(h0:E 81=none)(h1:E 111=some gM)(way index:Int)
  (hM:∀n,-1000000000<=n/\n<=1000000000->∀fl σ,gM fl [.int .i64 n,.int .i64 way,.int .i64 index] σ=some (.aI [.int .i64 (eX n way index).1,.bool (eX n way index).2],σ))
  (o:aP) (p:PD) (bJ:List aB) (lo iR iD iC:Nat) (ds:List (List PD)) (tS:Nat->Nat) (tss:Nat->List (List PD)) (tG:Nat->Nat->Nat) (tgs:Nat->Nat->List (List PD)) (tW:Nat->Nat->Nat->Nat) (hO:iI bJ lo o p iR iD iC ds tS tss tG tgs tW) (hlo:lo<=bJ.length) (ho:gG o)
  (hb:∀d∈o.aD,∀s∈d.stops,∀g∈s.aU,∀w∈g.aX,-1000000000<=w.aG/\w.aG<=1000000000) (hw:-1000000000<=way/\way<=1000000000) :
  aL prog E 0 (.inl 81) [p,.int .i64 way,.int .i64 index] bJ (λq σ'=>∃b:Bool,q=.bool b/\(b=true->x6 way index o/\iI σ' lo (iL way index o) p iR iD iC ds tS tss tG tgs tW/\bJ.length<=σ'.length/\∀id,id<lo->σ'[id]?=bJ[id]?)/\(b=false->¬x6 way index o/\bJ.length<=σ'.length/\∀id,id<lo->σ'[id]?=bJ[id]?)):=by
 have hp:=hO.p;subst hp;obtain⟨hR,hhR⟩:=gn (Go.Kz.hd 6 iR o.aM.length);obtain⟨hD,hhD⟩:=gn (Go.Kz.hd 5 iD o.aD.length);obtain⟨hC,hhC⟩:=gn (Go.Kz.hd 5 iC o.aO.length);have lD:=x7 5 iD o.aD.length underlying32;have pR:hR.plain=true:=Az;have pD:hD.plain=true:=Ba;have pC:hC.plain=true:=Bb;unfold PD.plain at pR pD pC;simp only[hhR,hhD,hhC]at hO lD ⊢;simp[j5,underlying32]at lD;obtain⟨L0,sS⟩:=gn (bJ.length);refine aL.aN 67 h0 func81 (h:=?_);apply WL.zF Ao;apply SL.box (p:=.agg [.str o.name,hR,hD,hC]) (hw:=Wt.i rfl) (hx:=rfl) (hp:=by simp[pR,pD,pC]) (hr:=Ns.i rfl) (hn:=Ns.i rfl) (hf:=Fr.i rfl);refine oU lD ?_;apply SQ.nil;refine aC (A2 lD sS) ?_;rw[sS];have hst:=(pO.start (way:=way) (index:=index) hO).app hlo [aB.box (.agg [.str o.name,hR,hD,hC])];refine Wp.cZ (λm fr σ=>∃(d:Nat) (σ1:List aB),∃gg:Nat->PD,(d+m=o.aD.length/\pO bJ σ1 lo o tW way index (λa _ _=>a<d))/\fr=gg 0::.int .i64 way::.int .i64 index::gg 3::gg 4::gg 5::.bool false::gg 7::gg 8::gg 9::gg 10::gg 11::gg 12::gg 13::gg 14::gg 15::gg 16::hD::.int .i64 o.aD.length::.int .i64 d::gg 20::gg 21::gg 22::gg 23::gg 24::gg 25::gg 26::gg 27::gg 28::gg 29::gg 30::gg 31::gg 32::gg 33::gg 34::gg 35::gg 36::gg 37::gg 38::gg 39::gg 40::gg 41::gg 42::gg 43::gg 44::gg 45::gg 46::gg 47::gg 48::gg 49::gg 50::gg 51::gg 52::gg 53::gg 54::gg 55::gg 56::gg 57::gg 58::gg 59::gg 60::gg 61::gg 62::gg 63::gg 64::gg 65::gg 66::[]/\σ=σ1) ?_ (o.aD.length) (by refine⟨0,(bJ++[aB.box (.agg [.str o.name,hR,hD,hC])]),?_⟩;exact eS (⟨Ah,hst.congr λa b c _ _ _=>Ai⟩) @sS)
 rintro m fr σ ⟨d,σ1,gg,hI,rfl,rfl⟩
 obtain⟨hm,hI⟩:=hI;have hod:=ho.2.1.1
 by_cases hi:d<o.aD.length
 .have hzo:=ho.2.1.2 _ (yAm hi);have q1:(d:Int)<(o.aD.length:Int):=Ah;have hDr:hD=.aR iD 0 0 o.aD.length 5:=by rw[<-hhD];exact o5 Ah
  have v2:=hI.aQ _ _ (λcs e=>absurd (aB.row.inj e).1 Al) (hO.row Ah).2;obtain⟨e1,e2⟩:=hO.at_ d hi;have jC:∀g∈ds,g.length=5:=λg h=>by
   exact mm
  have hat:=tP (sz:=5) ds d (by rw[hO.len];exact hi) jC;have hlen:=nH (sz:=5) ds jC;rw[(yA.1 e1).2]at hat;obtain⟨fs,hfs⟩:=gn (ds.flatten);rw[hfs]at v2 hlen hat;obtain⟨z,hz⟩:=gn (o.aD[d]);rw[hz]at hat e2 hzo;have hos:=hzo.1;obtain⟨r2,y2⟩:=yA.1 v2;have gK:d*5+5<=fs.length:=by rw[hlen,hO.len];omega
  have xk:jZ prog 32 (.aR iD 0 0 o.aD.length 5) (.int .i64 d)=some (.dH iD 0 (d*5)):=by
   simp[lH,hi]
  obtain⟨hS,hhS⟩:=gn (Go.Kz.hd 4 (tS d) z.stops.length);have pS:hS.plain=true:=Dn;have cS:hS.cells=[hS]:=Dp;have lS:=x7 4 (tS d) z.stops.length underlying51;unfold PD.plain at pS;unfold PD.cells at cS;rw[hhS]at hat lS;simp[j5,underlying51]at lS;have j0:∀x:aB,(σ++[x])[σ.length]?=some x:=λx=>Ai
  rw[hDr];refine aC (A12 q1 hi xk @v2 r2 y2 gK hat j0 pS cS lS) ?_;have hI1:=hI.app hlo [aB.box (.agg [.str z.name,.bool z.eE,.int .i64 z.low,.int .i64 z.high,hS])];obtain⟨M,hM'⟩:∃M,M=m:=⟨_,rfl⟩;rw[<-hM']at hm ⊢;obtain⟨ρ1,aN5⟩:=gn (σ++[aB.box (.agg [.str z.name,.bool z.eE,.int .i64 z.low,.int .i64 z.high,hS])]);rw[aN5]at hI1 ⊢;have hsl:z.stops.length=o.aD[d].stops.length:=by rw[hz]
  refine Wp.cZ (λm fr σ=>∃(s:Nat) (σ1:List aB),∃gg:Nat->PD,(s+m=z.stops.length/\pO bJ σ1 lo o tW way index (λa b _=>a<d\/(a=d/\b<s)))/\fr=gg 0::.int .i64 way::.int .i64 index::gg 3::gg 4::gg 5::.bool false::gg 7::gg 8::gg 9::gg 10::gg 11::gg 12::gg 13::gg 14::gg 15::gg 16::.aR iD 0 0 o.aD.length 5::.int .i64 o.aD.length::.int .i64 d::gg 20::gg 21::gg 22::gg 23::hS::.int .i64 z.stops.length::.int .i64 s::gg 27::gg 28::gg 29::gg 30::gg 31::gg 32::gg 33::gg 34::gg 35::gg 36::gg 37::gg 38::gg 39::gg 40::gg 41::gg 42::gg 43::gg 44::gg 45::gg 46::gg 47::gg 48::gg 49::gg 50::gg 51::gg 52::gg 53::gg 54::gg 55::gg 56::gg 57::gg 58::gg 59::gg 60::gg 61::gg 62::gg 63::gg 64::gg 65::gg 66::[]/\σ=σ1) ?_ (z.stops.length) (by refine⟨0,ρ1,?_⟩;exact cF (⟨Ah,hI1.congr λa b c _ _ _=>Ai⟩))
  rintro m fr σ ⟨s,σ1,gg,hI,rfl,rfl⟩
  obtain⟨hm2,XJ⟩:=hI
  by_cases hi2:s<z.stops.length
  .have q1:(s:Int)<(z.stops.length:Int):=by omega
   have hwo:=hzo.2 _ (yAm hi2);have hSr:hS=.aR (tS d) 0 0 z.stops.length 4:=by rw[<-hhS];exact o5 Ah
   have v2:=XJ.aQ _ _ (λcs e=>absurd (aB.row.inj e).1 Al) (e2.row Ah).2;obtain⟨f1,f2⟩:=e2.at_ s hi2;have jC:∀g∈tss d,g.length=4:=λg h=>by
    obtain⟨a,ha,rfl⟩:=yCA h;have h1:=(e2.at_ a (by rw[<-e2.len];exact ha)).1;rw[yAh ha]at h1;rw[yAU h1];rfl
   have hat:=tP (sz:=4) (tss d) s (by rw[e2.len];exact hi2) jC;have hlen:=nH (sz:=4) (tss d) jC;rw[(yA.1 f1).2]at hat;obtain⟨fs,hfs⟩:=gn ((tss d).flatten);rw[hfs]at v2 hlen hat;obtain⟨w,wR⟩:=gn (z.stops[s]);rw[wR]at hat f2 hwo;have hog:=hwo.1;obtain⟨r2,y2⟩:=yA.1 v2;have gK:s*4+4<=fs.length:=by rw[hlen,e2.len];omega
   have xk:jZ prog 51 (.aR (tS d) 0 0 z.stops.length 4) (.int .i64 s)=some (.dH (tS d) 0 (s*4)):=by
    simp[lH,hi2]
   obtain⟨hG,hhG⟩:=gn (Go.Kz.hd 3 (tG d s) w.aU.length);have pG:hG.plain=true:=by rw[<-hhG];exact eQ _ _ _
   have cG:hG.cells=[hG]:=by rw[<-hhG];exact jU _ _ _
   have lG:=x7 3 (tG d s) w.aU.length underlying54;unfold PD.plain at pG;unfold PD.cells at cG;rw[hhG]at hat lG;simp[j5,underlying54]at lG;have j0:∀x:aB,(σ++[x])[σ.length]?=some x:=λx=>Ai
   rw[hSr];refine aC (A12 q1 hi2 xk @v2 r2 y2 gK hat j0 pG cG lG) ?_;have HP:=XJ.app hlo [aB.box (.agg [.str w.name,.int .i64 w.num,.int .i64 w.den,hG])];obtain⟨M2,CN⟩:∃M,M=m:=⟨_,rfl⟩;rw[<-CN]at hm2 ⊢;obtain⟨ρ2,oW⟩:=gn (σ++[aB.box (.agg [.str w.name,.int .i64 w.num,.int .i64 w.den,hG])]);rw[oW]at HP ⊢;have hgl:∀(h:s<o.aD[d].stops.length),w.aU.length=o.aD[d].stops[s].aU.length:=λh=>by subst hz;rw[<-wR]
   refine Wp.cZ (λm fr σ=>∃(g:Nat) (σ1:List aB),∃gg:Nat->PD,(g+m=w.aU.length/\pO bJ σ1 lo o tW way index (λa b c=>a<d\/(a=d/\(b<s\/(b=s/\c<g)))))/\fr=gg 0::.int .i64 way::.int .i64 index::gg 3::gg 4::gg 5::.bool false::gg 7::gg 8::gg 9::gg 10::gg 11::gg 12::gg 13::gg 14::gg 15::gg 16::.aR iD 0 0 o.aD.length 5::.int .i64 o.aD.length::.int .i64 d::gg 20::gg 21::gg 22::gg 23::.aR (tS d) 0 0 z.stops.length 4::.int .i64 z.stops.length::.int .i64 s::gg 27::gg 28::gg 29::gg 30::hG::.int .i64 w.aU.length::.int .i64 g::gg 34::gg 35::gg 36::gg 37::gg 38::gg 39::gg 40::gg 41::gg 42::gg 43::gg 44::gg 45::gg 46::gg 47::gg 48::gg 49::gg 50::gg 51::gg 52::gg 53::gg 54::gg 55::gg 56::gg 57::gg 58::gg 59::gg 60::gg 61::gg 62::gg 63::gg 64::gg 65::gg 66::[]/\σ=σ1) ?_ (w.aU.length) (by refine⟨0,ρ2,?_⟩;exact cF (⟨Ah,HP.congr λa b c _ _ _=>Ai⟩))
   rintro m fr σ ⟨g,σ1,gg,hI,rfl,rfl⟩
   obtain⟨hm3,HP⟩:=hI
   by_cases xZ:g<w.aU.length
   .have q1:(g:Int)<(w.aU.length:Int):=by omega
    have how:=hwo.2 _ (yAm xZ);have hGr:hG=.aR (tG d s) 0 0 w.aU.length 3:=by rw[<-hhG];exact o5 Ah
    have v2:=HP.aQ _ _ (λcs e=>absurd (aB.row.inj e).1 Al) (f2.row Ah).2;obtain⟨k1,k2⟩:=f2.at_ g xZ;have jC:∀x∈tgs d s,x.length=3:=λx h=>by
     obtain⟨a,ha,rfl⟩:=yCA h;have h1:=(f2.at_ a (by rw[<-f2.len];exact ha)).1;rw[yAh ha]at h1;rw[yAU h1];rfl
    have hat:=tP (sz:=3) (tgs d s) g (by rw[f2.len];exact xZ) jC;have hlen:=nH (sz:=3) (tgs d s) jC;rw[(yA.1 k1).2]at hat;obtain⟨fs,hfs⟩:=gn ((tgs d s).flatten);rw[hfs]at v2 hlen hat;obtain⟨y,qH⟩:=gn (w.aU[g]);rw[qH]at hat k2 how;have how':y.aX.length<=1000000:=how;obtain⟨r2,y2⟩:=yA.1 v2;have gK:g*3+3<=fs.length:=by rw[hlen,f2.len];omega
    have xk:jZ prog 54 (.aR (tG d s) 0 0 w.aU.length 3) (.int .i64 g)=some (.dH (tG d s) 0 (g*3)):=by
     simp[lH,xZ]
    obtain⟨hW,hhW⟩:=gn (Go.Kz.hd 2 (tW d s g) y.aX.length);have pW:hW.plain=true:=by rw[<-hhW];exact eQ _ _ _
    have cW:hW.cells=[hW]:=by rw[<-hhW];exact jU _ _ _
    have lW:=x7 2 (tW d s g) y.aX.length underlying90;unfold PD.plain at pW;unfold PD.cells at cW;rw[hhW]at hat lW;simp[j5,underlying90]at lW;have j0:∀x:aB,(σ++[x])[σ.length]?=some x:=λx=>Ai
    rw[hGr];refine aC (A12 q1 xZ xk @v2 r2 y2 gK hat j0 pW cW lW) ?_;have KN:=HP.app hlo [aB.box (.agg [.int .i64 y.lo,.int .i64 y.hi,hW])];obtain⟨M3,hM3⟩:∃M,M=m:=⟨_,rfl⟩;rw[<-hM3]at hm3 ⊢;obtain⟨BG,hBG⟩:=gn (σ.length);have vG:(σ++[aB.box (.agg [.int .i64 y.lo,.int .i64 y.hi,hW])])[BG]?=some (.box (.agg [.int .i64 y.lo,.int .i64 y.hi,hW])):=by rw[<-hBG];exact j0 _
    obtain⟨PT,aN6⟩:=gn (σ++[aB.box (.agg [.int .i64 y.lo,.int .i64 y.hi,hW])]);rw[aN6]at KN vG ⊢;rw[hBG];have hyo:o.aD[d].stops[s]' Ah=w:=by subst hz;exact wR
    have hyl:∀(h:g<(o.aD[d].stops[s]' Ah).aU.length),(o.aD[d].stops[s]' Ah).aU[g]=y:=λh=>by simp only[hyo];exact qH
    have hgL:g<(o.aD[d].stops[s]' Ah).aU.length:=by rw[hyo];exact xZ
    have vT:0<y.aX.length->PT[tW d s g]?=some (.row 89 2 0 (lT y.aX)):=λhp=>by
     have h1:=KN.rest d s g hi Ah hgL Ah (by rw[hyl hgL];exact hp);rw[hyl hgL]at h1;exact h1
    have hyM:y∈(o.aD[d].stops[s]' Ah).aU:=by rw[<-hyl hgL];exact yAm hgL
    have hby:∀x∈y.aX,-1000000000<=x.aG/\x.aG<=1000000000:=λx hx=>hb _ (yAm hi) _ (yAm (show s<o.aD[d].stops.length by omega)) y hyM x hx
    refine Wp.cZ (λm fr σ=>∃(i:Nat) (σ1:List aB),∃gg:Nat->PD,(i+m=y.aX.length/\PT.length<=σ1.length/\(∀(id:Nat) (x:aB),(0<y.aX.length->id≠tW d s g)->PT[id]?=some x->σ1[id]?=some x)/\(0<y.aX.length->σ1[tW d s g]?=some (.row 89 2 0 (lT (rM way index i y.aX))))/\(∀x∈y.aX.take i,okW way index x=true))/\fr=gg 0::.int .i64 way::.int .i64 index::gg 3::gg 4::gg 5::.bool false::gg 7::gg 8::gg 9::gg 10::gg 11::.ptr BG 0::gg 13::gg 14::gg 15::gg 16::.aR iD 0 0 o.aD.length 5::.int .i64 o.aD.length::.int .i64 d::gg 20::gg 21::gg 22::gg 23::.aR (tS d) 0 0 z.stops.length 4::.int .i64 z.stops.length::.int .i64 s::gg 27::gg 28::gg 29::gg 30::.aR (tG d s) 0 0 w.aU.length 3::.int .i64 w.aU.length::.int .i64 g::gg 34::gg 35::gg 36::gg 37::hW::.int .i64 y.aX.length::.int .i64 i::gg 41::gg 42::gg 43::gg 44::gg 45::gg 46::gg 47::gg 48::gg 49::gg 50::gg 51::gg 52::gg 53::gg 54::gg 55::gg 56::gg 57::gg 58::gg 59::gg 60::gg 61::gg 62::gg 63::gg 64::gg 65::gg 66::[]/\σ=σ1) ?_ (y.aX.length) (by refine⟨0,PT,?_⟩;exact cF (⟨Ah,yAk _,λid x _ h=>h,vT,λx h=>Br⟩))
    rintro m fr σ ⟨i,σ1,gg,hI,rfl,rfl⟩
    obtain⟨hm4,nW,dO,EV,EW⟩:=hI
    by_cases hi4:i<y.aX.length
    .have q1:(i:Int)<(y.aX.length:Int):=by omega
     have hWr:hW=.aR (tW d s g) 0 0 y.aX.length 2:=by rw[<-hhW];exact o5 Ah
     have vt:=EV Ah;have vg:=dO BG _ (λh e=>by rw[e,vT h]at vG;cases vG) vG;obtain⟨rT,yT⟩:=yA.1 vt;obtain⟨rG,yG⟩:=yA.1 vg;have hat:=aN3 (rM way index i y.aX) i (by rw[PS];exact hi4);have hlen:=aN2 (rM way index i y.aX);have hfl:=aN4 (rM way index i y.aX) i (by rw[PS];exact hi4) (eX y.aX[i].aG way index).1;rw[PS]at hlen;rw[aN0 way index i y.aX hi4]at hat hfl;have hms:=aN1 way index i y.aX hi4;have hmw:EZ way index y.aX[i]=⟨(eX y.aX[i].aG way index).1,y.aX[i].shift⟩:=rfl;rw[hmw]at hms;rw[hms]at hfl;have hMi:=hM _ (hby _ (yAm hi4));obtain⟨fs4,aN7⟩:=gn (lT (rM way index i y.aX));rw[aN7]at vt hlen hat hfl yT;have EX:i*2+1<=fs4.length:=Ah;have EY:jZ prog 90 (.aR (tW d s g) 0 0 y.aX.length 2) (.int .i64 i)=some (.dH (tW d s g) 0 (i*2)):=by
      simp[lH,hi4]
     rw[hWr]at vg yG;rw[hWr];obtain⟨r,hr⟩:=gn (y.aX[i].aG);rw[hr]at hat hfl hMi;obtain⟨ok,hok⟩:=gn ((eX r way index).2);obtain⟨nr,hnr⟩:=gn ((eX r way index).1);rw[hok,hnr]at hMi;rw[hnr]at hfl;simp only[dG,yAT,yAQ,yAp,Nat.reduceAdd,yBW,yAi,yAR,yAO]at hfl;have aEp:fs4[i*2]' Ah=.int .i64 r:=by
      rw[yAq Ah,yDG]at hat;exact(List.cons.inj hat).1
     have hokw:okW way index y.aX[i]=ok:=by rw[<-hok,<-hr];rfl
     cases ok with
     |true=>
      refine aC Ac ?_;have hto:∀x∈y.aX.take (i+1),okW way index x=true:=λx hx=>by
       rw[yBC hi4]at hx;rcases yBf.1 hx with hx|hx
       .exact EW x hx
       .rw[yCM.1 hx];exact hokw
      obtain⟨cY,eI⟩:=gn (σ.set (tW d s g) (.row 89 2 0 (lT (rM way index (i+1) y.aX))));refine bV.normal (m-1) Ah (by refine⟨i+1,cY,?_⟩;exact eS (⟨Ah,by rw[<-eI,yAD];exact nW,λid x h hx=>by rw[<-eI,yAd (yAW (h Ah))];exact dO id x h hx,λ_=>by rw[<-eI];exact yAj rT,hto⟩) @eI)
     |false=>
      refine aC Ac ?_;refine⟨_,_,rfl,false,rfl,(λh=>Ap),λ_=>⟨λhx=>?_,yAV (by rw[<-sS];exact KN.len) nW,λid hid=>?_⟩⟩
      .have hx1:=hx _ (yAm hi) _ (yAm (show s<o.aD[d].stops.length by omega)) y hyM _ (yAm hi4);rw[hokw]at hx1;cases hx1
      .have hlow:=KN.low id hid;have AN:id<bJ.length:=Ah;have hx0:bJ[id]?=some bJ[id]:=yAh AN;have hdw:=(hO.draw hi (show s<o.aD[d].stops.length by omega) hgL (by rw[hyl hgL];omega)).1;rw[hx0]at hlow ⊢;exact dO id _ (λ_ e=>absurd hid (by rw[e];exact Nat.not_lt.2 hdw)) hlow
    .have q1:¬(i:Int)<(y.aX.length:Int):=by omega
     refine aC q1 ?_;have hft:y.aX.take i=y.aX:=yAz Ah;have hmx:rM way index i y.aX=y.aX.map (EZ way index):=by unfold rM;rw[hft,yAs Ah,yAl]
     rw[hmx]at EV;rw[hft]at EW;have wI:=pO.step hO hlo KN hi (show s<o.aD[d].stops.length by omega) hgL nW (by rw[hyl hgL];exact dO) (by rw[hyl hgL];exact EW) (by rw[hyl hgL];exact EV);have hN:=wI.congr (Q:=λa b c=>a<d\/(a=d/\(b<s\/(b=s/\c<g+1)))) λa b c h k l=>Ah
     refine bV.normal (M3-1) Ah (by refine⟨g+1,σ,?_⟩;exact cF (⟨Ah,hN⟩))
   .have q1:¬(g:Int)<(w.aU.length:Int):=by omega
    refine aC q1 ?_;have hN:=HP.congr (Q:=λa b _=>a<d\/(a=d/\b<s+1)) λa b c h k l=>by
     constructor
     .rintro(h1 | ⟨h1,h2 | ⟨h2,h3⟩⟩)<;>omega
     .rintro(h1 | ⟨h1,h2⟩)
      .exact .inl h1
      .by_cases e:b=s
       .subst h1;subst e;exact .inr ⟨rfl,.inr ⟨rfl,by have:=hgl k;omega⟩⟩
       .exact .inr ⟨h1,.inl Ah⟩
    refine bV.normal (M2-1) Ah (by refine⟨s+1,σ,?_⟩;exact cF (⟨Ah,hN⟩))
  .have q1:¬(s:Int)<(z.stops.length:Int):=by omega
   refine aC q1 ?_;have hN:=XJ.congr (Q:=λa _ _=>a<d+1) λa b c h k _=>by
    constructor
    .rintro(h1 | ⟨h1,h2⟩)<;>omega
    .intro h1
     by_cases e:a=d
     .subst e;exact .inr ⟨rfl,Ah⟩
     .exact .inl Ah
   refine bV.normal (M-1) Ah (by refine⟨d+1,σ,?_⟩;exact cF (⟨Ah,hN⟩))
 .have q1:¬(d:Int)<(o.aD.length:Int):=by omega
  refine aC q1 ?_;have hT:=hI.congr (Q:=λ_ _ _=>True) λa b c h _ _=>Aw
  have hF:=hO.aEq hT;exact⟨_,_,rfl,true,rfl,λ_=>⟨hF.1,hF.2,sS▸hT.len,hT.low⟩,λh=>Ap⟩
end
section
def AL(way index:Int)(c:bP):bP:={ c with dR:=(eX c.dR way index).1,dst:=(eX c.dst way index).1 }
def wM(way index:Int)(c:bP):Bool:=(eX c.dR way index).2&&(eX c.dst way index).2
def qI(way index:Int)(o:aP):aP:={ o with aO:=o.aO.map (AL way index) }
def rL(l:List bP):List PD:=(l.map λc=>[PD.str c.name,.int .i64 c.dR,.int .i64 c.dst,.int .i64 c.shift,.bool c.o9]).flatten
theorem aEm(R:List bP):(R.map Em.aK.aA).flatMap PD.cells=rL R:=by
 unfold rL
 induction R with
 |nil=>rfl
 |cons r R ih=>simp only[yAS,yBr,yBq,ih];rfl
def qL(way index:Int)(i:Nat)(l:List bP):List bP:=(l.take i).map (AL way index)++l.drop i
theorem HN(way index:Int)(i:Nat)(l:List bP):(qL way index i l).length=l.length:=by
 unfold qL;rw[yAa,yAe,yAt,yBg];omega
theorem aNT(way index:Int)(i:Nat)(l:List bP)(h:i<l.length):(qL way index i l)[i]'(by rw[HN];exact h)=l[i]:=by
 unfold qL;exact nw
theorem aNU(way index:Int)(i:Nat)(l:List bP)(h:i<l.length):(qL way index i l).set i (AL way index l[i])=qL way index (i+1) l:=by
 unfold qL;exact sj
theorem PK(l:List bP):∀g∈(l.map λc=>[PD.str c.name,.int .i64 c.dR,.int .i64 c.dst,.int .i64 c.shift,.bool c.o9]),g.length=5:=λg h=>Cv
theorem aEn(l:List bP):(rL l).length=l.length*5:=by
 unfold rL;rw[nH (sz:=5) _ (PK l),yAe]
theorem aNV(l:List bP)(i:Nat)(h:i<l.length):((rL l).drop (i*5)).take 5=[.str l[i].name,.int .i64 l[i].dR,.int .i64 l[i].dst,.int .i64 l[i].shift,.bool l[i].o9]:=by
 have h1:=tP (sz:=5) (l.map λc=>[PD.str c.name,.int .i64 c.dR,.int .i64 c.dst,.int .i64 c.shift,.bool c.o9]) i Cc (PK l);rw[yBE]at h1;exact h1
theorem aNW(l:List bP)(i:Nat)(h:i<l.length)(r:Int):dG (rL l) (i*5+1) [.int .i64 r]=rL (l.set i { l[i]with dR:=r }):=by
 have h1:=wH (sz:=5) (new:=[.int .i64 r]) (j:=1) Ai (l.map λc=>[PD.str c.name,.int .i64 c.dR,.int .i64 c.dst,.int .i64 c.shift,.bool c.o9]) i Cc (PK l);rw[yBE]at h1;unfold rL;rw[h1,yCK];rfl
theorem aNX(l:List bP)(i:Nat)(h:i<l.length)(r:Int):dG (rL l) (i*5+2) [.int .i64 r]=rL (l.set i { l[i]with dst:=r }):=by
 have h1:=wH (sz:=5) (new:=[.int .i64 r]) (j:=2) Ai (l.map λc=>[PD.str c.name,.int .i64 c.dR,.int .i64 c.dst,.int .i64 c.shift,.bool c.o9]) i Cc (PK l);rw[yBE]at h1;unfold rL;rw[h1,yCK];rfl
theorem mD.aNY{σ σ':Gb}{lo:Nat}{d:bD}{p:PD}{iS:Nat}{ss:Fz}{tG:Nat->Nat}{tgs:Fy}{tW:Nat->Nat->Nat}(T:TypeId)(h:mD σ lo d p iS ss tG tgs tW)(ht:56≠T/\92≠T/\89≠T)(hk:∀(id:Nat) (t:TypeId) (n v:Nat) (cs:List PD),t≠T->σ[id]?=some (.row t n v cs)->σ'[id]?=some (.row t n v cs)):mD σ' lo d p iS ss tG tgs tW:=by
 obtain⟨h1,h2,h3,h4,h5⟩:=h;refine⟨h1,h2,λhp=>⟨(h3 hp).1,hk _ _ _ _ _ ht.1 (h3 hp).2⟩,λs h=>⟨(h4 s h).1,?_⟩,h5⟩;obtain⟨k1,k2,k3,k4,k5⟩:=(h4 s h).2;exact⟨k1,k2,λhp=>⟨(k3 hp).1,hk _ _ _ _ _ ht.2.1 (k3 hp).2⟩,λg h=>⟨(k4 g h).1,λhp=>⟨((k4 g h).2 hp).1,hk _ _ _ _ _ ht.2.2 ((k4 g h).2 hp).2⟩⟩,k5⟩
variable{E E0:aE}(hU:aH E)
include hU
theorem aNu{gM:Fw}(h0:E 83=none)(h1:E 111=some gM)(way index:Int)
  (hM:∀n,-1000000000<=n/\n<=1000000000->∀fl σ,gM fl [.int .i64 n,.int .i64 way,.int .i64 index] σ=some (.aI [.int .i64 (eX n way index).1,.bool (eX n way index).2],σ))
  (o:aP) (p:PD) (bJ:List aB) (lo iR iD iC:Nat) (ds:List (List PD)) (tS:Nat->Nat) (tss:Nat->List (List PD)) (tG:Nat->Nat->Nat) (tgs:Nat->Nat->List (List PD)) (tW:Nat->Nat->Nat->Nat) (hO:iI bJ lo o p iR iD iC ds tS tss tG tgs tW) (hlo:lo<=bJ.length) (ho:gG o)
  (hb:∀c∈o.aO,(-1000000000<=c.dR/\c.dR<=1000000000)/\-1000000000<=c.dst/\c.dst<=1000000000) :
  aL prog E 0 (.inl 83) [p,.int .i64 way,.int .i64 index] bJ (λq σ'=>∃b:Bool,q=.bool b/\(b=true->(∀c∈o.aO,wM way index c=true)/\iI σ' lo (qI way index o) p iR iD iC ds tS tss tG tgs tW/\bJ.length<=σ'.length/\∀id,id<lo->σ'[id]?=bJ[id]?)/\(b=false->(¬ ∀c∈o.aO,wM way index c=true)/\bJ.length<=σ'.length/\∀id,id<lo->σ'[id]?=bJ[id]?)):=by
 have EU:aH E/\True:=⟨hU,trivial⟩;clear hU;have hp:=hO.p;subst hp;obtain⟨hR,hhR⟩:=gn (Go.Kz.hd 6 iR o.aM.length);obtain⟨hD,hhD⟩:=gn (Go.Kz.hd 5 iD o.aD.length);obtain⟨hC,hhC⟩:=gn (Go.Kz.hd 5 iC o.aO.length);have lC:=x7 5 iC o.aO.length underlying33;have pR:hR.plain=true:=Az;have pD:hD.plain=true:=Ba;have pC:hC.plain=true:=Bb;unfold PD.plain at pR pD pC;simp only[hhR,hhD,hhC]at hO lC ⊢;simp[j5,underlying33]at lC;obtain⟨B,hB⟩:=gn (bJ.length);refine aL.aN 56 h0 func83 (h:=?_);apply WL.zF Ao;apply SL.box (p:=.agg [.str o.name,hR,hD,hC]) (hw:=Wt.i rfl) (hx:=rfl) (hp:=by simp[pR,pD,pC]) (hr:=Ns.i rfl) (hn:=Ns.i rfl) (hf:=Fr.i rfl);refine oU lC ?_;apply SQ.nil;refine aC (A2 lC hB) ?_;have hoc:=ho.2.2;have aWe:o.aO.length<=1000000:=hoc;obtain⟨ρ,hρ⟩:=gn (bJ++[aB.box (.agg [.str o.name,hR,hD,hC])]);rw[hρ,hB];have vB:ρ[B]?=some (.box (.agg [.str o.name,hR,hD,hC])):=by rw[<-hρ,<-hB];simp
 have PL:∀(id:Nat) (x:aB),bJ[id]?=some x->ρ[id]?=some x:=λid x h=>by rw[<-hρ];exact cE h
 have lρ:ρ.length=B+1:=by rw[<-hρ,yAa,hB];rfl
 have vC:0<o.aO.length->ρ[iC]?=some (.row 58 5 0 (rL o.aO)):=λh=>by rw[<-aEm];exact PL _ _ (hO.aK h).2
 refine Wp.cZ (λm fr σ=>∃(i:Nat) (σ1:List aB),∃gg:Nat->PD,(i+m=o.aO.length/\ρ.length<=σ1.length/\(∀(id:Nat) (x:aB),(0<o.aO.length->id≠iC)->ρ[id]?=some x->σ1[id]?=some x)/\(0<o.aO.length->σ1[iC]?=some (.row 58 5 0 (rL (qL way index i o.aO))))/\(∀x∈o.aO.take i,wM way index x=true))/\fr=[gg 0,.int .i64 way,.int .i64 index,.ptr B 0,gg 4,gg 5,.bool false,gg 7,gg 8,gg 9,gg 10,gg 11,gg 12,gg 13,hC,.int .i64 o.aO.length,.int .i64 i,gg 17,gg 18,gg 19,gg 20,gg 21,gg 22,gg 23,gg 24,gg 25,gg 26,gg 27,gg 28,gg 29,gg 30,gg 31,gg 32,gg 33,gg 34,gg 35,gg 36,gg 37,gg 38,gg 39,gg 40,gg 41,gg 42,gg 43,gg 44,gg 45,gg 46,gg 47,gg 48,gg 49,gg 50,gg 51,gg 52,gg 53,gg 54,gg 55]/\σ=σ1) ?_ (o.aO.length) (by refine⟨0,ρ,?_⟩;exact cF (⟨Ah,yAk _,λid x _ h=>h,vC,λx h=>Br⟩))
 rintro m fr σ ⟨i,σ1,gg,hI,rfl,rfl⟩
 obtain⟨hm,nW,dO,EV,EW⟩:=hI;have vg:=dO B _ (λh e=>by rw[e,vC h]at vB;cases vB) vB;have hlow:∀id,id<lo->σ[id]?=bJ[id]?:=λid hid=>by
  have AN:id<bJ.length:=Ah;have hx0:bJ[id]?=some bJ[id]:=yAh AN;rw[hx0];exact dO id _ (λh e=>absurd hid (by rw[e];exact Nat.not_lt.2 (hO.aK h).1)) (PL _ _ hx0)
 by_cases hi:i<o.aO.length
 .have q1:(i:Int)<(o.aO.length:Int):=by omega
  have hCr:hC=.aR iC 0 0 o.aO.length 5:=by rw[<-hhC];exact o5 Ah
  have vt:=EV Ah;have hat:=aNV (qL way index i o.aO) i (by rw[HN];exact hi);have hlen:=aEn (qL way index i o.aO);have iK:=aNW (qL way index i o.aO) i (by rw[HN];exact hi) (eX o.aO[i].dR way index).1;have kY:=aNX ((qL way index i o.aO).set i { o.aO[i]with dR:=(eX o.aO[i].dR way index).1 }) i (by rw[yAD,HN];exact hi) (eX o.aO[i].dst way index).1;rw[yEi,List.set_set]at kY;rw[HN]at hlen;rw[aNT way index i o.aO hi]at hat iK;have hms:=aNU way index i o.aO hi;have hmw:AL way index o.aO[i]={ o.aO[i]with dR:=(eX o.aO[i].dR way index).1,dst:=(eX o.aO[i].dst way index).1 }:=rfl;rw[hmw]at hms;simp only at kY hms;rw[hms]at kY;have hbi:=hb _ (yAm hi);have HO:=hM _ hbi.1;have CN:=hM _ hbi.2;obtain⟨f0,AO⟩:=gn (rL (qL way index i o.aO));rw[AO]at vt hlen hat iK;obtain⟨f1,x8⟩:∃c,dG f0 (i*5+1) [.int .i64 (eX o.aO[i].dR way index).1]=c:=⟨_,rfl⟩;rw[<-iK,x8]at kY;have hl1:f1.length=o.aO.length*5:=by
   rw[<-x8,iK,aEn,yAD,HN]
  have hokw:wM way index o.aO[i]=((eX o.aO[i].dR way index).2&&(eX o.aO[i].dst way index).2):=rfl;obtain⟨c,hc⟩:=gn (o.aO[i]);rw[hc]at hat x8 HO CN kY hokw;obtain⟨rT,yT⟩:=yA.1 vt;obtain⟨rG,yG⟩:=yA.1 vg;have EX:i*5+5<=f0.length:=Ah;have PM:i*5+5<=f1.length:=Ah;have PN:i*5+1+1<=f0.length:=Ah;have PQ:i*5+2+1<=f1.length:=Ah;have EY:jZ prog 33 (.aR iC 0 0 o.aO.length 5) (.int .i64 i)=some (.dH iC 0 (i*5)):=by
   simp[lH,hi]
  obtain⟨nm,a,b,sh,th⟩:=c;simp only at hat x8 HO CN kY hokw;obtain⟨RC,aEo⟩:=gn ((eX a way index).2);obtain⟨RD,nZ⟩:=gn ((eX b way index).2);obtain⟨n1,xH⟩:=gn ((eX a way index).1);obtain⟨n2,hn2⟩:=gn ((eX b way index).1);rw[aEo,xH]at HO;rw[nZ,hn2]at CN;rw[xH]at x8;rw[hn2]at kY;rw[aEo,nZ]at hokw;simp only[dG,yAT,yAQ,yAp,Nat.reduceAdd,yBW,yAi,yAR,yAO]at x8 kY;have j0:∀x:aB,(σ++[x])[σ.length]?=some x:=λx=>Ai
  have PR:=fun(L:List aB)=>cE (τ:=L) vt
  have KM:=fun(L:List aB)=>cE (τ:=L) vg
  rw[hCr]at vg yG KM;rw[hCr];cases RC with
  |true=>
   cases RD with
   |true=>
    refine aC (A20 q1 hi EY vt rT yT vg rG yG EX PM PN PQ hat h1 HO CN x8 kY (A3 j0 PR KM)) ?_;obtain⟨σ2,dL⟩:=gn (σ++[aB.box (.agg [.str nm,.int .i64 a,.int .i64 b,.int .i64 sh,.bool th])]);have u0:=KM [aB.box (.agg [.str nm,.int .i64 a,.int .i64 b,.int .i64 sh,.bool th])];have u7:=PR [aB.box (.agg [.str nm,.int .i64 a,.int .i64 b,.int .i64 sh,.bool th])];have lN:σ.length<=σ2.length:=by rw[<-dL,yAa];omega
    have hk2:∀(id:Nat) (x:aB),σ[id]?=some x->σ2[id]?=some x:=λid x h=>by rw[<-dL];exact cE h
    rw[dL]at u0 u7 ⊢;obtain⟨r7,y7⟩:=yA.1 u7;obtain⟨w0,z0⟩:=yA.1 u0;refine Wp.aNZ EU.1 [some (46,52)] Ao Aj ?_;refine kH (A14 u0 w0 @z0 u7 r7 y7 EY hi EX PM PN PQ x8 kY) ?_;apply SQ.nil;refine⟨⟨λx y hx hy e=>?_,trivial⟩,?_⟩
    .have hx':some B=some x:=hx;have hy':some iC=some y:=hy;have e2:B=iC:=by rw[yAU hx',yAU hy'];exact e
     rw[e2,u7]at u0;cases u0
    refine aC q1 ?_;obtain⟨cY,eI⟩:=gn (σ2.set iC (.row 58 5 0 (rL (qL way index (i+1) o.aO))));have hto:∀x∈o.aO.take (i+1),wM way index x=true:=λx hx=>by
     rw[yBC hi]at hx;rcases yBf.1 hx with hx|hx
     .exact EW x hx
     .rw[yCM.1 hx,hc];exact hokw
    refine bV.normal (m-1) Ah (by refine⟨i+1,cY,?_⟩;exact eS (⟨Ah,Dh,λid x h hx=>by rw[<-eI,yAd (yAW (h Ah))];exact hk2 _ _ (dO id x h hx),λ_=>by rw[<-eI];exact yAj r7,hto⟩) @eI)
   |false=>
    exact ec
  |false=>
   exact ec
 .have q1:¬(i:Int)<(o.aO.length:Int):=by omega
  refine aC q1 ?_;have hft:o.aO.take i=o.aO:=yAz Ah;have hmx:qL way index i o.aO=o.aO.map (AL way index):=by unfold qL;rw[hft,yAs Ah,yAl]
  rw[hmx]at EV;rw[hft]at EW;have hk:∀(id:Nat) (t:TypeId) (n v:Nat) (cs:List PD),t≠58->bJ[id]?=some (.row t n v cs)->σ[id]?=some (.row t n v cs):=λid t n v cs ht h=>dO id _ (λhp e=>by rw[e,(hO.aK hp).2]at h;exact ht (aB.row.inj (yAU h)).1.symm) (PL _ _ h)
  refine⟨_,_,rfl,true,rfl,λ_=>⟨EW,?_,by show B<=σ.length;omega,λid h=>?_⟩,λh=>Ap⟩
  .obtain⟨g1,g2,g3,g4,g5,g6,g7,g8⟩:=hO;refine⟨?_,λh=>⟨(g2 h).1,hk _ _ _ _ _ Al (g2 h).2⟩,λh=>?_,g4,λh=>⟨(g5 h).1,hk _ _ _ _ _ Al (g5 h).2⟩,λd h=>⟨(g6 d h).1,(g6 d h).2.aNY 58 Al hk⟩,g7,g8⟩
   .rw[g1];simp[qI]
   .have h':0<o.aO.length:=by simpa [qI]using h
    refine⟨(g3 h').1,?_⟩;rw[aEm];exact EV h'
  .have hz:id<bJ.length:=by omega
   show σ[id]?=bJ[id]?
   rw[yAh hz];exact dO id _ (λhp e=>by have:=(hO.aK hp).1;omega) (PL _ _ (yAh hz))
end
end Go.Kz
