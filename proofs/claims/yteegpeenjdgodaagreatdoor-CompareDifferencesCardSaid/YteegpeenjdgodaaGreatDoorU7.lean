/- Steps of the proof. -/
import Derived.Test.YteegpeenjdgodaaGreatDoorU1
import Derived.Test.YteegpeenjdgodaaGreatDoorT1
set_option linter.all false
set_option maxHeartbeats 40000000
set_option maxRecDepth 100000
open Go.Proofs.Tryz
namespace Go.Kz
open Go Go.Proofs
section
def DA(f:cT->cT)(g:gL):gL:={ g with aT:=g.aT.map f }
def w5(f:cT->cT)(s:bU):bU:={ s with aO:=s.aO.map (DA f) }
def vE(f:cT->cT)(d:bD):bD:={ d with stops:=d.stops.map (w5 f) }
def lH(f:cT->cT)(o:aM):aM:={ o with aD:=o.aD.map (vE f) }
def y5(fm b r:Int):Int:=if fm<=r then r+b else r
def kQ(fm b:Int)(w:cT):cT:=⟨y5 fm b w.aG,w.shift⟩
def uI(fm:Int)(w:cT):Bool:=decide (w.aG=fm)
theorem aP0(k id v n:Nat){t:TypeId}{e:TypeId}(ht:prog.underlying t=some (.slice e)):jE prog .len #[t] [hb k id v n]=some (.int .i64 n):=by
 unfold hb;split
 .rename_i h;subst h;simp[jE,ht]
 .simp[jE,ht]
theorem XF(k id v n:Nat){t:TypeId}{e:TypeId}(ht:prog.underlying t=some (.slice e)):jE prog .len #[t] [hq k id v n]=some (.int .i64 n):=by
 unfold hq;split
 .rename_i h;subst h;simp[jE,ht]
 .simp[jE,ht]
def iY{α:Type}(f:α->α)(i:Nat)(l:List α):List α:=(l.take i).map f++l.drop i
theorem DZ{α:Type}(f:α->α)(i:Nat)(l:List α):(iY f i l).length=l.length:=by
 unfold iY;rw[yAa,yAe,yAt,yBd];omega
theorem XD{α:Type}(f:α->α)(i:Nat)(l:List α)(h:i<l.length):(iY f i l)[i]'(by rw[DZ];exact h)=l[i]:=by
 unfold iY;rw[List.getElem_append_right Bm];simp only[yAe,yAt,yBS (yCh h),yCx,List.getElem_drop,yBt]
theorem XE{α:Type}(f:α->α)(i:Nat)(l:List α)(h:i<l.length):(iY f i l).set i (f l[i])=iY f (i+1) l:=by
 unfold iY;rw[yDA _ _ Bm,yAe,yAt,yBS (yCh h),yCx,yAq h,yAY,yBG h,yAH,yAi];rfl
theorem aEQ{α:Type}(f:α->α)(i:Nat)(l:List α)(h:i<l.length)(he:f l[i]=l[i]):iY f i l=iY f (i+1) l:=by
 rw[<-XE f i l h,he];have e:∀(a:List α) (h:i<a.length),a=a.set i a[i]:=λa h=>yg
 have h2:=e (iY f i l) (by rw[DZ];exact h);rw[XD f i l h]at h2;exact h2
structure o8 (bP σ1:List aB) (lo:Nat) (o:aM) (tW:Nat->Nat->Nat->Nat) (fm b:Int) (P:Nat->Nat->Nat->Prop) (hs:Bool):Prop where
 len:bP.length<=σ1.length
 low:∀id,id<lo->σ1[id]?=bP[id]?
 bF:∀(id:Nat) (x:aB),(∀cs,x≠.row 89 2 0 cs)->bP[id]?=some x->σ1[id]?=some x
 done:∀d s g (h:d<o.aD.length) (k:s<o.aD[d].stops.length) (l:g<o.aD[d].stops[s].aO.length),P d s g->0<o.aD[d].stops[s].aO[g].aT.length->σ1[tW d s g]?=some (.row 89 2 0 (jJ (o.aD[d].stops[s].aO[g].aT.map (kQ fm b))))
 rest:∀d s g (h:d<o.aD.length) (k:s<o.aD[d].stops.length) (l:g<o.aD[d].stops[s].aO.length),¬P d s g->0<o.aD[d].stops[s].aO[g].aT.length->σ1[tW d s g]?=some (.row 89 2 0 (jJ o.aD[d].stops[s].aO[g].aT))
 has:hs=true↔∃d s g,∃(h:d<o.aD.length) (k:s<o.aD[d].stops.length) (l:g<o.aD[d].stops[s].aO.length),P d s g/\o.aD[d].stops[s].aO[g].aT.any (uI fm)=true
theorem o8.app{bP σ1:Ex}{lo:Nat}{o:aM}{tW:Nat->Nat->Nat->Nat}{fm b:Int}{P:Nat->Nat->Nat->Prop}{hs:Bool}(h:o8 bP σ1 lo o tW fm b P hs)(hl:lo<=bP.length)(L:List aB):o8 bP (σ1++L) lo o tW fm b P hs:=by
 obtain⟨h1,h2,h3,h4,h5,h6⟩:=h;exact⟨by rw[yAa];omega,λid hi=>by rw[yAg ye];exact h2 id hi,λid x hx h=>cL (h3 id x hx h),λd s g h k l hp q=>cL (h4 d s g h k l hp q),λd s g h k l hp q=>cL (h5 d s g h k l hp q),h6⟩
theorem o8.congr{bP σ1:Ex}{lo:Nat}{o:aM}{tW:Nat->Nat->Nat->Nat}{fm b:Int}{P Q:Nat->Nat->Nat->Prop}{hs:Bool}(h:o8 bP σ1 lo o tW fm b P hs)(hq:∀d s g (h:d<o.aD.length) (k:s<o.aD[d].stops.length) (l:g<o.aD[d].stops[s].aO.length),P d s g↔Q d s g):o8 bP σ1 lo o tW fm b Q hs:=by
 obtain⟨h1,h2,h3,h4,h5,h6⟩:=h;refine⟨h1,h2,h3,λd s g h k l hp=>h4 d s g h k l ((hq d s g h k l).2 hp),λd s g h k l hp q=>h5 d s g h k l (λx=>hp ((hq d s g h k l).1 x)) q,h6.trans ⟨λ⟨d,s,g,h,k,l,p,q⟩=>⟨d,s,g,h,k,l,(hq d s g h k l).1 p,q⟩,λ⟨d,s,g,h,k,l,p,q⟩=>⟨d,s,g,h,k,l,(hq d s g h k l).2 p,q⟩⟩⟩
theorem gX.draw{bP:Ex}{lo:Nat}{o:aM}{p:PD}{iR iD iC:Nat}{ds:Eu}{tS:Nat->Nat}{tss:Et}{tG:Nat->Nat->Nat}{tgs:Es}{tW:Nat->Nat->Nat->Nat}(hO:gX bP lo o p iR iD iC ds tS tss tG tgs tW){d s g:Nat}(h:d<o.aD.length)(k:s<o.aD[d].stops.length)(l:g<o.aD[d].stops[s].aO.length)(hp:0<o.aD[d].stops[s].aO[g].aT.length):lo<=tW d s g/\bP[tW d s g]?=some (.row 89 2 0 (jJ o.aD[d].stops[s].aO[g].aT)):=
 ((((hO.at_ d h).2.at_ s k).2.at_ g l).2) hp
theorem o8.start{bP:Ex}{lo:Nat}{o:aM}{p:PD}{iR iD iC:Nat}{ds:Eu}{tS:Nat->Nat}{tss:Et}{tG:Nat->Nat->Nat}{tgs:Es}{tW:Nat->Nat->Nat->Nat}{fm b:Int}(hO:gX bP lo o p iR iD iC ds tS tss tG tgs tW):o8 bP bP lo o tW fm b (λ_ _ _=>False) false:=
 ⟨yAk _,λ_ _=>rfl,λ_ _ _ h=>h,λ_ _ _ _ _ _ h=>h.elim,λ_ _ _ h k l _ hp=>(hO.draw h k l hp).2,⟨λh=>yw,λ⟨_,_,_,_,_,_,h,_⟩=>h.elim⟩⟩
theorem o8.step{bP σ1 σ2:Ex}{lo:Nat}{o:aM}{p:PD}{iR iD iC:Nat}{ds:Eu}{tS:Nat->Nat}{tss:Et}{tG:Nat->Nat->Nat}{tgs:Es}{tW:Nat->Nat->Nat->Nat}{fm b:Int}{P:Nat->Nat->Nat->Prop}{hs:Bool}(hO:gX bP lo o p iR iD iC ds tS tss tG tgs tW)(hl:lo<=bP.length)(hI:o8 bP σ1 lo o tW fm b P hs)
  {d s g:Nat} (h:d<o.aD.length) (k:s<o.aD[d].stops.length) (l:g<o.aD[d].stops[s].aO.length)
  (hlen:σ1.length<=σ2.length) (hk:∀(id:Nat) (x:aB),(0<o.aD[d].stops[s].aO[g].aT.length->id≠tW d s g)->σ1[id]?=some x->σ2[id]?=some x)
  (hrow:0<o.aD[d].stops[s].aO[g].aT.length->σ2[tW d s g]?=some (.row 89 2 0 (jJ (o.aD[d].stops[s].aO[g].aT.map (kQ fm b))))) :
  o8 bP σ2 lo o tW fm b (λa b c=>P a b c\/(a=d/\b=s/\c=g)) (hs||o.aD[d].stops[s].aO[g].aT.any (uI fm)):=by
 obtain⟨h1,h2,h3,h4,h5,h6⟩:=hI;refine⟨ye,λid hi=>?_,λid x hx hi=>?_,λa b c ha hb hc hp hq=>?_,λa b c ha hb hc hp hq=>?_,?_⟩
 .have hz:id<σ1.length:=by omega
  rw[hk id _ (λhp=>by have:=(hO.draw h k l hp).1;omega) (yAh hz),<-h2 id hi,yAh hz]
 .refine hk id x (λhp e=>?_) (h3 id x hx hi);have:=(hO.draw h k l hp).2;rw[<-e,hi]at this;exact hx _ (yBe this)
 .by_cases e:a=d/\b=s/\c=g
  .obtain⟨rfl,rfl,rfl⟩:=e;exact hrow hq
  .have hp':=hp.resolve_right e;exact hk _ _ (λhr e2=>e (hO.U1 a d b s c g ha h hb k hc l hq hr e2)) (h4 a b c ha hb hc hp' hq)
 .refine hk _ _ (λhr e2=>hp (.inr ?_)) (h5 a b c ha hb hc (λx=>hp (.inl x)) hq);exact hO.U1 a d b s c g ha h hb k hc l hq hr e2
 .rw[yBp,h6]
  constructor
  .rintro(⟨a,b,c,ha,hb,hc,p,q⟩ | q)
   .exact⟨a,b,c,ha,hb,hc,.inl p,q⟩
   .exact⟨d,s,g,h,k,l,.inr ⟨rfl,rfl,rfl⟩,q⟩
  .rintro⟨a,b,c,ha,hb,hc,p | ⟨rfl,rfl,rfl⟩,q⟩
   .exact .inl ⟨a,b,c,ha,hb,hc,p,q⟩
   .exact .inr q
theorem gX.aCT{bP σ1:Ex}{lo:Nat}{o:aM}{p:PD}{iR iD iC:Nat}{ds:Eu}{tS:Nat->Nat}{tss:Et}{tG:Nat->Nat->Nat}{tgs:Es}{tW:Nat->Nat->Nat->Nat}{fm b:Int}{hs:Bool}(hO:gX bP lo o p iR iD iC ds tS tss tG tgs tW)(hI:o8 bP σ1 lo o tW fm b (λ_ _ _=>True) hs) :
  (hs=true↔∃d∈o.aD,∃s∈d.stops,∃g∈s.aO,g.aT.any (uI fm)=true)/\gX σ1 lo (lH (kQ fm b) o) p iR iD iC ds tS tss tG tgs tW:=by
 have hk:∀ {id:Nat} {t:TypeId} {n v:Nat} {cs:Ey},t≠89->bP[id]?=some (.row t n v cs)->σ1[id]?=some (.row t n v cs):=λht h=>hI.bF _ _ (λcs e=>ht (aB.row.inj e).1) h
 refine⟨hI.has.trans ⟨λ⟨d,s,g,h,k,l,_,q⟩=>⟨_,yAm h,_,yAm k,_,yAm l,q⟩,λ⟨d,hd,s,hs,g,hg,q⟩=>?_⟩,?_⟩
 .obtain⟨a,ha,rfl⟩:=yCO hd;obtain⟨b,hb,rfl⟩:=yCO hs;obtain⟨c,hc,rfl⟩:=yCO hg;exact⟨a,b,c,ha,hb,hc,trivial,q⟩
 obtain⟨h1,h2,h3,h4,h5,h6,h7,h8⟩:=hO;refine⟨?_,λh=>⟨(h2 h).1,hk yj (h2 h).2⟩,λh=>⟨(h3 h).1,hk yj (h3 h).2⟩,by simp[lH,h4],λh=>?_,λd h=>?_,λd d' h h' p q=>?_,λd d' s s' g g' h h' k k' l l' p q=>?_⟩
 .rw[h1];simp[lH]
 .have h':=h5 (by simpa [lH]using h);refine⟨h'.1,?_⟩;simp only[lH,yAe];exact hk yj h'.2
 .have h':d<o.aD.length:=by simpa [lH]using h
  obtain⟨e1,e2⟩:=h6 d h';simp only[lH,yBE,vE,yAe];refine⟨e1,by simp[e2.len],λhp=>?_,λs k=>?_,λs s' g g' k k' l l' p q=>?_⟩
  .simp only[yAe]at hp ⊢;exact⟨(e2.row hp).1,hk yj (e2.row hp).2⟩
  .have k':s<o.aD[d].stops.length:=by simpa using k
   obtain⟨f1,f2⟩:=e2.at_ s k';simp only[yBE,w5,yAe];refine⟨f1,by simp[f2.len],λhp=>?_,λg l=>?_,λg g' l l' p q=>?_⟩
   .simp only[yAe]at hp ⊢;exact⟨(f2.row hp).1,hk yj (f2.row hp).2⟩
   .have l':g<o.aD[d].stops[s].aO.length:=by simpa using l
    obtain⟨q1,q2⟩:=f2.at_ g l';simp only[yBE,DA,yAe];refine⟨q1,λhp=>?_⟩;have hp':0<o.aD[d].stops[s].aO[g].aT.length:=by simpa using hp
    exact⟨(q2 hp').1,hI.done d s g h' k' l' trivial hp'⟩
   .simp only[yBE,DA,yAe]at p q;exact f2.inj g g' (by simpa using l) (by simpa using l') p q
  .simp only[yBE,w5,DA,yAe]at p q;exact e2.inj s s' g g' (by simpa using k) (by simpa using k') (by simpa [w5]using l) (by simpa [w5]using l') p q
 .simp only[lH,yBE,vE,yAe]at p q;exact h7 d d' (by simpa [lH]using h) (by simpa [lH]using h') p q
 .simp only[lH,yBE,vE,w5,DA,yAe]at p q;exact h8 d d' s s' g g' (by simpa [lH]using h) (by simpa [lH]using h') (by simpa [lH,vE]using k) (by simpa [lH,vE]using k') (by simpa [lH,vE,w5]using l) (by simpa [lH,vE,w5]using l') p q
variable{E E0:aE}(hU:aH E)
include hU
theorem aIW(h0:E 46=none)(fm b:Int)(hb1:-1<=b/\b<=1)
  (o:aM) (p:PD) (bP:List aB) (lo iR iD iC:Nat) (ds:List (List PD)) (tS:Nat->Nat) (tss:Nat->List (List PD)) (tG:Nat->Nat->Nat) (tgs:Nat->Nat->List (List PD)) (tW:Nat->Nat->Nat->Nat) (hO:gX bP lo o p iR iD iC ds tS tss tG tgs tW) (hlo:lo<=bP.length) (ho:eV o)
  (hb:∀d∈o.aD,∀s∈d.stops,∀g∈s.aO,∀w∈g.aT,-1000000000<=w.aG/\w.aG<=1000000000) :
  aL prog E 0 (.inl 46) [p,.int .i64 fm,.int .i64 b] bP (λq σ'=>∃hs:Bool,q=.bool hs/\(hs=true↔∃d∈o.aD,∃s∈d.stops,∃g∈s.aO,g.aT.any (uI fm)=true)/\gX σ' lo (lH (kQ fm b) o) p iR iD iC ds tS tss tG tgs tW/\bP.length<=σ'.length/\(∀id,id<lo->σ'[id]?=bP[id]?)/\∀(id:Nat) (x:aB),(∀n v cs,x≠.row 89 n v cs)->bP[id]?=some x->σ'[id]?=some x):=by
 clear hU;have hp:=hO.p;subst hp;obtain⟨hR,hhR⟩:=gn (Go.Kz.hn 6 iR o.aK.length);obtain⟨hD,hhD⟩:=gn (Go.Kz.hb 5 iD (o.aD.length-1) o.aD.length);obtain⟨hC,hhC⟩:=gn (Go.Kz.hn 5 iC o.aR.length);have lD:=aP0 5 iD (o.aD.length-1) o.aD.length underlying32;have pR:hR.plain=true:=Aa;have pD:hD.plain=true:=zj;have pC:hC.plain=true:=Ab;unfold PD.plain at pR pD pC;simp only[hhR,hhD,hhC]at hO lD ⊢;simp[jE,underlying32]at lD;obtain⟨L0,nF⟩:=gn (bP.length);refine aL.aN 76 h0 func46 (h:=?_);apply WL.CD yu;apply SL.box (p:=.agg [.str o.name,hR,hD,hC]) (hw:=Wt.i rfl) (hx:=rfl) (hp:=by simp[pR,pD,pC]) (hr:=Ns.i rfl) (hn:=Ns.i rfl) (hf:=Fr.i rfl);refine CF lD ?_;apply SQ.nil;refine aC (A2 lD nF) ?_;rw[nF];have hst:=(o8.start (fm:=fm) (b:=b) hO).app hlo [aB.box (.agg [.str o.name,hR,hD,hC])];refine Wp.cI (λm fr σ=>∃(d:Nat) (hs:Bool) (σ1:List aB),∃gg:Nat->PD,(d+m=o.aD.length/\o8 bP σ1 lo o tW fm b (λa _ _=>a<d) hs)/\fr=gg 0::.int .i64 fm::.int .i64 b::gg 3::gg 4::gg 5::gg 6::.bool hs::gg 8::gg 9::gg 10::gg 11::gg 12::gg 13::gg 14::gg 15::hD::.int .i64 o.aD.length::.int .i64 d::gg 19::gg 20::gg 21::gg 22::gg 23::gg 24::gg 25::gg 26::gg 27::gg 28::gg 29::gg 30::gg 31::gg 32::gg 33::gg 34::gg 35::gg 36::gg 37::gg 38::gg 39::gg 40::gg 41::gg 42::gg 43::gg 44::gg 45::gg 46::gg 47::gg 48::gg 49::gg 50::gg 51::gg 52::gg 53::gg 54::gg 55::gg 56::gg 57::gg 58::gg 59::gg 60::gg 61::gg 62::gg 63::gg 64::gg 65::gg 66::gg 67::gg 68::gg 69::gg 70::gg 71::gg 72::gg 73::gg 74::gg 75::[]/\σ=σ1) ?_ (o.aD.length) (by refine⟨0,false,(bP++[aB.box (.agg [.str o.name,hR,hD,hC])]),?_⟩;exact dU (⟨ye,hst.congr λa b c _ _ _=>yg⟩) @nF)
 rintro m fr σ ⟨d,hs,σ1,gg,hI,rfl,rfl⟩
 obtain⟨hm,hI⟩:=hI;have hod:=ho.2.1.1
 by_cases hi:d<o.aD.length
 .have hzo:=ho.2.1.2 _ (yAm hi);have q1:(d:Int)<(o.aD.length:Int):=ye;have hDr:hD=.aU iD (o.aD.length-1) 0 o.aD.length 5:=by rw[<-hhD];exact B0 ye
  have v2:=hI.bF _ _ (λcs e=>absurd (aB.row.inj e).1 yj) (hO.row ye).2;obtain⟨e1,e2⟩:=hO.at_ d hi;have jK:∀g∈ds,g.length=5:=λg h=>by
   obtain⟨a,ha,rfl⟩:=yCO h;have h1:=(hO.at_ a (by rw[<-hO.len];exact ha)).1;rw[yAh ha]at h1;rw[yBe h1];rfl
  have hat:=vJ (sz:=5) ds d (by rw[hO.len];exact hi) jK;have hlen:=qT (sz:=5) ds jK;rw[(yA.1 e1).2]at hat;obtain⟨fs,hfs⟩:=gn (ds.flatten);rw[hfs]at v2 hlen hat;obtain⟨z,hz⟩:=gn (o.aD[d]);rw[hz]at hat e2 hzo;have hos:=hzo.1;obtain⟨r2,y2⟩:=yA.1 v2;have nG:d*5+5<=fs.length:=by rw[hlen,hO.len];omega
  have xk:nP prog 32 (.aU iD (o.aD.length-1) 0 o.aD.length 5) (.int .i64 d)=some (.dH iD (o.aD.length-1) (d*5)):=by
   simp[oN,hi]
  obtain⟨hS,hhS⟩:=gn (Go.Kz.hq 4 (tS d) (z.stops.length-1) z.stops.length);have pS:hS.plain=true:=by rw[<-hhS];exact D1 _ _ _ _
  have cS:hS.cells=[hS]:=by rw[<-hhS];exact D2 _ _ _ _
  have lS:=XF 4 (tS d) (z.stops.length-1) z.stops.length underlying51;unfold PD.plain at pS;unfold PD.cells at cS;rw[hhS]at hat lS;simp[jE,underlying51]at lS;have j0:∀x:aB,(σ++[x])[σ.length]?=some x:=λx=>yg
  rw[hDr];refine aC (A12 q1 hi xk @v2 r2 y2 nG hat j0 pS cS lS) ?_;have hI1:=hI.app hlo [aB.box (.agg [.str z.name,.bool z.eG,.int .i64 z.low,.int .i64 z.high,hS])];obtain⟨M,hM'⟩:∃M,M=m:=⟨_,rfl⟩;rw[<-hM']at hm ⊢;obtain⟨ρ1,aP1⟩:=gn (σ++[aB.box (.agg [.str z.name,.bool z.eG,.int .i64 z.low,.int .i64 z.high,hS])]);rw[aP1]at hI1 ⊢;have hsl:z.stops.length=o.aD[d].stops.length:=by rw[hz]
  refine Wp.cI (λm fr σ=>∃(s:Nat) (hs:Bool) (σ1:List aB),∃gg:Nat->PD,(s+m=z.stops.length/\o8 bP σ1 lo o tW fm b (λa b _=>a<d\/(a=d/\b<s)) hs)/\fr=gg 0::.int .i64 fm::.int .i64 b::gg 3::gg 4::gg 5::gg 6::.bool hs::gg 8::gg 9::gg 10::gg 11::gg 12::gg 13::gg 14::gg 15::.aU iD (o.aD.length-1) 0 o.aD.length 5::.int .i64 o.aD.length::.int .i64 d::gg 19::gg 20::gg 21::gg 22::hS::.int .i64 z.stops.length::.int .i64 s::gg 26::gg 27::gg 28::gg 29::gg 30::gg 31::gg 32::gg 33::gg 34::gg 35::gg 36::gg 37::gg 38::gg 39::gg 40::gg 41::gg 42::gg 43::gg 44::gg 45::gg 46::gg 47::gg 48::gg 49::gg 50::gg 51::gg 52::gg 53::gg 54::gg 55::gg 56::gg 57::gg 58::gg 59::gg 60::gg 61::gg 62::gg 63::gg 64::gg 65::gg 66::gg 67::gg 68::gg 69::gg 70::gg 71::gg 72::gg 73::gg 74::gg 75::[]/\σ=σ1) ?_ (z.stops.length) (by refine⟨0,hs,ρ1,?_⟩;exact bG (⟨ye,hI1.congr λa b c _ _ _=>yg⟩))
  rintro m fr σ ⟨s,hs,σ1,gg,hI,rfl,rfl⟩
  obtain⟨hm2,XG⟩:=hI
  by_cases hi2:s<z.stops.length
  .have q1:(s:Int)<(z.stops.length:Int):=by omega
   have hwo:=hzo.2 _ (yAm hi2);have hSr:hS=.aU (tS d) (z.stops.length-1) 0 z.stops.length 4:=by rw[<-hhS];exact GS ye
   have v2:=XG.bF _ _ (λcs e=>absurd (aB.row.inj e).1 yj) (e2.row ye).2;obtain⟨f1,f2⟩:=e2.at_ s hi2;have jK:∀g∈tss d,g.length=4:=λg h=>by
    obtain⟨a,ha,rfl⟩:=yCO h;have h1:=(e2.at_ a (by rw[<-e2.len];exact ha)).1;rw[yAh ha]at h1;rw[yBe h1];rfl
   have hat:=vJ (sz:=4) (tss d) s (by rw[e2.len];exact hi2) jK;have hlen:=qT (sz:=4) (tss d) jK;rw[(yA.1 f1).2]at hat;obtain⟨fs,hfs⟩:=gn ((tss d).flatten);rw[hfs]at v2 hlen hat;obtain⟨w,oX⟩:=gn (z.stops[s]);rw[oX]at hat f2 hwo;have hog:=hwo.1;obtain⟨r2,y2⟩:=yA.1 v2;have nG:s*4+4<=fs.length:=by rw[hlen,e2.len];omega
   have xk:nP prog 51 (.aU (tS d) (z.stops.length-1) 0 z.stops.length 4) (.int .i64 s)=some (.dH (tS d) (z.stops.length-1) (s*4)):=by
    simp[oN,hi2]
   obtain⟨hG,hhG⟩:=gn (Go.Kz.hq 3 (tG d s) (w.aO.length-1) w.aO.length);have pG:hG.plain=true:=by rw[<-hhG];exact D1 _ _ _ _
   have cG:hG.cells=[hG]:=by rw[<-hhG];exact D2 _ _ _ _
   have lG:=XF 3 (tG d s) (w.aO.length-1) w.aO.length underlying54;unfold PD.plain at pG;unfold PD.cells at cG;rw[hhG]at hat lG;simp[jE,underlying54]at lG;have j0:∀x:aB,(σ++[x])[σ.length]?=some x:=λx=>yg
   rw[hSr];refine aC (A12 q1 hi2 xk @v2 r2 y2 nG hat j0 pG cG lG) ?_;have GW:=XG.app hlo [aB.box (.agg [.str w.name,.int .i64 w.num,.int .i64 w.den,hG])];obtain⟨M2,hM2⟩:∃M,M=m:=⟨_,rfl⟩;rw[<-hM2]at hm2 ⊢;obtain⟨ρ2,oF⟩:=gn (σ++[aB.box (.agg [.str w.name,.int .i64 w.num,.int .i64 w.den,hG])]);rw[oF]at GW ⊢;have hgl:∀(h:s<o.aD[d].stops.length),w.aO.length=o.aD[d].stops[s].aO.length:=λh=>by subst hz;rw[<-oX]
   refine Wp.cI (λm fr σ=>∃(g:Nat) (hs:Bool) (σ1:List aB),∃gg:Nat->PD,(g+m=w.aO.length/\o8 bP σ1 lo o tW fm b (λa b c=>a<d\/(a=d/\(b<s\/(b=s/\c<g)))) hs)/\fr=gg 0::.int .i64 fm::.int .i64 b::gg 3::gg 4::gg 5::gg 6::.bool hs::gg 8::gg 9::gg 10::gg 11::gg 12::gg 13::gg 14::gg 15::.aU iD (o.aD.length-1) 0 o.aD.length 5::.int .i64 o.aD.length::.int .i64 d::gg 19::gg 20::gg 21::gg 22::.aU (tS d) (z.stops.length-1) 0 z.stops.length 4::.int .i64 z.stops.length::.int .i64 s::gg 26::gg 27::gg 28::gg 29::hG::.int .i64 w.aO.length::.int .i64 g::gg 33::gg 34::gg 35::gg 36::gg 37::gg 38::gg 39::gg 40::gg 41::gg 42::gg 43::gg 44::gg 45::gg 46::gg 47::gg 48::gg 49::gg 50::gg 51::gg 52::gg 53::gg 54::gg 55::gg 56::gg 57::gg 58::gg 59::gg 60::gg 61::gg 62::gg 63::gg 64::gg 65::gg 66::gg 67::gg 68::gg 69::gg 70::gg 71::gg 72::gg 73::gg 74::gg 75::[]/\σ=σ1) ?_ (w.aO.length) (by refine⟨0,hs,ρ2,?_⟩;exact bG (⟨ye,GW.congr λa b c _ _ _=>yg⟩))
   rintro m fr σ ⟨g,hs,σ1,gg,hI,rfl,rfl⟩
   obtain⟨hm3,GW⟩:=hI
   by_cases GX:g<w.aO.length
   .have q1:(g:Int)<(w.aO.length:Int):=by omega
    have how:=hwo.2 _ (yAm GX);have hGr:hG=.aU (tG d s) (w.aO.length-1) 0 w.aO.length 3:=by rw[<-hhG];exact GS ye
    have v2:=GW.bF _ _ (λcs e=>absurd (aB.row.inj e).1 yj) (f2.row ye).2;obtain⟨k1,k2⟩:=f2.at_ g GX;have jK:∀x∈tgs d s,x.length=3:=λx h=>by
     obtain⟨a,ha,rfl⟩:=yCO h;have h1:=(f2.at_ a (by rw[<-f2.len];exact ha)).1;rw[yAh ha]at h1;rw[yBe h1];rfl
    have hat:=vJ (sz:=3) (tgs d s) g (by rw[f2.len];exact GX) jK;have hlen:=qT (sz:=3) (tgs d s) jK;rw[(yA.1 k1).2]at hat;obtain⟨fs,hfs⟩:=gn ((tgs d s).flatten);rw[hfs]at v2 hlen hat;obtain⟨y,hy2⟩:=gn (w.aO[g]);rw[hy2]at hat k2 how;have how':y.aT.length<=1000000:=how;obtain⟨r2,y2⟩:=yA.1 v2;have nG:g*3+3<=fs.length:=by rw[hlen,f2.len];omega
    have xk:nP prog 54 (.aU (tG d s) (w.aO.length-1) 0 w.aO.length 3) (.int .i64 g)=some (.dH (tG d s) (w.aO.length-1) (g*3)):=by
     simp[oN,GX]
    obtain⟨hW,hhW⟩:=gn (Go.Kz.hq 2 (tW d s g) 0 y.aT.length);have pW:hW.plain=true:=by rw[<-hhW];exact D1 _ _ _ _
    have cW:hW.cells=[hW]:=by rw[<-hhW];exact D2 _ _ _ _
    have lW:=XF 2 (tW d s g) 0 y.aT.length underlying90;unfold PD.plain at pW;unfold PD.cells at cW;rw[hhW]at hat lW;simp[jE,underlying90]at lW;have j0:∀x:aB,(σ++[x])[σ.length]?=some x:=λx=>yg
    rw[hGr];refine aC (A12 q1 GX xk @v2 r2 y2 nG hat j0 pW cW lW) ?_;have PI:=GW.app hlo [aB.box (.agg [.int .i64 y.lo,.int .i64 y.hi,hW])];obtain⟨M3,hM3⟩:∃M,M=m:=⟨_,rfl⟩;rw[<-hM3]at hm3 ⊢;obtain⟨BG,hBG⟩:=gn (σ.length);have vG:(σ++[aB.box (.agg [.int .i64 y.lo,.int .i64 y.hi,hW])])[BG]?=some (.box (.agg [.int .i64 y.lo,.int .i64 y.hi,hW])):=by rw[<-hBG];exact j0 _
    obtain⟨p8,GU⟩:=gn (σ++[aB.box (.agg [.int .i64 y.lo,.int .i64 y.hi,hW])]);rw[GU]at PI vG ⊢;rw[hBG];have hyo:o.aD[d].stops[s]' ye=w:=by subst hz;exact oX
    have hyl:∀(h:g<(o.aD[d].stops[s]' ye).aO.length),(o.aD[d].stops[s]' ye).aO[g]=y:=λh=>by simp only[hyo];exact hy2
    have hgL:g<(o.aD[d].stops[s]' ye).aO.length:=by rw[hyo];exact GX
    have vT:0<y.aT.length->p8[tW d s g]?=some (.row 89 2 0 (jJ y.aT)):=λhp=>by
     have h1:=PI.rest d s g hi ye hgL ye (by rw[hyl hgL];exact hp);rw[hyl hgL]at h1;exact h1
    have hyM:y∈(o.aD[d].stops[s]' ye).aO:=by rw[<-hyl hgL];exact yAm hgL
    have hby:∀x∈y.aT,-1000000000<=x.aG/\x.aG<=1000000000:=λx hx=>hb _ (yAm hi) _ (yAm (show s<o.aD[d].stops.length by omega)) y hyM x hx
    obtain⟨hs0,aER⟩:∃x,x=hs:=⟨_,rfl⟩;rw[<-aER]at PI;have hfw:∀r:Int,-1000000000<=r/\r<=1000000000->IntKind.i64.wrap (r+b)=r+b:=λr hr=>ym
    refine Wp.cI (λm fr σ=>∃(i:Nat) (hs:Bool) (σ1:List aB),∃gg:Nat->PD,(i+m=y.aT.length/\p8.length<=σ1.length/\(∀(id:Nat) (x:aB),(0<y.aT.length->id≠tW d s g)->p8[id]?=some x->σ1[id]?=some x)/\(0<y.aT.length->σ1[tW d s g]?=some (.row 89 2 0 (jJ (iY (kQ fm b) i y.aT))))/\hs=(hs0||(y.aT.take i).any (uI fm)))/\fr=gg 0::.int .i64 fm::.int .i64 b::gg 3::gg 4::gg 5::gg 6::.bool hs::gg 8::gg 9::gg 10::gg 11::gg 12::.ptr BG 0::gg 14::gg 15::.aU iD (o.aD.length-1) 0 o.aD.length 5::.int .i64 o.aD.length::.int .i64 d::gg 19::gg 20::gg 21::gg 22::.aU (tS d) (z.stops.length-1) 0 z.stops.length 4::.int .i64 z.stops.length::.int .i64 s::gg 26::gg 27::gg 28::gg 29::.aU (tG d s) (w.aO.length-1) 0 w.aO.length 3::.int .i64 w.aO.length::.int .i64 g::gg 33::gg 34::gg 35::gg 36::hW::.int .i64 y.aT.length::.int .i64 i::gg 40::gg 41::gg 42::gg 43::gg 44::gg 45::gg 46::gg 47::gg 48::gg 49::gg 50::gg 51::gg 52::gg 53::gg 54::gg 55::gg 56::gg 57::gg 58::gg 59::gg 60::gg 61::gg 62::gg 63::gg 64::gg 65::gg 66::gg 67::gg 68::gg 69::gg 70::gg 71::gg 72::gg 73::gg 74::gg 75::[]/\σ=σ1) ?_ (y.aT.length) (by refine⟨0,hs,p8,?_⟩;exact bG (⟨ye,yAk _,λid x _ h=>h,vT,by rw[<-aER];simp⟩))
    rintro m fr σ ⟨i,hs,σ1,gg,hI,rfl,rfl⟩
    obtain⟨hm4,vY,eR,DY,mO⟩:=hI
    by_cases hi4:i<y.aT.length
    .have q1:(i:Int)<(y.aT.length:Int):=by omega
     have hWr:hW=.aU (tW d s g) 0 0 y.aT.length 2:=by rw[<-hhW];exact GS ye
     have vt:=DY ye;have vg:=eR BG _ (λh e=>by rw[e,vT h]at vG;cases vG) vG;obtain⟨rT,yT⟩:=yA.1 vt;obtain⟨rG,yG⟩:=yA.1 vg;have hat:=aLC (iY (kQ fm b) i y.aT) i (by rw[DZ];exact hi4);have hlen:=aLB (iY (kQ fm b) i y.aT);have hfl:=aLD (iY (kQ fm b) i y.aT) i (by rw[DZ];exact hi4) (y.aT[i].aG+b);rw[DZ]at hlen;rw[XD (kQ fm b) i y.aT hi4]at hat hfl;have hms:=XE (kQ fm b) i y.aT hi4;have hmi:=aEQ (kQ fm b) i y.aT hi4;obtain⟨XH,aES⟩:=gn (jJ (iY (kQ fm b) i y.aT));rw[aES]at vt hlen hat hfl yT;have KS:i*2+1<=XH.length:=ye;have oJ:nP prog 90 (.aU (tW d s g) 0 0 y.aT.length 2) (.int .i64 i)=some (.dH (tW d s g) 0 (i*2)):=by
      simp[oN,hi4]
     rw[hWr]at vg yG;rw[hWr];have hbr:=hby _ (yAm hi4);have hwr:=hfw _ hbr;have hal:hs=true\/hs=false:=by cases hs<;>simp
     have hany:(y.aT.take (i+1)).any (uI fm)=((y.aT.take i).any (uI fm)||decide (y.aT[i].aG=fm)):=by
      rw[yBG hi4,List.any_append];simp[uI]
     obtain⟨r,hr⟩:=gn (y.aT[i].aG);have hlw:kQ fm b y.aT[i]=⟨if fm<=r then r+b else r,y.aT[i].shift⟩:=by rw[<-hr];rfl
     have hself:y.aT[i]=⟨r,y.aT[i].shift⟩:=by rw[<-hr]
     rw[hr]at hat hfl hbr hwr hany;simp only[eC,yAS,yAT,yAp,Nat.reduceAdd,yBX,yAi,yAQ,yAO]at hfl;have KT:XH[i*2]' ye=.int .i64 r:=by
      rw[yAq ye,yDF]at hat;exact(List.cons.inj hat).1
     by_cases hge:fm<=r
     .rw[yAJ hge]at hlw;rw[hlw]at hms;rw[hms]at hfl;obtain⟨bO,cY⟩:=gn (σ.set (tW d s g) (.row 89 2 0 (jJ (iY (kQ fm b) (i+1) y.aT))));have c1:p8.length<=bO.length:=by rw[<-cY,yAD];exact vY
      have c2:∀(id:Nat) (x:aB),(0<y.aT.length->id≠tW d s g)->p8[id]?=some x->bO[id]?=some x:=λid x h hx=>by rw[<-cY,yAd (yBb (h ye))];exact eR id x h hx
      have c3:0<y.aT.length->bO[tW d s g]?=some (.row 89 2 0 (jJ (iY (kQ fm b) (i+1) y.aT))):=λ_=>by rw[<-cY];exact yAj rT
      rcases hal with rfl|rfl
      .refine aC xx ?_;refine bC.normal (m-1) ye (by refine⟨i+1,true,bO,?_⟩;exact dU (⟨ye,c1,c2,c3,by rw[hany,<-yDV,<-mO];rfl⟩) @cY)
      .by_cases he:r=fm
       .subst he;refine aC xx ?_;refine bC.normal (m-1) ye (by refine⟨i+1,true,bO,?_⟩;exact dU (⟨ye,c1,c2,c3,by rw[hany];simp⟩) @cY)
       .refine aC ya ?_;refine bC.normal (m-1) ye (by refine⟨i+1,false,bO,?_⟩;exact dU (⟨ye,c1,c2,c3,by rw[hany,<-yDV,<-mO];simp[he]⟩) @cY)
     .have he:¬r=fm:=by omega
      rw[yAI hge]at hlw;have hmx:jJ (iY (kQ fm b) (i+1) y.aT)=XH:=by rw[<-aES,<-aEQ (kQ fm b) i y.aT hi4 (by rw[hlw];exact hself.symm)]
      have c3:0<y.aT.length->σ[tW d s g]?=some (.row 89 2 0 (jJ (iY (kQ fm b) (i+1) y.aT))):=λ_=>by rw[hmx];exact vt
      rcases hal with rfl|rfl
      .refine aC xx ?_;refine bC.normal (m-1) ye (by refine⟨i+1,true,σ,?_⟩;exact bG (⟨ye,vY,eR,c3,by rw[hany,<-yDV,<-mO];rfl⟩))
      .refine aC ya ?_;refine bC.normal (m-1) ye (by refine⟨i+1,false,σ,?_⟩;exact bG (⟨ye,vY,eR,c3,by rw[hany,<-yDV,<-mO];simp[he]⟩))
    .have q1:¬(i:Int)<(y.aT.length:Int):=by omega
     refine aC q1 ?_;have hft:y.aT.take i=y.aT:=yAz ye;have hmx:iY (kQ fm b) i y.aT=y.aT.map (kQ fm b):=by unfold iY;rw[hft,yAs ye,yAl]
     rw[hmx]at DY;rw[hft]at mO;have xU:=o8.step hO hlo PI hi (show s<o.aD[d].stops.length by omega) hgL vY (by rw[hyl hgL];exact eR) (by rw[hyl hgL];exact DY);rw[hyl hgL,<-mO]at xU;have hN:=xU.congr (Q:=λa b c=>a<d\/(a=d/\(b<s\/(b=s/\c<g+1)))) λa b c h k l=>ye
     refine bC.normal (M3-1) ye (by refine⟨g+1,hs,σ,?_⟩;exact bG (⟨ye,hN⟩))
   .have q1:¬(g:Int)<(w.aO.length:Int):=by omega
    refine aC q1 ?_;have hN:=GW.congr (Q:=λa b _=>a<d\/(a=d/\b<s+1)) λa b c h k l=>by
     constructor
     .rintro(h1 | ⟨h1,h2 | ⟨h2,h3⟩⟩)<;>omega
     .rintro(h1 | ⟨h1,h2⟩)
      .exact .inl h1
      .by_cases e:b=s
       .subst h1;subst e;exact .inr ⟨rfl,.inr ⟨rfl,by have:=hgl k;omega⟩⟩
       .exact .inr ⟨h1,.inl ye⟩
    refine bC.normal (M2-1) ye (by refine⟨s+1,hs,σ,?_⟩;exact bG (⟨ye,hN⟩))
  .have q1:¬(s:Int)<(z.stops.length:Int):=by omega
   refine aC q1 ?_;have hN:=XG.congr (Q:=λa _ _=>a<d+1) λa b c h k _=>by
    constructor
    .rintro(h1 | ⟨h1,h2⟩)<;>omega
    .intro h1
     by_cases e:a=d
     .subst e;exact .inr ⟨rfl,ye⟩
     .exact .inl ye
   refine bC.normal (M-1) ye (by refine⟨d+1,hs,σ,?_⟩;exact bG (⟨ye,hN⟩))
 .have q1:¬(d:Int)<(o.aD.length:Int):=by omega
  refine aC q1 ?_;have hT:=hI.congr (Q:=λ_ _ _=>True) λa b c h _ _=>zf
  have hF:=hO.aCT hT;exact⟨_,_,rfl,hs,rfl,hF.1,hF.2,nF▸hT.len,hT.low,λid x ht hx=>hT.bF id x (λcs e=>ht _ _ _ e) hx⟩
end
end Go.Kz
