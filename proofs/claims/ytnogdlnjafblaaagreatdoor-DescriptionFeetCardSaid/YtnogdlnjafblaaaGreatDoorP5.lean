/- Steps of the proof. -/
import Derived.Test.YtnogdlnjafblaaaGreatDoorP4
import Derived.Test.YtnogdlnjafblaaaGreatDoorP3
import Derived.Shelf.Strconv.Itoa3
import Derived.Lib.AppendIntMem
set_option linter.all false
set_option maxHeartbeats 40000000
set_option maxRecDepth 100000
open Go.Proofs.Tryz
noncomputable section
namespace Go.Kz
open Go Go.Proofs
section
structure YC where
 E3:Int
 cB:Int
 first:Int
 aLn:Int
 w0:Int
 w1:Int
 w2:Int
 w3:Int
 w4:Int
structure YD where
 bO:Int
 cB:Int
 kind:Int
 at_:Int
structure YE where
 low:Int
 keys:Int
 RW:Bool
 stops:List YD
structure YF where
 lT:Int
 dst:Int
 shift:Int
 ME:Bool
structure aLo where
 bM:List YC
 dY:List YE
 oU:List YF
structure aLp where
 kind:Int
 at_:Int
abbrev oE:Em Int:=Em.int .u8
abbrev i8e:Em Int:=Em.int .i8
def Em.aLq:Em YC:=.agg (((bC.one oE).pair ((bC.one oE).pair ((bC.one i8e).pair ((bC.one oE).pair ((bC.one oE).pair ((bC.one oE).pair ((bC.one oE).pair ((bC.one oE).pair (.one oE))))))))).mF (λr=>(r.E3,r.cB,r.first,r.aLn,r.w0,r.w1,r.w2,r.w3,r.w4)) (λx y h=>xu))
@[simp] theorem a2k{r:YC}:Em.aLq.aA r=.agg [.int .u8 r.E3,.int .u8 r.cB,.int .i8 r.first,.int .u8 r.aLn,.int .u8 r.w0,.int .u8 r.w1,.int .u8 r.w2,.int .u8 r.w3,.int .u8 r.w4]:=rfl
abbrev aLr:Em (List YC):=Em.aLq.list 9
def Em.pull:Em YD:=.agg (((bC.one oE).pair ((bC.one oE).pair ((bC.one oE).pair (.one oE)))).mF (λr=>(r.bO,r.cB,r.kind,r.at_)) (λx y h=>xu))
@[simp] theorem a2l{r:YD}:Em.pull.aA r=.agg [.int .u8 r.bO,.int .u8 r.cB,.int .u8 r.kind,.int .u8 r.at_]:=rfl
abbrev aLs:Em (List YD):=Em.pull.list 4
def Em.aLt:Em YE:=.agg (((bC.one oE).pair ((bC.one oE).pair ((bC.one .bool).pair (.one aLs)))).mF (λr=>(r.low,r.keys,r.RW,r.stops)) (λx y h=>xu))
@[simp] theorem a2m{r:YE}:Em.aLt.aA r=.agg [.int .u8 r.low,.int .u8 r.keys,.bool r.RW,aLs.aA r.stops]:=rfl
abbrev aLu:Em (List YE):=Em.aLt.list 4
def Em.link:Em YF:=.agg (((bC.one oE).pair ((bC.one oE).pair ((bC.one i8e).pair (.one .bool)))).mF (λr=>(r.lT,r.dst,r.shift,r.ME)) (λx y h=>xu))
@[simp] theorem a2n{r:YF}:Em.link.aA r=.agg [.int .u8 r.lT,.int .u8 r.dst,.int .i8 r.shift,.bool r.ME]:=rfl
abbrev aLv:Em (List YF):=Em.link.list 4
def Em.aWr:Em aLo:=.agg (((bC.one aLr).pair ((bC.one aLu).pair (.one aLv))).mF (λr=>(r.bM,r.dY,r.oU)) (λx y h=>xu))
@[simp] theorem a2o{r:aLo}:Em.aWr.aA r=.agg [aLr.aA r.bM,aLu.aA r.dY,aLv.aA r.oU]:=rfl
def Em.aWs:Em aLp:=.agg (((bC.one oE).pair (.one oE)).mF (λr=>(r.kind,r.at_)) (λx y h=>xu))
@[simp] theorem a2p{r:aLp}:Em.aWs.aA r=.agg [.int .u8 r.kind,.int .u8 r.at_]:=rfl
variable{E:aE}(hU:aF E)
include hU
end
end Go.Kz
namespace Go.Kz
instance:Inhabited YC:=⟨⟨0,0,0,0,0,0,0,0,0⟩⟩
instance:Inhabited YD:=⟨⟨0,0,0,0⟩⟩
instance:Inhabited YE:=⟨⟨0,0,false,[]⟩⟩
instance:Inhabited YF:=⟨⟨0,0,0,false⟩⟩
instance:Inhabited bA:=⟨⟨[],[],0,0,0,[]⟩⟩
end Go.Kz
namespace Go.Kz
open Go Go.Proofs
section
def Em.cB:Em (Int×Int):=.agg (((bC.one i64).pair (.one i64)).mF (λr=>(r.1,r.2)) (λx y h=>xu))
@[simp] theorem a2j{r:Int×Int}:Em.cB.aA r=.agg [.int .i64 r.1,.int .i64 r.2]:=rfl
variable{E:aE}(hU:aF E)
include hU
end
section
def pQ(n:Int):Bool:=(decide (65<=n)&&decide (n<=90))||(decide (97<=n)&&decide (n<=122))
def wB(c:UInt8):Bool:=pQ c.toNat||(decide (48<=(c.toNat:Int))&&decide ((c.toNat:Int)<=57))||decide (c.toNat=95)
def dR:List UInt8->Bool
 | []=>false
 |c::r=>decide ((c::r).length<=32)&&pQ c.toNat&&r.all wB
def lG(lo hi:Int):Int:=if lo<0\/127<hi then 3 else if hi<lo then 23 else 0
def aAP:Nat->List PD->List U->Option (PD×List U):=entry (aX (Em.int .u8) Em.bool λn=>some (pQ n))
theorem PL(n:Int)(fl:Nat)(σ:List U):aAP fl [.int .u8 n] σ=some (.bool (pQ n),σ):=by
 have e:(Em.int .u8).dec (.int .u8 n)=some n:=Em.cR rfl;unfold aAP entry aX;simp only[e];rfl
variable{E:aE}(hU:aF E)
include hU
theorem aRC(h0:E 104=none)(n:Int):aI prog E 104 [.int .u8 n] (Em.bool.aA (pQ n)):=by
 refine aI.aU 17 h0 func104 (h:=?_)
 by_cases a:65<=n
 .by_cases b:n<=90
  .refine aD (A2 @a @b) ?_;simp(disch:=first|omega|(simp;done)|(simp;omega)) [yAu,pQ,a,b]<;>try rfl
  .by_cases c:97<=n
   .exact mj
   .exact mj
 .by_cases c:97<=n
  .exact nk
  .exact nk
theorem aRG(h0:E 108=none)(lo hi:Int):aI prog E 108 [.agg [.int .i64 lo,.int .i64 hi]] (.int .i64 (lG lo hi)):=by
 refine aI.aU 18 h0 func108 (h:=?_)
 by_cases a:lo<0
 .refine aD @a ?_;simp(disch:=first|omega|(simp;done)|(simp;omega)) [yAu,lG,a]<;>try rfl
 by_cases b:127<hi
 .refine aD (A2 @a @b) ?_;simp(disch:=first|omega|(simp;done)|(simp;omega)) [yAu,lG,a,b]<;>try rfl
 by_cases c:hi<lo
 .exact mw
 .exact mw
theorem aRY(h0:E 106=none)(n:Int):aI prog E 106 [.int .i64 n] (Em.bool.aA (decide (-256<=n)&&decide (n<=256))):=by
 refine aI.aU 9 h0 func106 (h:=?_)
 by_cases a:-256<=n
 .by_cases b:n<=256
  .exact nt
  .exact nt
 .refine aD @a ?_;simp(disch:=first|omega|(simp;done)|(simp;omega)) [yAu,a]<;>try rfl
theorem aRE(h0:E 49=none)(h1:E 104=some aAP)(s:List UInt8)(hs:s.length<=100000):aI prog E 49 [.str s] (Em.bool.aA (dR s)):=by
 by_cases hs0:s=[]
 .subst hs0;refine aI.aU 42 h0 func49 (h:=?_);refine aD trivial ?_;simp(disch:=first|omega|(simp;done)|(simp;omega)) [yAu,dR]<;>try rfl
 obtain⟨c,r,hcr⟩:∃c r,s=c::r:=by cases s with|nil=>exact absurd rfl hs0|cons c r=>exact⟨c,r,rfl⟩
 have hs1:s.isEmpty=false:=by rw[hcr];rfl
 have hx0:s[0]?=some c:=by rw[hcr];rfl
 obtain⟨eZ,hx1⟩:=yA.1 hx0;refine aI.aU 42 h0 func49 (h:=?_)
 by_cases a:32<(s.length:Int)
 .have hB:dR s=false:=by rw[hcr];simp[dR,show ¬r.length+1<=32 by rw[hcr]at a;simp at a;omega]
  rw[hB];refine aD (A3 hs0 hs1 @a) ?_;exact aa
 .cases hc:pQ c.toNat with
  |false=>
   have hB:dR s=false:=by rw[hcr];simp[dR,hc]
   rw[hB];refine aD (A9 h1 hs0 hs1 @a hx0 hx1 eZ @PL hc) ?_;exact aa
  |true=>
   have hB:dR s=(s.drop 1).all wB:=by rw[hcr];simp only[dR,hc];simp[show r.length+1<=32 by rw[hcr]at a;simp at a;omega]
   rw[hB];clear hB;obtain⟨B,hB⟩:=gn ((s.drop 1).all wB);rw[hB];refine aD (A9 h1 hs0 hs1 @a hx0 hx1 eZ @PL hc) ?_;refine Wp.eV (λm fr σ=>∃(k:Nat),∃gg:Nat->PD,(k+m=s.length/\1<=k/\(s.drop k).all wB=B)/\fr=[.str s,gg 1,gg 2,.int .i64 k,gg 4,gg 5,gg 6,gg 7,gg 8,gg 9,gg 10,gg 11,gg 12,gg 13,gg 14,gg 15,gg 16,gg 17,gg 18,gg 19,gg 20,gg 21,gg 22,gg 23,gg 24,gg 25,gg 26,gg 27,gg 28,gg 29,gg 30,gg 31,gg 32,gg 33,gg 34,gg 35,gg 36,gg 37,gg 38,gg 39,gg 40,gg 41]/\σ=[]) ?_ (s.length-1) (by refine⟨1,?_⟩;exact cG (⟨xb,xb,hB⟩))
   rintro m fr σ ⟨k,gg,hI,rfl,rfl⟩
   obtain⟨hm,hk1,hkB⟩:=hI
   by_cases hk:k<s.length
   .have q1:(k:Int)<(s.length:Int):=by omega
    obtain⟨v,hv⟩:=gn (s[k]);have KI:s[k]?=some v:=by rw[yAh hk,hv]
    have hd:s.drop k=v::s.drop (k+1):=by rw[yAq hk,hv]
    have hw:IntKind.i64.wrap ((k:Int)+1)=((k+1:Nat):Int):=by rw[yDx];omega
    rw[hd,yBG]at hkB;cases hl:pQ v.toNat with
    |true=>
     have hn:wB v=true:=by unfold wB;rw[hl];rfl
     rw[hn,yDf]at hkB;refine aD (A8 h1 q1 hk hv KI @PL hl @hw) ?_;exact ep
    |false=>
     have l95:pQ 95=false:=xl;have nC:wB v=((decide (48<=(v.toNat:Int))&&decide ((v.toNat:Int)<=57))||decide (v.toNat=95)):=by unfold wB;rw[hl];rfl
     by_cases b1:(v.toNat:Int)<48
     .have hn:wB v=false:=by rw[nC];simp;omega
      rw[hn,yCi]at hkB;subst hkB;have b3:¬(v.toNat:Int)=95:=xb;refine aD (A10 h1 q1 hk hv KI @PL hl @hw b1 b3) ?_;exact aa
     .by_cases b2:57<(v.toNat:Int)
      .by_cases b3:(v.toNat:Int)=95
       .have hn:wB v=true:=by rw[nC];simp;omega
        rw[hn,yDf]at hkB;refine aD (A12 h1 q1 hk hv KI @PL hl @hw b1 b2 b3 l95) ?_;exact ep
       .have hn:wB v=false:=by rw[nC];simp;omega
        rw[hn,yCi]at hkB;subst hkB;refine aD (A11 h1 q1 hk hv KI @PL hl @hw b1 b2 b3) ?_;exact aa
      .have hn:wB v=true:=by rw[nC];simp;omega
       rw[hn,yDf]at hkB;refine aD (A10 h1 q1 hk hv KI @PL hl @hw b1 b2) ?_;exact ep
   .have q1:¬(k:Int)<(s.length:Int):=by omega
    obtain rfl:k=s.length:=xb;rw[yCh]at hkB;subst hkB;refine aD q1 ?_;exact aa
end
section
variable{E:aE}(hU:aF E)
include hU
end
section
def kS(n d:Int):Int:=if d<=0\/1000000<d\/n < -1000000\/1000000<n\/Nat.gcd n.natAbs d.toNat≠1 then 2 else 0
def mP(n d:Int):Int:=if kS n d≠0 then 2 else if n<=0\/128*d<n then 3 else if 128<d then 4 else 0
abbrev M5:Em Int:=Em.int .u64
def aAQ:Nat->List PD->List U->Option (PD×List U):=entry (cV M5 M5 M5 λa b=>bJ (0<=a/\a<=1000000/\0<=b/\b<=1000000) (some (Nat.gcd a.toNat b.toNat)))
theorem aWp{a b:Nat}(ha:a<=1000000)(hb:b<=1000000)(fl:Nat)(σ:List U):aAQ fl [.int .u64 a,.int .u64 b] σ=some (.int .u64 (Nat.gcd a b),σ):=by
 have e1:M5.dec (.int .u64 a)=some (a:Int):=Em.cR rfl;have e2:M5.dec (.int .u64 b)=some (b:Int):=Em.cR rfl;unfold aAQ entry cV;simp only[e1,e2];rw[dN ⟨xb,xb,xb,xb⟩];rfl
variable{E:aE}(hU:aF E)
include hU
theorem aRI(h0:E 36=none)(a b:Nat)(ha:a<=1000000)(hb:b<=1000000):aI prog E 36 [.int .u64 a,.int .u64 b] (M5.aA (Nat.gcd a b)):=by
 obtain⟨G,hG⟩:=gn (Nat.gcd a b);rw[hG];refine aI.aU 12 h0 func36 (h:=?_);refine aD trivial ?_;refine Wp.eV (λm fr σ=>∃(u v:Nat),∃gg:Nat->PD,(v<=m/\u<=1000000/\v<=1000000/\Nat.gcd u v=G)/\fr=[.int .u64 u,.int .u64 v,gg 2,gg 3,gg 4,gg 5,gg 6,gg 7,gg 8,gg 9,gg 10,gg 11]/\σ=[]) ?_ (b) (by refine⟨a,b,?_⟩;exact cG (⟨yAk _,ha,hb,hG⟩))
 rintro m fr σ ⟨u,v,gg,hI,rfl,rfl⟩
 obtain⟨hm,hu,hv,hg⟩:=hI
 by_cases q:v=0
 .subst q;rw[Nat.gcd_zero_right]at hg;subst hg;exact ue
 .have q1:0<v:=by omega
  have q2:¬(v:Int)=0:=xb;have hml:u%v<v:=yBZ _ xb;have hgr:Nat.gcd v (u%v)=G:=by rw[yDc v (u%v),<-Nat.gcd_rec,yDc,hg]
  obtain⟨r,hr⟩:=gn (u%v);have w1:((u:Int)).tmod (v:Int)=(r:Int):=by rw[<-hr];rfl
  rw[hr]at hml hgr;have w2:IntKind.u64.wrap (r:Int)=(r:Int):=yl;refine aD (A5 @q q1 q2 w1 w2) ?_;refine aM.normal (m-1) xb (by refine⟨v,r,?_⟩;exact cG (⟨xb,hv,xb,hgr⟩))
theorem aRK(h0:E 37=none)(n:Int)(h:-1000000<=n/\n<=1000000):aI prog E 37 [.int .i64 n] (M5.aA n.natAbs):=by
 refine aI.aU 10 h0 func37 (h:=?_)
 by_cases a:n<0
 .have w1:IntKind.u64.wrap n=n+18446744073709551616:=by simp only[IntKind.wrap,IntKind.bits,IntKind.signed];simp;omega
  have w2:IntKind.u64.wrap (-(n+18446744073709551616))=(n.natAbs:Int):=yl;refine aD (A3 @a w1 w2) ?_;exact aa
 .have w1:IntKind.u64.wrap n=(n.natAbs:Int):=by simp only[IntKind.wrap,IntKind.bits,IntKind.signed];simp;omega
  refine aD (A2 @a w1) ?_;exact aa
def aAR:Nat->List PD->List U->Option (PD×List U):=entry (aX i64 M5 λn=>bJ (-1000000<=n/\n<=1000000) (some (n.natAbs:Int)))
omit hU in
theorem aWq{n:Int}(h:-1000000<=n/\n<=1000000)(fl:Nat)(σ:List U):aAR fl [.int .i64 n] σ=some (.int .u64 n.natAbs,σ):=by
 have e1:i64.dec (.int .i64 n)=some n:=Em.cR rfl;unfold aAR entry aX;exact gl
theorem aRM(h0:E 13=none)(h1:E 37=some aAR)(h2:E 36=some aAQ)(n d:Int):aI prog E 13 [.agg [.int .i64 n,.int .i64 d]] (i64.aA (kS n d)):=by
 by_cases a:d<=0
 .skip
  refine aI.aU 31 h0 func13 (h:=?_);refine aD @a ?_;simp(disch:=first|omega|(simp;done)|(simp;omega)) [yAu,kS,a]<;>try rfl
 by_cases b:1000000<d
 .skip
  refine aI.aU 31 h0 func13 (h:=?_);refine aD (A2 @a @b) ?_;simp(disch:=first|omega|(simp;done)|(simp;omega)) [yAu,kS,a,b]<;>try rfl
 by_cases c:n < -1000000
 .skip
  refine aI.aU 31 h0 func13 (h:=?_);refine aD (A3 @a @b @c) ?_;simp(disch:=first|omega|(simp;done)|(simp;omega)) [yAu,kS,a,b,c]<;>try rfl
 by_cases e:1000000<n
 .skip
  refine aI.aU 31 h0 func13 (h:=?_);refine aD (A4 @a @b @c @e) ?_;simp(disch:=first|omega|(simp;done)|(simp;omega)) [yAu,kS,a,b,c,e]<;>try rfl
 have hM:=aWq (n:=n) xb;obtain⟨D,rfl⟩:∃D:Nat,d=D:=⟨d.toNat,xb⟩;obtain⟨N,hN⟩:=gn (n.natAbs);rw[hN]at hM;have hG:=aWp (a:=N) (b:=D) xb xb;have w:IntKind.u64.wrap (D:Int)=D:=yl;obtain⟨g,hg⟩:=gn (Nat.gcd N D);have a2:¬D=0:=xb;have b2:¬1000000<D:=xb;have hE:kS n D=if g=1 then 0 else 2:=by
  unfold kS;rw[hN,yBq]
  by_cases q:g=1
  .rw[yAJ q,yAI xb]
  .rw[yAI q,yAJ xb]
 rw[hE];rw[hg]at hG
 by_cases q:g=1
 .have q1:(g:Int)=1:=by omega
  exact gz
 .have q1:¬(g:Int)=1:=by omega
  exact gz
def R9:Nat->List PD->List U->Option (PD×List U):=entry (aX Em.cB i64 λx=>some (kS x.1 x.2))
omit hU in
theorem aEW(n d:Int)(fl:Nat)(σ:List U):R9 fl [.agg [.int .i64 n,.int .i64 d]] σ=some (.int .i64 (kS n d),σ):=by
 have e1:Em.cB.dec (.agg [.int .i64 n,.int .i64 d])=some (n,d):=Em.cR rfl;unfold R9 entry aX;simp only[e1];rfl
theorem aRO(h0:E 105=none)(h1:E 13=some R9)(n d:Int):aI prog E 105 [.agg [.int .i64 n,.int .i64 d]] (i64.aA (mP n d)):=by
 have hF:=aEW n d
 by_cases a:kS n d=0
 .have hd:0<d/\d<=1000000:=by
   unfold kS at a;split at a
   .cases a
   .omega
  have w:IntKind.i64.wrap (128*d)=128*d:=by rw[yDx];omega
  rw[a]at hF;unfold mP;rw[a];refine aI.aU 23 h0 func105 (h:=?_)
  by_cases b:n<=0
  .refine aD (A3 h1 hF @b) ?_;simp(disch:=first|omega|(simp;done)|(simp;omega)) [yAu,b]<;>try rfl
  by_cases c:128*d<n
  .refine aD (A5 h1 hF @b @w @c) ?_;simp(disch:=first|omega|(simp;done)|(simp;omega)) [yAu,b,c]<;>try rfl
  by_cases e:128<d
  .exact lg
  .exact lg
 .unfold mP;rw[yAJ a];obtain⟨f,hf⟩:=gn (kS n d);rw[hf]at a hF;refine aI.aU 23 h0 func105 (h:=?_);refine aD (A3 h1 hF @a) ?_;exact aa
end
section
def kK{α:Type}(p:α->Bool):List α->Nat->Int
 | [],_=>-1
 |x::r,i=>if p x=true then(i:Int)else kK p r (i+1)
theorem aBC{α:Type}(p:α->Bool):∀(l:List α) (i:Nat),decide (0<=kK p l i)=l.any p
 | [],_=>rfl
 |x::r,i=>by
  unfold kK;cases h:p x with
  |true=>rw[yAJ rfl,yDz,h];simp
  |false=>rw[yAI xl,yDz,h,aBC p r (i+1)];rfl
def kV(w:Int):Bool:=decide (w<0)||decide (1000000<w)
def aAS:Nat->List PD->List U->Option (PD×List U):=entry (aX i64 Em.bool λn=>some (kV n))
theorem aWk(n:Int)(fl:Nat)(σ:List U):aAS fl [.int .i64 n] σ=some (.bool (kV n),σ):=by
 have e:i64.dec (.int .i64 n)=some n:=Em.cR rfl;unfold aAS entry aX;simp only[e];rfl
variable{E:aE}(hU:aF E)
include hU
theorem aRQ(h0:E 140=none)(n:Int):aI prog E 140 [.int .i64 n] (Em.bool.aA (kV n)):=by
 refine aI.aU 9 h0 func140 (h:=?_)
 by_cases a:n<0
 .refine aD @a ?_;simp(disch:=first|omega|(simp;done)|(simp;omega)) [yAu,kV,a]<;>try rfl
 .by_cases b:1000000<n
  .exact nq
  .exact nq
theorem aRS(h0:E 164=none)(h1:E 140=some aAS)(l:List Int)(hl:l.length<=1000000):aI prog E 164 [mM.aA l,.func 140 []] (i64.aA (kK kV l 0)):=by
 obtain⟨B,hB⟩:=gn (kK kV l 0);rw[hB];refine aI.aU 19 h0 func164 (h:=?_);refine aD trivial ?_;refine Wp.eV (λm fr σ=>∃(i:Nat),∃gg:Nat->PD,(i+m=l.length/\kK kV (l.drop i) i=B)/\fr=[mM.aA l,.func 140 [],gg 2,gg 3,gg 4,gg 5,mM.aA l,.int .i64 l.length,.int .i64 i,gg 9,gg 10,gg 11,gg 12,gg 13,gg 14,gg 15,gg 16,gg 17,gg 18]/\σ=[]) ?_ (l.length) (by refine⟨0,?_⟩;exact cG (⟨xb,hB⟩))
 rintro m fr σ ⟨i,gg,hI,rfl,rfl⟩
 obtain⟨hm,hs⟩:=hI
 by_cases hi:i<l.length
 .have q1:(i:Int)<(l.length:Int):=by omega
  obtain⟨a,ha⟩:=gn (l[i]);have hc:l.drop i=a::l.drop (i+1):=yg;have hE:=aWk a;rw[hc]at hs;unfold kK at hs;cases hb:kV a with
  |true=>
   rw[hb]at hE;rw[yAJ hb]at hs;have gJ:B=(i:Int):=hs.symm;clear hs;refine aD (A3 q1 hi ha) ?_
   first|refine Wp.seq ?_|skip
   apply Wp.dE;refine jJ (A4 h1 hE hi ha) ?_;apply SQ.nil;exact uh
  |false=>
   rw[hb]at hE;rw[yAI (by rw[hb];decide)]at hs;refine aD (A3 q1 hi ha) ?_
   first|refine Wp.seq ?_|skip
   apply Wp.dE;refine jJ (A4 h1 hE hi ha) ?_;apply SQ.nil;refine aD q1 ?_;exact fO
 .have q1:¬(i:Int)<(l.length:Int):=by omega
  rw[yAs xb]at hs;have gJ:B=-1:=hs.symm;exact uh
def aAT:Nat->List PD->List U->Option (PD×List U):=entry (λargs=>match args with
 | [p,.func g []]=>if g=140 then aX mM i64 (λl=>bJ (l.length<=1000000) (some (kK kV l 0))) [p]else none
 |_=>none)
omit hU in
theorem aWl{l:List Int}(hl:l.length<=1000000)(fl:Nat)(σ:List U):aAT fl [mM.aA l,.func 140 []] σ=some (.int .i64 (kK kV l 0),σ):=by
 have e1:=Em.cR (mM.str l);unfold aAT entry aX;simp only[e1,yAM];rw[dN hl];rfl
def aAU:Nat->List PD->List U->Option (PD×List U):=entry (λargs=>match args with
 | [p,.func g []]=>if g=140 then aX mM Em.bool (λl=>bJ (l.length<=1000000) (some (l.any kV))) [p]else none
 |_=>none)
omit hU in
theorem aWm{l:List Int}(hl:l.length<=1000000)(fl:Nat)(σ:List U):aAU fl [mM.aA l,.func 140 []] σ=some (.bool (l.any kV),σ):=by
 have e1:=Em.cR (mM.str l);unfold aAU entry aX;simp only[e1,yAM];rw[dN hl];rfl
theorem aRU(h0:E 139=none)(h1:E 164=some aAT)(l:List Int)(hl:l.length<=1000000):aI prog E 139 [mM.aA l,.func 140 []] (Em.bool.aA (l.any kV)):=by
 have hE:=aWl hl;rw[<-aBC kV l 0];refine aI.aU 9 h0 func139 (h:=?_);simp only[gA]at hE;exact uq
def pR(r:bA):Int:=
 if dR r.name=false\/dR r.E3=false then 8 else if mP r.num r.den≠0 then mP r.num r.den else if ¬(-256<=r.first/\r.first<=256)then 3 else if r.nD.length=0 then 13 else if 128<r.nD.length then 4 else if r.nD.any kV=true then 3 else 0
def OQ:Nat->List PD->List U->Option (PD×List U):=entry (aX Em.text Em.bool λs=>bJ (s.length<=100000) (some (dR s)))
omit hU in
theorem TF{s:Bx}(h:s.length<=100000)(fl:Nat)(σ:List U):OQ fl [.str s] σ=some (.bool (dR s),σ):=by
 have e1:Em.text.dec (.str s)=some s:=Em.cR rfl;unfold OQ entry aX;exact gl
theorem aRW(h0:E 107=none)(h1:E 139=some aAU)(l:List Int)(hl:l.length<=1000000):aI prog E 107 [mM.aA l] (i64.aA (if l.any kV=true then 3 else 0)):=by
 have hE:=aWm hl;simp only[gA]at hE;cases hb:l.any kV with
 |true=>
  rw[hb]at hE;refine aI.aU 5 h0 func107 (h:=?_);exact uq
 |false=>
  rw[hb]at hE;refine aI.aU 5 h0 func107 (h:=?_);exact uq
def WS:Nat->List PD->List U->Option (PD×List U):=entry (aX Em.cB i64 λx=>some (mP x.1 x.2))
omit hU in
theorem aLm(n d:Int)(fl:Nat)(σ:List U):WS fl [.agg [.int .i64 n,.int .i64 d]] σ=some (.int .i64 (mP n d),σ):=by
 have e1:Em.cB.dec (.agg [.int .i64 n,.int .i64 d])=some (n,d):=Em.cR rfl;unfold WS entry aX;simp only[e1];rfl
def gFi:Nat->List PD->List U->Option (PD×List U):=entry (aX i64 Em.bool λn=>some (decide (-256<=n)&&decide (n<=256)))
omit hU in
theorem aWn(n:Int)(fl:Nat)(σ:List U):gFi fl [.int .i64 n] σ=some (.bool (decide (-256<=n)&&decide (n<=256)),σ):=by
 have e1:i64.dec (.int .i64 n)=some n:=Em.cR rfl;unfold gFi entry aX;simp only[e1];rfl
def gWi:Nat->List PD->List U->Option (PD×List U):=entry (aX mM i64 λl=>bJ (l.length<=1000000) (some (if l.any kV=true then 3 else 0)))
omit hU in
theorem aWo{l:List Int}(h:l.length<=1000000)(fl:Nat)(σ:List U):gWi fl [mM.aA l] σ=some (.int .i64 (if l.any kV=true then 3 else 0),σ):=by
 have e1:=Em.cR (mM.str l);unfold gWi entry aX;exact gl
def jD(s:List UInt8):Prop:=s.length<=100000
theorem aR0(h0:E 50=none)(h1:E 49=some OQ)(h2:E 105=some WS)(h3:E 106=some gFi)(h4:E 107=some gWi)(r:bA)(hr:okR r)(hn:jD r.name)(ht:jD r.E3):aI prog E 50 [Em.bO.aA r] (i64.aA (pR r)):=by
 obtain⟨n,t,a,b,f,w⟩:=r;have e1:=TF hn;have e2:=TF ht;have e3:=aLm a b;have e4:=aWn f;have e5:=aWo (show w.length<=1000000 from hr);have hw:w.length<=1000000:=hr;unfold pR;simp only[gA]at e1 e2 e5;simp only[WQ,gA];cases c1:dR n with
 |false=>
  rw[c1]at e1;rw[yAJ (.inl rfl)];refine aI.aU 38 h0 func50 (h:=?_);refine aD (A2 h1 e1) ?_;exact aa
 |true=>
 rw[c1]at e1;cases c2:dR t with
 |false=>
  rw[c2]at e2;rw[yAJ (.inr rfl)];refine aI.aU 38 h0 func50 (h:=?_);refine aD (A3 h1 e1 e2) ?_;exact aa
 |true=>
 rw[c2]at e2;rw[yAI wz];obtain⟨p,hp⟩:=gn (mP a b);rw[hp]at e3 ⊢
 by_cases c3:p=0
 rotate_left
 .rw[yAJ c3];refine aI.aU 38 h0 func50 (h:=?_);refine aD (A6 h1 h2 e1 e2 e3 c3) ?_;exact aa
 subst c3;rw[yAI wz]
 by_cases c4:-256<=f/\f<=256
 rotate_left
 .rw[yAJ c4];have fX:(decide (-256<=f)&&decide (f<=256))=false:=by simpa using λh=>Int.not_le.1 (λg=>c4 ⟨h,g⟩)
  rw[fX]at e4;exact ux
 rw[yAI (not_not_intro c4)];have fX:(decide (-256<=f)&&decide (f<=256))=true:=by simpa using c4
 rw[fX]at e4
 by_cases c5:w.length=0
 .rw[yAJ c5];have IB:(w.length:Int)=0:=xb;have c6:w=[]:=yAf c5;subst c6;exact ux
 rw[yAI c5];have IB:¬w=[]:=λh=>c5 ya
 by_cases c6:128<w.length
 .rw[yAJ c6];have c7:128<(w.length:Int):=xb;refine aI.aU 38 h0 func50 (h:=?_);refine aD (A11 h1 h2 h3 e1 e2 e3 e4 c5 IB c6 c7) ?_;exact aa
 rw[yAI c6];have c7:¬128<(w.length:Int):=xb;obtain⟨q,hq⟩:∃q,(if w.any kV=true then(3:Int)else 0)=q:=⟨_,rfl⟩;rw[hq]at e5 ⊢;refine aI.aU 38 h0 func50 (h:=?_);refine aD (A13 h1 h2 h3 h4 e1 e2 e3 e4 e5 c5 IB c6 c7) ?_;exact aa
end
section
def O9(k:Nat):List fV->List fV->Int
 |_,[]=>0
 |pre,d::r=>if d.bO<0\/(k:Int)<=d.bO then 10 else if d.shift < -127\/127<d.shift then 3 else if (pre.any λx=>decide (x=d))=true then 9 else O9 k (pre++[d]) r
def FJ(k:Nat)(l:List fV):Int:=if 8<l.length then 4 else O9 k [] l
variable{E:aE}(hU:aF E)
include hU
theorem aR2(h0:E 184=none)(l:List fV)(v:fV)(hl:l.length<=1000000):aI prog E 184 [nE.aA l,Em.draw.aA v] (i64.aA (kK (λx=>decide (x=v)) l 0)):=by
 obtain⟨B,hB⟩:∃B,kK (λx=>decide (x=v)) l 0=B:=⟨_,rfl⟩;rw[hB];obtain⟨v0,v1⟩:=v;simp only[aAK];refine aI.aU 19 h0 func184 (h:=?_);refine aD trivial ?_;refine Wp.eV (λm fr σ=>∃(i:Nat),∃gg:Nat->PD,(i+m=l.length/\kK (λx=>decide (x=fV.mk v0 v1)) (l.drop i) i=B)/\fr=[nE.aA l,gg 1,gg 2,.ptr 0 0,gg 4,gg 5,nE.aA l,.int .i64 l.length,.int .i64 i,gg 9,gg 10,gg 11,gg 12,gg 13,gg 14,gg 15,gg 16,gg 17,gg 18]/\σ=[.box (.agg [.int .i64 v0,.int .i64 v1])]) ?_ (l.length) (by refine⟨0,?_⟩;exact cG (⟨xb,hB⟩))
 rintro m fr σ ⟨i,gg,hI,rfl,rfl⟩
 obtain⟨hm,hs⟩:=hI
 by_cases hi:i<l.length
 .have q1:(i:Int)<(l.length:Int):=by omega
  obtain⟨a,ha⟩:=gn (l[i]);have hc:l.drop i=a::l.drop (i+1):=yg;rw[hc]at hs;unfold kK at hs;obtain⟨a0,a1⟩:=a
  by_cases hb:a0=v0
  .by_cases lR:a1=v1
   .rw[yAJ (by rw[hb,lR];simp)]at hs;have gJ:B=(i:Int):=hs.symm;clear hs;refine aD (A5 q1 hi ha hb lR) ?_;exact aq
   .rw[yAI (by simpa using λ_=>lR)]at hs;refine aD (An @q1 (An @hi (An @ha (An @hb (An @lR ((yBc lR))))))) ?_;exact fO
  .rw[yAI (by simpa using λh=>absurd h hb)]at hs;refine aD (An @q1 (An @hi (An @ha (An @hb ((yBc hb)))))) ?_;exact fO
 .have q1:¬(i:Int)<(l.length:Int):=by omega
  rw[yAs xb]at hs;have gJ:B=-1:=hs.symm;exact uh
def aAV:Nat->List PD->List U->Option (PD×List U):=entry (cV nE Em.draw i64 λl v=>bJ (l.length<=1000000) (some (kK (λx=>decide (x=v)) l 0)))
omit hU in
theorem aWi{l:List fV}{v:fV}(hl:l.length<=1000000)(fl:Nat)(σ:List U):aAV fl [nE.aA l,Em.draw.aA v] σ=some (.int .i64 (kK (λx=>decide (x=v)) l 0),σ):=by
 have e1:=Em.cR (nE.str l);have e2:=Em.cR (Em.draw.str v);unfold aAV entry cV;simp only[e1,e2];rw[dN hl];rfl
def aAW:Nat->List PD->List U->Option (PD×List U):=entry (cV nE Em.draw Em.bool λl v=>bJ (l.length<=1000000) (some (l.any λx=>decide (x=v))))
omit hU in
theorem aWj{l:List fV}{v:fV}{p:PD}(hl:l.length<=1000000)(hp:p.strip=nE.aA l)(fl:Nat)(σ:List U):aAW fl [p,Em.draw.aA v] σ=some (.bool (l.any λx=>decide (x=v)),σ):=by
 have e1:=Em.cR hp;have e2:=Em.cR (Em.draw.str v);unfold aAW entry cV;simp only[e1,e2];rw[dN hl];rfl
theorem aR4(h0:E 165=none)(h1:E 184=some aAV)(l:List fV)(v:fV)(hl:l.length<=1000000):aI prog E 165 [nE.aA l,Em.draw.aA v] (Em.bool.aA (l.any λx=>decide (x=v))):=by
 have hE:=aWi (v:=v) hl;rw[<-aBC _ l 0];simp only[gA,aAK]at hE;simp only[aAK];refine aI.aU 9 h0 func165 (h:=?_);exact uq
theorem aR6(h0:E 142=none)(h1:E 165=some aAW)(rs:List bA)(hrs:rs.length<=1000000)(lo hg:Int)(l:List fV)(hl:l.length<=1000000) :
  aI prog E 142 [.agg [bM.aA rs,.int .i64 lo,.int .i64 hg],nE.aA l] (i64.aA (FJ rs.length l)):=by
 unfold FJ
 by_cases c:8<l.length
 .have c1:8<(l.length:Int):=by omega
  rw[yAJ c];refine aI.aU 45 h0 func142 (h:=?_);refine aD (A2 @c c1) ?_;exact aa
 have c1:¬8<(l.length:Int):=xb;rw[yAI c];obtain⟨B,hB⟩:=gn (O9 rs.length [] l);rw[hB];refine aI.aU 45 h0 func142 (h:=?_);refine aD (A2 @c c1) ?_;obtain⟨X,hX⟩:=gn (U.box (.agg [.slice (sz 6 rs) (rs.map Em.bO.aA) .any,.int .i64 lo,.int .i64 hg]));refine Wp.eV (λm fr σ=>∃(i:Nat) (σ1:List U),∃gg:Nat->PD,(i+m=l.length/\σ1[0]?=some X/\O9 rs.length (l.take i) (l.drop i)=B)/\fr=[gg 0,nE.aA l,.ptr 0 0,gg 3,gg 4,gg 5,gg 6,gg 7,gg 8,gg 9,nE.aA l,.int .i64 l.length,.int .i64 i,gg 13,gg 14,gg 15,gg 16,gg 17,gg 18,gg 19,gg 20,gg 21,gg 22,gg 23,gg 24,gg 25,gg 26,gg 27,gg 28,gg 29,gg 30,gg 31,gg 32,gg 33,gg 34,gg 35,gg 36,gg 37,gg 38,gg 39,gg 40,gg 41,gg 42,gg 43,gg 44]/\σ=σ1) ?_ (l.length) (by refine⟨0,[X],?_⟩;exact jV (⟨xb,rfl,hB⟩) @hX)
 rintro m fr σ ⟨i,σ1,gg,hI,rfl,rfl⟩
 obtain⟨hm,hx0,hs⟩:=hI
 by_cases hi:i<l.length
 .have q1:(i:Int)<(l.length:Int):=by omega
  obtain⟨a,ha⟩:=gn (l[i]);have hc:l.drop i=a::l.drop (i+1):=yg;rw[hc]at hs;unfold O9 at hs;obtain⟨a0,a1⟩:=a;have eZ:0<σ.length:=(yA.1 hx0).1;have j0:∀x:U,(σ++[x])[σ.length]?=some x:=λx=>wz
  have j1:∀x:U,(σ++[x])[0]?=some X:=λx=>ze
  rw[<-hX]at j1;have hx1:=hx0;rw[<-hX]at hx1;obtain⟨hltx,hxe⟩:=yA.1 hx1
  by_cases c2:a0<0
  .rw[yAJ (.inl c2)]at hs;subst hs;refine aD (A9 q1 hi ha j0 j1 hx1 eZ hxe c2) ?_;exact aa
  by_cases c3:(rs.length:Int)<=a0
  .rw[yAJ (.inr c3)]at hs;subst hs;refine aD (A10 q1 hi ha j0 j1 hx1 eZ hxe c2 c3) ?_;exact aa
  rw[yAI (λh=>h.elim c2 c3)]at hs
  by_cases c4:a1 < -127
  .rw[yAJ (.inl c4)]at hs;subst hs;refine aD (A11 q1 hi ha j0 j1 hx1 eZ hxe c2 c3 c4) ?_;exact aa
  by_cases c5:127<a1
  .rw[yAJ (.inr c5)]at hs;subst hs;refine aD (A12 q1 hi ha j0 j1 hx1 eZ hxe c2 c3 c4 c5) ?_;exact aa
  rw[yAI (λh=>h.elim c4 c5)]at hs;have hsl:(PD.slice (sz 2 l) ((l.map Em.draw.aA).take i) .any).strip=nE.aA (l.take i):=by
   rw[PD.nQ,<-yD,show((l.take i).map Em.draw.aA).map PD.strip=(l.take i).map Em.draw.aA by rw[yBo];exact yAG λx _=>Em.draw.str x];have hne:l≠[]:=λh=>by rw[h]at hi;simp at hi
   rw[gA];simp[sz,hne]
  have hE:=aWj (v:=⟨a0,a1⟩) (l:=l.take i) (p:=PD.slice (sz 2 l) ((l.map Em.draw.aA).take i) .any) Ar hsl;simp only[aAK]at hE;have hle:i<=l.length:=xb;have htk:l.take (i+1)=l.take i++[⟨a0,a1⟩]:=by rw[yBV hi,ha]
  cases hb:(l.take i).any λx=>decide (x=fV.mk a0 a1)with
  |true=>
   rw[hb]at hE hs;rw[yAJ rfl]at hs;subst hs;refine aD vr ?_;exact aa
  |false=>
   rw[hb]at hE hs;rw[yAI xl]at hs;refine aD vr ?_;refine aM.normal (m-1) xb (by refine⟨i+1,σ++[.box (.agg [.int .i64 a0,.int .i64 a1])],?_⟩;exact cG (⟨xb,ze,by rw[htk];exact hs⟩))
 .have q1:¬(i:Int)<(l.length:Int):=by omega
  rw[yAs xb]at hs;have gJ:B=0:=hs.symm;exact uh
end
section
def S8(r:bA):Prop:=okR r/\jD r.name/\jD r.E3
def M4:List bA->Int
 | []=>0
 |r::t=>if pR r≠0 then pR r else M4 t
def K4(rs:List bA)(lo hg:Int):Int:=if 60<rs.length then 4 else if M4 rs≠0 then M4 rs else lG lo hg
def WT:Nat->List PD->List U->Option (PD×List U):=entry (aX Em.bO i64 λr=>bJ (S8 r) (some (pR r)))
theorem aLe{r:bA}(h:S8 r)(fl:Nat)(σ:List U):WT fl [Em.bO.aA r] σ=some (.int .i64 (pR r),σ):=by
 have e1:=Em.cR (Em.bO.str r);unfold WT entry aX;exact gl
def R8:Nat->List PD->List U->Option (PD×List U):=entry (aX Em.cB i64 λx=>some (lG x.1 x.2))
theorem aFv(n d:Int)(fl:Nat)(σ:List U):R8 fl [.agg [.int .i64 n,.int .i64 d]] σ=some (.int .i64 (lG n d),σ):=by
 have e1:Em.cB.dec (.agg [.int .i64 n,.int .i64 d])=some (n,d):=Em.cR rfl;unfold R8 entry aX;simp only[e1];rfl
variable{E:aE}(hU:aF E)
include hU
theorem aR8(h0:E 141=none)(h1:E 50=some WT)(h2:E 108=some R8)(rs:List bA)(hrs:∀r∈rs,S8 r)(hrl:rs.length<=1000000)(lo hg:Int) :
  aI prog E 141 [.agg [bM.aA rs,.int .i64 lo,.int .i64 hg]] (i64.aA (K4 rs lo hg)):=by
 unfold K4
 by_cases c:60<rs.length
 .have c1:60<(rs.length:Int):=by omega
  rw[yAJ c];refine aI.aU 26 h0 func141 (h:=?_);refine aD (A2 @c c1) ?_;exact aa
 have c1:¬60<(rs.length:Int):=xb;rw[yAI c];obtain⟨B,hB⟩:=gn ((if M4 rs≠0 then M4 rs else lG lo hg));rw[hB];have hC:=aFv lo hg;refine aI.aU 26 h0 func141 (h:=?_);refine aD (A2 @c c1) ?_;obtain⟨X,hX⟩:=gn (U.box (.agg [.slice (sz 6 rs) (rs.map Em.bO.aA) .any,.int .i64 lo,.int .i64 hg]));refine Wp.eV (λm fr σ=>∃(i:Nat) (σ1:List U),∃gg:Nat->PD,(i+m=rs.length/\σ1[0]?=some X/\(if M4 (rs.drop i)≠0 then M4 (rs.drop i)else lG lo hg)=B)/\fr=[gg 0,.ptr 0 0,gg 2,gg 3,gg 4,gg 5,gg 6,gg 7,gg 8,gg 9,gg 10,bM.aA rs,.int .i64 rs.length,.int .i64 i,gg 14,gg 15,gg 16,gg 17,gg 18,gg 19,gg 20,gg 21,gg 22,gg 23,gg 24,gg 25]/\σ=σ1) ?_ (rs.length) (by refine⟨0,[X],?_⟩;exact jV (⟨xb,rfl,hB⟩) @hX)
 rintro m fr σ ⟨i,σ1,gg,hI,rfl,rfl⟩
 obtain⟨hm,hx0,hs⟩:=hI;have hx1:=hx0;rw[<-hX]at hx1;obtain⟨eZ,hxe⟩:=yA.1 hx1
 by_cases hi:i<rs.length
 .have q1:(i:Int)<(rs.length:Int):=by omega
  obtain⟨a,ha⟩:=gn (rs[i]);have hc:rs.drop i=a::rs.drop (i+1):=yg;rw[hc]at hs;unfold M4 at hs;have hE:=aLe (hrs a (ha▸yAm hi));have j0:∀x:U,(σ++[x])[σ.length]?=some x:=λx=>wz
  obtain⟨e,he⟩:=gn (pR a);rw[he]at hE hs;simp only[WQ,gA]at hE
  by_cases c2:e=0
  .subst c2;simp only[ne_eq,yBt,yAN]at hs;refine aD (A6 q1 hi ha j0 h1 hE) ?_;refine aM.normal (m-1) xb (by refine⟨i+1,σ++[.box (.agg [.str a.name,.str a.E3,.int .i64 a.num,.int .i64 a.den,.int .i64 a.first,.slice (sz 1 a.nD) (a.nD.map i64.aA) .any])],?_⟩;exact cG (⟨xb,ze,hs⟩))
  .simp only[ne_eq,c2,yCo,yAM]at hs;subst hs;refine aD (A7 q1 hi ha j0 h1 hE c2) ?_;exact aa
 .have q1:¬(i:Int)<(rs.length:Int):=by omega
  rw[yAs xb]at hs;have hs2:lG lo hg=B:=hs;rw[hs2]at hC;refine aD (A6 q1 hx1 eZ hxe h2 hC) ?_;exact aa
end
end Go.Kz
namespace Go.Kz
section
open Go
section
variable{P:Program}{call:cO}{fl:Nat}{ops:Cb}{l:List Oper}{fr aG:Bw}{σ σ1:Bv}{K:List PD->List U->Prop}
variable{dst:Option Tmp}{x y z:Operand}{t ty:TypeId}{pos:String}{edges:Array Edge}{guard:Option (Nat×Bool)}{p q v r:PD}{ok:Bool}
theorem SL.lookup(hw:Wt (Region.wanted ⟨dst,.lookup t x y ok,ty,pos,edges,guard⟩ (aY ops fr)=true))(hx:bG fr x=some p)(hy:bG fr y=some q)(hr:By (RO P σ t p q ok=some r))(hf:Fr (aL fr dst r=aG))(k:SQ P call fl ops l aG σ K) :
  SQ P call fl ops (⟨dst,.lookup t x y ok,ty,pos,edges,guard⟩::l) fr σ K:=
 .step hw.h (EO rfl rfl (by simp only[cK,cJ hx,cJ hy,hr.h])) (hf.h▸k)
theorem SL.mapUpdate(hw:Wt (Region.wanted ⟨dst,.mapUpdate t x y z,ty,pos,edges,guard⟩ (aY ops fr)=true))(hx:bG fr x=some p)(hy:bG fr y=some q)(hz:bG fr z=some v)(hr:By (RP P fl σ t p q v=some σ1))(hf:Fr (aL fr dst (.aK [])=aG))(k:SQ P call fl ops l aG σ1 K) :
  SQ P call fl ops (⟨dst,.mapUpdate t x y z,ty,pos,edges,guard⟩::l) fr σ K:=
 .step hw.h (EO rfl rfl (by simp only[cK,cJ hx,cJ hy,cJ hz,hr.h])) (hf.h▸k)
theorem SL.makeMap{kt e:TypeId}(hw:Wt (Region.wanted ⟨dst,.makeMap t none,ty,pos,edges,guard⟩ (aY ops fr)=true))(hx:By (P.underlying t=some (.map kt e)))(hr:Ns (σ++[.map []]=σ1)){n:Nat}(hn:Ns (σ.length=n))(hf:Fr (aL fr dst (.gG n)=aG))(k:SQ P call fl ops l aG σ1 K) :
  SQ P call fl ops (⟨dst,.makeMap t none,ty,pos,edges,guard⟩::l) fr σ K:=by
 obtain⟨rfl⟩:=hr.h;obtain⟨rfl⟩:=hn.h;exact .step hw.h (EO rfl rfl (by simp only[cK,hx.h])) (hf.h▸k)
end
theorem kX{X R G:Prop}(gx:X)(r:R)(h:X->Hd R->G:=by
  (intro gx hh
   (repeat(first
    |(refine Fr.i ?_;simp only[aL,yAT,yAU];try rfl)
    |(refine By.i ?_;(focus(simp(disch:=first|omega|(simp;done)|(simp;omega)) [wrap_i64,wrap_u64,gx,entry,Q6,aX,cV,Q7];first|done|rfl|exact⟨rfl,rfl⟩)))
    |(refine By.i ?_;simp(disch:=first|omega|(simp;done)|(simp;omega)) [wrap_i64,wrap_u64,gx,entry,Q6,aX,cV,Q7];refine⟨xh,rfl⟩)
    |(refine Wt.i ?_;first|rfl|(focus(simp[gx,entry,Q6,aX,cV,Q7];done)))
    |(refine Ns.i ?_;(try simp only[yAl,yAQ,yAR,yAi,yAa,yAK,yAL,yAp,Nat.reduceAdd]);rfl)|rfl
    |(apply SL.pass;(focus(refine Wt.i ?_;rfl)))|(apply SL.OJ;(focus decide +kernel))|(apply tu;(focus rfl))|apply SL.move|apply SL.assign|apply SL.load|apply SL.fK|apply tu|apply tu
    |apply SL.binOp|apply SL.append|apply tu|apply SL.builtin|apply SL.fieldAddr|apply SL.indexAddr|apply SL.field|apply SL.extract|apply SL.fL|apply SL.pick|apply SL.store|apply SL.unOp|apply SL.convert|apply SL.index
    |apply SL.slice|apply SL.build|apply SL.nilCheck|apply SL.buildSlice|apply SL.box|apply SL.alloc|apply SL.makeFunc|apply SL.lookup|apply SL.mapUpdate|apply SL.makeMap|apply SQ.nil|(apply WL.jU;(focus decide +kernel))
    |(apply WL.dW xd;(focus decide +kernel);(focus decide +kernel))|(apply WL.jG;(focus decide +kernel);(focus decide +kernel))|(apply WL.kE;(focus decide +kernel))
    |(apply WL.kC xd;(focus decide +kernel);(focus decide +kernel))|(apply tu;(focus decide +kernel);(focus decide +kernel))|(apply WL.kB xd;(focus decide +kernel);(focus decide +kernel))
    |(apply WL.kA xd;(focus decide +kernel);(focus decide +kernel))|(apply WL.lA xd;(focus decide +kernel);(focus decide +kernel))
    |(apply tu xd;(focus decide +kernel);(focus decide +kernel))|apply tu|(apply WL.ct;(focus rfl))|(apply WL.cf;(focus rfl))|refine aS.normal ?_|refine aS.ret ?_|refine aS.exit ?_
    |refine aO.normal ?_|refine aO.ret ?_|refine aO.here ?_|refine aO.there xl ?_|refine Wp.block ?_|refine Wp.skip ?_|refine Wp.ret ?_|refine Wp.exit ?_|refine aM.ret ?_|refine aM.exit ?_
    |refine tu ?_|refine tu ?_|refine tu ?_|refine Wp.seq (Wp.seq ?_)|refine Wp.seq (Wp.block ?_)|(refine Wp.seq ?_;apply WL.ct;(focus rfl))|(refine Wp.seq ?_;apply WL.cf;(focus rfl))))
   exact hh.out)):G:=h gx ⟨r⟩
end
end Go.Kz
namespace Go.Kz
open Go Go.Proofs
section
def pvB(pv:Option Int)(n:Int):Bool:=match pv with|none=>false|some t=>decide (n<=t)
def O8(k:Nat)(lo hg:Int):Option Int->List kJ->Int
 |_,[]=>0
 |pv,g::r=>if min g.lo g.hi<lo\/hg<max g.lo g.hi then 23 else if g.hi<g.lo\/pvB pv g.lo=true then 6 else if FJ k g.rI≠0 then FJ k g.rI else O8 k lo hg (some g.hi) r
def YB(l:List kJ):Nat->Option Int
 |0=>none
 |j+1=>(l[j]?).map kJ.hi
def S9(k:Nat)(lo hg:Int)(l:List kJ):Int:=if l.length=0 then 13 else if 12<l.length then 4 else O8 k lo hg none l
def DE(rs:List bA)(lo hg:Int)(s:dL):Int:=
 if K4 rs lo hg≠0 then K4 rs lo hg else if dR s.name=false then 8 else if mP s.num s.den≠0 then mP s.num s.den else S9 rs.length lo hg s.E4
def bC.place:bC (List bA×Int×Int):=((bC.one bM).pair ((bC.one i64).pair (.one i64))).mF (λr=>(r.1,r.2.1,r.2.2)) (λx y h=>by obtain⟨_,_,_⟩:=x;obtain⟨_,_,_⟩:=y;simpa using h)
def Em.place:Em (List bA×Int×Int):=.agg .place
@[simp] theorem aFu{r:List bA×Int×Int}:Em.place.aA r=.agg [bM.aA r.1,.int .i64 r.2.1,.int .i64 r.2.2]:=rfl
def K5(rs:List bA):Prop:=(∀r∈rs,S8 r)/\rs.length<=1000000
def aAX:Nat->List PD->List U->Option (PD×List U):=entry (aX Em.place i64 λx=>bJ (K5 x.1) (some (K4 x.1 x.2.1 x.2.2)))
theorem aWg{rs:List bA}(h:K5 rs)(lo hg:Int)(fl:Nat)(σ:List U):aAX fl [.agg [bM.aA rs,.int .i64 lo,.int .i64 hg]] σ=some (.int .i64 (K4 rs lo hg),σ):=by
 have e1:=Em.cR (Em.place.str (rs,lo,hg));rw[aFu]at e1;unfold aAX entry aX;exact gl
def gDr:Nat->List PD->List U->Option (PD×List U):=entry (cV Em.place nE i64 λx l=>bJ (x.1.length<=1000000/\l.length<=1000000) (some (FJ x.1.length l)))
theorem aWh{rs:List bA}{l:List fV}(h:rs.length<=1000000)(hl:l.length<=1000000)(lo hg:Int)(fl:Nat)(σ:List U):gDr fl [.agg [bM.aA rs,.int .i64 lo,.int .i64 hg],nE.aA l] σ=some (.int .i64 (FJ rs.length l),σ):=by
 have e1:=Em.cR (Em.place.str (rs,lo,hg));rw[aFu]at e1;have e2:=Em.cR (nE.str l);unfold gDr entry cV;simp only[e1,e2];rw[dN ⟨h,hl⟩];rfl
variable{E:aE}(hU:aF E)
include hU
theorem aSa(h0:E 109=none)(h1:E 141=some aAX)(h2:E 49=some OQ)(h3:E 105=some WS)(h4:E 142=some gDr)(rs:List bA)(hrs:K5 rs)(lo hg:Int)(s:dL)(hs:okS s)(hn:jD s.name) :
  aI prog E 109 [.agg [bM.aA rs,.int .i64 lo,.int .i64 hg],Em.stop.aA s] (i64.aA (DE rs lo hg s)):=by
 obtain⟨n,a,b,l⟩:=s;have e1:=aWg hrs lo hg;have e2:=TF hn;have e3:=aLm a b;have hl:l.length<=1000000:=hs.1;unfold DE;obtain⟨p,hp⟩:=gn (K4 rs lo hg);obtain⟨q,hq⟩:=gn (mP a b);rw[hp]at e1 ⊢;simp only[gA]at e1;simp only[hq]at e3 ⊢;simp only[RX,gA]
 by_cases c1:p=0
 rotate_left
 .rw[yAJ c1];refine aI.aU 94 h0 func109 (h:=?_);refine aD (A3 h1 e1 c1) ?_;exact aa
 subst c1;simp only[ne_eq,yBt,yAN];cases c2:dR n with
 |false=>
  simp only at e2;rw[c2]at e2;rw[yAJ rfl];refine aI.aU 94 h0 func109 (h:=?_);refine aD (A4 h1 h2 e1 e2) ?_;exact aa
 |true=>
 simp only at e2;rw[c2]at e2;rw[yAI wz]
 by_cases c3:q=0
 rotate_left
 .rw[yAJ c3];refine aI.aU 94 h0 func109 (h:=?_);refine aD (A7 h1 h2 h3 e1 e2 e3 c3) ?_;exact aa
 subst c3;simp only[yBt,yAN];unfold S9
 by_cases c4:l.length=0
 .rw[yAJ c4];have c6:l=[]:=yAf c4;subst c6;refine aI.aU 94 h0 func109 (h:=?_);refine aD (A6 h1 h2 h3 e1 e2 e3) ?_;exact aa
 rw[yAI c4];have fX:¬l=[]:=λh=>c4 ya
 by_cases c5:12<l.length
 .rw[yAJ c5];have c6:12<(l.length:Int):=xb;refine aI.aU 94 h0 func109 (h:=?_);refine aD (A10 h1 h2 h3 e1 e2 e3 c4 fX c5 c6) ?_;exact aa
 rw[yAI c5];have c6:¬12<(l.length:Int):=xb;obtain⟨B,hB⟩:=gn (O8 rs.length lo hg none l);rw[hB];refine aI.aU 94 h0 func109 (h:=?_);refine aD (A10 h1 h2 h3 e1 e2 e3 c4 fX c5 c6) ?_;obtain⟨X,hX⟩:=gn (U.box (.agg [.slice (sz 6 rs) (rs.map Em.bO.aA) .any,.int .i64 lo,.int .i64 hg]));obtain⟨Y,hY⟩:=gn (U.box (.agg [.str n,.int .i64 a,.int .i64 b,.slice (sz 3 l) (l.map Em.cD.aA) .any]));refine Wp.eV (λm fr σ=>∃(i:Nat) (σ1:List U),∃gg:Nat->PD,(i+m=l.length/\σ1[0]?=some X/\σ1[1]?=some Y/\O8 rs.length lo hg (YB l i) (l.drop i)=B)/\fr=gg 0::gg 1::.ptr 0 0::.ptr 1 0::gg 4::gg 5::gg 6::gg 7::gg 8::gg 9::gg 10::gg 11::gg 12::gg 13::gg 14::gg 15::gg 16::gg 17::gg 18::gg 19::gg 20::gg 21::gg 22::gg 23::gg 24::gg 25::gg 26::gg 27::gg 28::gg 29::gg 30::gg 31::gg 32::gg 33::gg 34::gg 35::aAL.aA l::.int .i64 l.length::.int .i64 i::gg 39::gg 40::gg 41::gg 42::gg 43::gg 44::gg 45::gg 46::gg 47::gg 48::gg 49::gg 50::gg 51::gg 52::gg 53::gg 54::gg 55::gg 56::gg 57::gg 58::gg 59::gg 60::gg 61::gg 62::gg 63::gg 64::gg 65::gg 66::gg 67::gg 68::gg 69::gg 70::gg 71::gg 72::gg 73::gg 74::gg 75::gg 76::gg 77::gg 78::gg 79::gg 80::gg 81::gg 82::gg 83::gg 84::gg 85::gg 86::gg 87::gg 88::gg 89::gg 90::gg 91::gg 92::gg 93::[]/\σ=σ1) ?_ (l.length) (by refine⟨0,[X,Y],?_⟩;exact jV (⟨xb,rfl,rfl,hB⟩) (A2 hX hY))
 rintro m fr σ ⟨i,σ1,gg,hI,rfl,rfl⟩
 obtain⟨hm,hx0,hy0,hs2⟩:=hI
 by_cases hi:i<l.length
 .have q1:(i:Int)<(l.length:Int):=by omega
  obtain⟨g,lD⟩:=gn (l[i]);have hc:l.drop i=g::l.drop (i+1):=by rw[yAq hi,lD]
  have hpv:YB l (i+1)=some g.hi:=by
   show(l[i]?).map kJ.hi=_
   rw[yAh hi,lD];rfl
  rw[hc]at hs2;unfold O8 at hs2;have hgm:g∈l:=lD▸yAm hi
  have hgl:g.rI.length<=1000000:=hs.2 g hgm;have hD:=aWh hrs.2 hgl lo hg;have hx1:=hx0;have hy1:=hy0;rw[<-hX]at hx1;rw[<-hY]at hy1;obtain⟨eZ,hxe⟩:=yA.1 hx1;obtain⟨jY,hye⟩:=yA.1 hy1;obtain⟨g0,g1,gd⟩:=g;simp only[gA]at hD;simp only at hs2 hpv hgl hD;have j0:∀x:U,(σ++[x])[σ.length]?=some x:=λx=>wz
  obtain⟨MN,hMN⟩:=gn (min g0 g1);obtain⟨MX,hMX⟩:=gn (max g0 g1);have hmn:(if g1<g0 then g1 else g0)=MN:=by rw[<-hMN];split<;>omega
  have hmx:(if g0<g1 then g1 else g0)=MX:=by rw[<-hMX];split<;>omega
  rw[hMN,hMX]at hs2
  by_cases c7:MN<lo
  .rw[yAJ (.inl c7)]at hs2;subst hs2;refine aD (A13 q1 hi lD j0 hx1 hy1 eZ jY hxe hye hmn hmx c7) ?_;exact aa
  by_cases c8:hg<MX
  .rw[yAJ (.inr c8)]at hs2;subst hs2;refine aD (A14 q1 hi lD j0 hx1 hy1 eZ jY hxe hye hmn hmx c7 c8) ?_;exact aa
  rw[yAI (λh=>h.elim c7 c8)]at hs2
  by_cases c9:g1<g0
  .rw[yAJ (.inl c9)]at hs2;subst hs2;have c9':¬g0<g1:=xb;have d7:¬g1<lo:=xb;have d8:¬hg<g0:=xb;refine aD (A14 q1 hi lD j0 hx1 hy1 eZ jY hxe hye c9 c9' @d7 @d8) ?_;exact aa
  have d7:¬g0<lo:=xb;have d8:¬hg<g1:=xb;have hm2:(if g0<g1 then g1 else g0)=g1:=by split<;>omega
  clear hmn hmx hMN hMX c7 c8;obtain⟨dr,hdr⟩:=gn (FJ rs.length gd);rw[hdr]at hD hs2;obtain⟨Z,hZ⟩:=gn (U.box (.agg [.int .i64 g0,.int .i64 g1,.slice (sz 2 gd) (gd.map Em.draw.aA) .any]))
  by_cases ci:i=0
  .subst ci;rw[show YB l 0=none from rfl,yAI (λh=>h.elim c9 (by simp[pvB]))]at hs2
   by_cases wH:dr=0
   .subst wH;simp only[ne_eq,yBt,yAN]at hs2;refine aD (A16 q1 hi lD j0 hx1 hy1 eZ jY hxe hye c9 hm2 @d7 @d8 h4 hD) ?_;refine aM.normal (m-1) xb (by refine⟨1,σ++[Z],?_⟩;exact jV (⟨xb,ze,by rw[yAg jY];exact hy0,by rw[show YB l 1=some g1 from hpv];exact hs2⟩) @hZ)
   .simp only[ne_eq,wH,yCo,yAM]at hs2;subst hs2;refine aD (A17 q1 hi lD j0 hx1 hy1 eZ jY hxe hye c9 hm2 @d7 @d8 h4 hD wH) ?_;exact aa
  .obtain⟨j,hji⟩:∃j,i=j+1:=⟨i-1,xb⟩;have hj:j<l.length:=xb;obtain⟨p,mH⟩:=gn (l[j]);have hpo:YB l i=some p.hi:=by
    rw[hji];show(l[j]?).map kJ.hi=_
    rw[yAh hj,mH];rfl
   rw[hpo]at hs2;obtain⟨p0,p1,pd⟩:=p;have w1:IntKind.i64.wrap ((i:Int)-1)=(j:Int):=by rw[yDx];omega
   have q3:0<i:=xb
   by_cases IP:g0<=p1
   .rw[yAJ (.inr (by simpa [pvB]using IP))]at hs2;subst hs2;refine aD (A19 q1 hi lD j0 hx1 hy1 eZ jY hxe hye c9 hm2 @d7 @d8 q3 w1 hj mH IP) ?_;exact aa
   rw[yAI (λh=>h.elim c9 (by simpa [pvB]using IP))]at hs2
   by_cases wH:dr=0
   .subst wH;simp only[ne_eq,yBt,yAN]at hs2;refine aD (A20 q1 hi lD j0 hx1 hy1 eZ jY hxe hye c9 hm2 @d7 @d8 h4 hD q3 w1 hj (A2 mH IP)) ?_;refine aM.normal (m-1) xb (by refine⟨i+1,σ++[Z],?_⟩;exact jV (⟨xb,ze,by rw[yAg jY];exact hy0,by rw[hpv];exact hs2⟩) @hZ)
   .simp only[ne_eq,wH,yCo,yAM]at hs2;subst hs2;refine aD (A20 q1 hi lD j0 hx1 hy1 eZ jY hxe hye c9 hm2 @d7 @d8 h4 hD q3 w1 hj (A3 mH IP wH)) ?_;exact aa
 .have q1:¬(i:Int)<(l.length:Int):=by omega
  rw[yAs xb]at hs2;have gJ:B=0:=hs2.symm;exact uh
end
end Go.Kz
namespace Go.Kz
section
open Go Go.Proofs Go.RowKit
end
end Go.Kz
namespace Go.Proofs
open Go Go.Shelf Go.RowKit Go.Sort Go.Lib
end Go.Proofs
namespace Go.Kz
open Go Go.Proofs Go.RowKit
set_option maxRecDepth 100000
end Go.Kz
namespace Go.Kz
open Go Go.Proofs
section
variable{E:aE}(hU:aF E)
include hU
end
section
theorem cH.X9{P:Program}{E:aE}{fl:Nat}{f:FuncId ⊕ Nat}{args:Bw}{σ σ':Bv}{p:PD}(h:cH P E fl f args σ (λp1 σ1=>p1=p/\σ1=σ')):lM P E fl f args σ p σ':=by
 obtain⟨p1,σ1,h1,rfl,rfl⟩:=h.ex;exact h1
section
variable{E:aE}(hU:aF E)
include hU
end
section
variable{E:aE}(hU:aF E)
include hU
end
end
section
def FN{α:Type}(p:α->Bool):List α->Nat
 | []=>0
 |x::r=>if p x=true then 1 else FN p r+1
def DG(x:eF):U:=.box (.agg [.str x.name,.int .i64 x.lT,.int .i64 x.dst,.int .i64 x.shift,.bool x.ME])
def iP(nm:List UInt8)(x:eF):Bool:=decide (x.name=nm)
def KM:Nat->List PD->List U->Option (PD×List U):=λ_ args σ=>match args with
 | [.agg [.str n,.int .i64 a,.int .i64 b,.int .i64 c,.bool t],.ptr id 0]=>match σ[id]? with
   |some (.box (.agg [.str nm,.int .i64 _,.int .i64 _,.int .i64 _,.bool _]))=>some (.bool (decide (n=nm)),σ++[.box (.agg [.str n,.int .i64 a,.int .i64 b,.int .i64 c,.bool t])])
   |_=>none
 |_=>none
variable{E:aE}(hU:aF E)
include hU
theorem aWd(h0:E 111=none)(fl:Nat)(x0:List UInt8)(x1 x2 x3:Int)(x4:Bool)(nm:List UInt8)(c1 c2 c3:Int)(c4:Bool)(id:Nat)(τ:List U)(hid:τ[id]?=some (.box (.agg [.str nm,.int .i64 c1,.int .i64 c2,.int .i64 c3,.bool c4]))) :
  cH prog E fl (.inl 111) [.agg [.str x0,.int .i64 x1,.int .i64 x2,.int .i64 x3,.bool x4],.ptr id 0] τ (λp1 σ1=>p1=.bool (decide (x0=nm))/\σ1=τ++[.box (.agg [.str x0,.int .i64 x1,.int .i64 x2,.int .i64 x3,.bool x4])]):=by
 obtain⟨hlt,he⟩:=yA.1 hid;have j0:∀x:U,(τ++[x])[τ.length]?=some x:=λx=>wz
 by_cases c:x0=nm
 .rw[decide_eq_true c];refine cH.aU 9 h0 func111 (h:=?_);refine aD (A5 j0 @hid hlt @he @c) ?_;exact gy
 .rw[decide_eq_false c];have f0:(x0==nm)=false:=by simpa using c
  refine cH.aU 9 h0 func111 (h:=?_);refine aD (A6 j0 @hid hlt @he @c @f0) ?_;exact gy
theorem aSc(hE:aH prog E)(h0:E 111=none):aH prog (E.add 111 KM):=
 hE.add xg λfl args σ p σ' h=>by
  unfold KM at h;split at h
  .rename_i n a b c t id;split at h
   .rename_i nm c1 c2 c3 c4 hid;simp only[yAb,yAc]at h;obtain⟨rfl,rfl⟩:=h;exact cH.X9 (aWd hU h0 fl n a b c t nm c1 c2 c3 c4 id σ hid)
   .cases h
  .cases h
theorem aWe(h0:E 143=none)(h1:E 111=some KM)(fl:Nat)(l:List eF)(nm:List UInt8)(c1 c2 c3:Int)(c4:Bool)(id:Nat)(τ:List U)(hid:τ[id]?=some (.box (.agg [.str nm,.int .i64 c1,.int .i64 c2,.int .i64 c3,.bool c4])))(hl:l.length<=1000000)(z:Nat)(tok:Tok)(hz:l=[]\/z=5) :
  cH prog E fl (.inl 143) [.slice z (l.map Em.cF.aA) tok,.func 111 [.ptr id 0]] τ (λp1 σ1=>p1=.int .i64 (kK (iP nm) l 0)/\σ1=τ++(l.take (FN (iP nm) l)).map DG):=by
 obtain⟨B,hB⟩:=gn (kK (iP nm) l 0);obtain⟨V,hV⟩:=gn (FN (iP nm) l);rw[hB,hV];refine cH.aU 19 h0 func143 (h:=?_);refine aD trivial ?_;refine Wp.eV (λm fr σ=>∃(i:Nat),∃gg:Nat->PD,(i+m=l.length/\kK (iP nm) (l.drop i) i=B/\FN (iP nm) (l.drop i)+i=V)/\fr=[.slice z (l.map Em.cF.aA) tok,.func 111 [.ptr id 0],gg 2,gg 3,gg 4,gg 5,.slice z (l.map Em.cF.aA) tok,.int .i64 l.length,.int .i64 i,gg 9,gg 10,gg 11,gg 12,gg 13,gg 14,gg 15,gg 16,gg 17,gg 18]/\σ=τ++(l.take i).map DG) ?_ (l.length) (by refine⟨0,?_⟩;exact cG (⟨xb,hB,hV⟩))
 rintro m fr σ ⟨i,gg,hI,rfl,rfl⟩
 obtain⟨hm,hs,hv⟩:=hI
 by_cases hi:i<l.length
 .have q1:(i:Int)<(l.length:Int):=by omega
  have hz1:z=5:=hz.resolve_left (λh=>by rw[h]at hi;simp at hi);subst hz1;obtain⟨a,ha⟩:=gn (l[i]);have hc:l.drop i=a::l.drop (i+1):=yg;have htk:l.take (i+1)=l.take i++[a]:=by rw[yBV hi,ha]
  obtain⟨hlt,_⟩:=yA.1 hid;obtain⟨ρ,hρ⟩:=gn (τ++(l.take i).map DG);have aBx:ρ[id]?=some (.box (.agg [.str nm,.int .i64 c1,.int .i64 c2,.int .i64 c3,.bool c4])):=by rw[<-hρ,yAg hlt];exact hid
  have hst:τ++(l.take (i+1)).map DG=ρ++[DG a]:=by rw[htk,yAH,<-yAi,hρ];rfl
  rw[hc]at hs hv;unfold kK at hs;unfold FN at hv;obtain⟨a0,a1,a2,a3,a4⟩:=a;have hE:KM fl [.agg [.str a0,.int .i64 a1,.int .i64 a2,.int .i64 a3,.bool a4],.ptr id 0] ρ=some (.bool (decide (a0=nm)),ρ++[.box (.agg [.str a0,.int .i64 a1,.int .i64 a2,.int .i64 a3,.bool a4])]):=by
   unfold KM;simp only[aBx]
  have aLk:τ++(l.take (i+1)).map DG=ρ++[.box (.agg [.str a0,.int .i64 a1,.int .i64 a2,.int .i64 a3,.bool a4])]:=hst;have aHz:τ++List.take (i+1) (l.map DG)=ρ++[.box (.agg [.str a0,.int .i64 a1,.int .i64 a2,.int .i64 a3,.bool a4])]:=by rw[<-yD];exact aLk
  rw[hρ]
  by_cases hb:a0=nm
  .rw[yAJ (by simp[iP,hb])]at hs hv;have gJ:B=(i:Int):=hs.symm;have YA:V=i+1:=xb;rw[decide_eq_true hb]at hE;rw[gJ,YA,aLk];clear hs gJ;refine aD (A3 q1 hi ha) ?_
   first|refine Wp.seq ?_|skip
   apply Wp.dE;refine jJ (A4 h1 hE hi ha) ?_;apply SQ.nil;refine aD q1 ?_;exact gy
  .rw[yAI (by simp[iP,hb])]at hs hv;rw[decide_eq_false hb]at hE;refine aD (A3 q1 hi ha) ?_
   first|refine Wp.seq ?_|skip
   apply Wp.dE;refine jJ (A4 h1 hE hi ha) ?_;apply SQ.nil;refine aD q1 ?_;refine aM.normal (m-1) xb (by refine⟨i+1,?_⟩;exact jV (⟨xb,hs,xb⟩) @aHz)
 .have q1:¬(i:Int)<(l.length:Int):=by omega
  obtain rfl:i=l.length:=xb;rw[yCh]at hs hv;have gJ:B=-1:=hs.symm;have YA:V=l.length:=by simpa [FN]using hv.symm
  rw[gJ,YA];refine aD q1 ?_;exact gy
omit hU in
def M3:List PD->Option (List eF)
 | []=>some []
 |.agg [.str n,.int .i64 a,.int .i64 b,.int .i64 c,.bool t]::r=>match M3 r with|some l=>some (⟨n,a,b,c,t⟩::l)|none=>none
 |_=>none
omit hU in
theorem aFy:∀ {xs:Bw} {l:List eF},M3 xs=some l->xs=l.map Em.cF.aA
 | [],l,h=>by simp only[M3,yAb]at h;subst h;rfl
 |x::r,l,h=>by
  unfold M3 at h;split at h
  .cases ‹_::_=_›
  .rename_i n a b c t r' e;simp only[yBs]at e;obtain⟨rfl,rfl⟩:=e;split at h
   .rename_i l' hl;simp only[yAb]at h;subst h;rw[aFy hl];rfl
   .cases h
  .cases h
omit hU in
@[simp] theorem aLl:∀l:List eF,M3 (l.map Em.cF.aA)=some l
  | []=>rfl
  |x::l=>by
   show M3 (.agg [.str x.name,.int .i64 x.lT,.int .i64 x.dst,.int .i64 x.shift,.bool x.ME]::l.map Em.cF.aA)=_
   simp only[M3,aLl l]
omit hU in
def vV(f:List UInt8->List eF->PD):Nat->List PD->List U->Option (PD×List U):=λ_ args σ=>match args with
 | [.slice z xs _,.func g [.ptr id 0]]=>match M3 xs with
   |some l=>if g=111/\(l.length=0\/z=5)/\l.length<=1000000 then match σ[id]? with
     |some (.box (.agg [.str nm,.int .i64 _,.int .i64 _,.int .i64 _,.bool _]))=>some (f nm l,σ++(l.take (FN (iP nm) l)).map DG)
     |_=>none
    else none
   |none=>none
 |_=>none
omit hU in
theorem aLj{f:List UInt8->List eF->PD}{z:Nat}{l:List eF}{tok:Tok}{id:Nat}{σ:Bv}{nm:Bx}{c1 c2 c3:Int}{c4:Bool}(hz:l=[]\/z=5)(hl:l.length<=1000000)(hid:σ[id]?=some (.box (.agg [.str nm,.int .i64 c1,.int .i64 c2,.int .i64 c3,.bool c4])))(fl:Nat) :
  vV f fl [.slice z (l.map Em.cF.aA) tok,.func 111 [.ptr id 0]] σ=some (f nm l,σ++(l.take (FN (iP nm) l)).map DG):=by
 unfold vV;simp only[aLl];rw[yAJ ⟨trivial,hz.imp (λh=>ya) (λh=>h),hl⟩];simp only[hid]
theorem aSe(hE:aH prog E)(h0:E 143=none)(h1:E 111=some KM):aH prog (E.add 143 (vV λnm l=>.int .i64 (kK (iP nm) l 0))):=
 hE.add xg λfl args σ p σ' h=>by
  unfold vV at h;split at h
  .rename_i z xs tok g id;split at h
   .rename_i l hl;split at h
    .rename_i hc;obtain⟨rfl,hz,hlen⟩:=hc;split at h
     .rename_i nm c1 c2 c3 c4 hid;simp only[yAb,yAc]at h;obtain⟨rfl,rfl⟩:=h;rw[aFy hl];exact cH.X9 (aWe hU h0 h1 fl l nm c1 c2 c3 c4 id σ hid hlen z tok (hz.imp yAf λh=>h))
     .cases h
    .cases h
   .cases h
  .cases h
theorem aWf(h0:E 110=none)(h1:E 143=some (vV λnm l=>.int .i64 (kK (iP nm) l 0)))(fl:Nat)(l:List eF)(nm:List UInt8)(c1 c2 c3:Int)(c4:Bool)(id:Nat)(τ:List U)(hid:τ[id]?=some (.box (.agg [.str nm,.int .i64 c1,.int .i64 c2,.int .i64 c3,.bool c4])))(hl:l.length<=1000000)(z:Nat)(tok:Tok)(hz:l=[]\/z=5) :
  cH prog E fl (.inl 110) [.slice z (l.map Em.cF.aA) tok,.func 111 [.ptr id 0]] τ (λp1 σ1=>p1=.bool (l.any (iP nm))/\σ1=τ++(l.take (FN (iP nm) l)).map DG):=by
 have hE:=aLj (f:=λnm l=>.int .i64 (kK (iP nm) l 0)) hz hl hid (tok:=tok);obtain⟨ρ,hρ⟩:=gn (τ++(l.take (FN (iP nm) l)).map DG);rw[hρ]at hE;rw[hρ,<-aBC _ l 0];refine cH.aU 9 h0 func110 (h:=?_);refine aD (A2 h1 hE) ?_;exact gy
theorem aSg(hE:aH prog E)(h0:E 110=none)(h1:E 143=some (vV λnm l=>.int .i64 (kK (iP nm) l 0))):aH prog (E.add 110 (vV λnm l=>.bool (l.any (iP nm)))):=
 hE.add xg λfl args σ p σ' h=>by
  unfold vV at h;split at h
  .rename_i z xs tok g id;split at h
   .rename_i l hl;split at h
    .rename_i hc;obtain⟨rfl,hz,hlen⟩:=hc;split at h
     .rename_i nm c1 c2 c3 c4 hid;simp only[yAb,yAc]at h;obtain⟨rfl,rfl⟩:=h;rw[aFy hl];exact cH.X9 (aWf hU h0 h1 fl l nm c1 c2 c3 c4 id σ hid hlen z tok (hz.imp yAf λh=>h))
     .cases h
    .cases h
   .cases h
  .cases h
end
section
abbrev PK:Em (List (Int×Int)):=Em.cB.list 2
def FM(k:Nat):List eF->List eF->Int
 |_,[]=>0
 |pre,c::r=>if dR c.name=false then 8 else if pre.any (iP c.name)=true then 9 else if c.lT<0\/(k:Int)<=c.lT\/c.dst<0\/(k:Int)<=c.dst then 10 else if c.shift < -127\/127<c.shift then 3 else if c.lT=c.dst/\c.shift=0 then 7 else FM k (pre++[c]) r
def PJ(l:List (Int×Int)):Bool:=l.any λx=>!decide (lG x.1 x.2=0)
def M0(ks:List (Int×Int))(l:List eF):Int:=if 8<ks.length\/40<l.length then 4 else if PJ ks=true then 23 else FM ks.length [] l
variable{E:aE}(hU:aF E)
include hU
theorem aSi(h0:E 53=none)(h1:E 108=some R8)(h2:E 49=some OQ)(h3:E 110=some (vV λnm l=>.bool (l.any (iP nm))))(ks:List (Int×Int))(l:List eF)(hks:ks.length<=1000000)(hl:l.length<=1000000)(hn:∀x∈l,jD x.name) :
  aI prog E 53 [PK.aA ks,HZ.aA l] (i64.aA (M0 ks l)):=by
 unfold M0
 by_cases c1:8<ks.length
 .have c2:8<(ks.length:Int):=by omega
  rw[yAJ (.inl c1)];refine aI.aU 89 h0 func53 (h:=?_);refine aD (A2 c1 c2) ?_;exact aa
 have dQ:¬8<(ks.length:Int):=xb
 by_cases c2:40<l.length
 .have c3:40<(l.length:Int):=by omega
  rw[yAJ (.inr c2)];refine aI.aU 89 h0 func53 (h:=?_);refine aD (A4 c1 dQ c2 c3) ?_;exact aa
 have jB:¬40<(l.length:Int):=xb;rw[yAI (λh=>h.elim c1 c2)];obtain⟨B,hB⟩:∃B,(if PJ ks=true then(23:Int)else FM ks.length [] l)=B:=⟨_,rfl⟩;rw[hB];refine aI.aU 89 h0 func53 (h:=?_);refine aD (A4 c1 dQ c2 jB) ?_;obtain⟨C,hC⟩:=gn (FM ks.length [] l);rw[hC]at hB;refine Wp.eV (λm fr σ=>∃(i:Nat) (σ1:List U),∃gg:Nat->PD,(i+m=ks.length/\(if PJ (ks.drop i)=true then(23:Int)else C)=B)/\fr=PK.aA ks::HZ.aA l::gg 2::gg 3::gg 4::gg 5::gg 6::gg 7::gg 8::gg 9::gg 10::gg 11::gg 12::gg 13::gg 14::gg 15::gg 16::PK.aA ks::.int .i64 ks.length::.int .i64 i::gg 20::gg 21::gg 22::gg 23::gg 24::gg 25::gg 26::gg 27::gg 28::gg 29::gg 30::gg 31::gg 32::gg 33::gg 34::gg 35::gg 36::gg 37::gg 38::gg 39::gg 40::gg 41::gg 42::gg 43::gg 44::gg 45::gg 46::gg 47::gg 48::gg 49::gg 50::gg 51::gg 52::gg 53::gg 54::gg 55::gg 56::gg 57::gg 58::gg 59::gg 60::gg 61::gg 62::gg 63::gg 64::gg 65::gg 66::gg 67::gg 68::gg 69::gg 70::gg 71::gg 72::gg 73::gg 74::gg 75::gg 76::gg 77::gg 78::gg 79::gg 80::gg 81::gg 82::gg 83::gg 84::gg 85::gg 86::gg 87::gg 88::[]/\σ=σ1) ?_ (ks.length) (by refine⟨0,[],?_⟩;exact cG (⟨xb,hB⟩))
 rintro m fr σ ⟨i,σ1,gg,hI,rfl,rfl⟩
 obtain⟨hm,hs⟩:=hI
 by_cases hi:i<ks.length
 .have q1:(i:Int)<(ks.length:Int):=by omega
  obtain⟨a,ha⟩:=gn (ks[i]);have hc:ks.drop i=a::ks.drop (i+1):=yg;rw[hc]at hs;obtain⟨a0,a1⟩:=a;have hE:=aFv a0 a1;have j0:∀x:U,(σ++[x])[σ.length]?=some x:=λx=>wz
  have hcb:PJ ((a0,a1)::ks.drop (i+1))=(!decide (lG a0 a1=0)||PJ (ks.drop (i+1))):=rfl;rw[hcb]at hs;obtain⟨e,he⟩:=gn (lG a0 a1);rw[he]at hE hs
  by_cases c3:e=0
  .subst c3;simp only[decide_true,yBw,yBX]at hs;refine aD (A6 q1 hi ha j0 h1 hE) ?_;refine aM.normal (m-1) xb (by refine⟨i+1,σ++[.box (.agg [.int .i64 a0,.int .i64 a1])],?_⟩;exact cG (⟨xb,hs⟩))
  .simp only[c3,decide_false,yBR,yCL,yAM]at hs;subst hs;refine aD (A7 q1 hi ha j0 h1 hE c3) ?_;exact aa
 have q1:¬(i:Int)<(ks.length:Int):=xb;rw[yAs xb]at hs;have hs2:C=B:=hs;rw[hs2]at hC;clear hs hs2 hB;refine aD q1 ?_;refine Wp.eV (λm fr σ=>∃(i:Nat) (σ1:List U),∃gg:Nat->PD,(i+m=l.length/\FM ks.length (l.take i) (l.drop i)=B)/\fr=PK.aA ks::HZ.aA l::gg 2::gg 3::gg 4::gg 5::gg 6::gg 7::gg 8::gg 9::gg 10::gg 11::gg 12::gg 13::gg 14::gg 15::gg 16::gg 17::gg 18::gg 19::gg 20::gg 21::gg 22::gg 23::gg 24::gg 25::gg 26::HZ.aA l::.int .i64 l.length::.int .i64 i::gg 30::gg 31::gg 32::gg 33::gg 34::gg 35::gg 36::gg 37::gg 38::gg 39::gg 40::gg 41::gg 42::gg 43::gg 44::gg 45::gg 46::gg 47::gg 48::gg 49::gg 50::gg 51::gg 52::gg 53::gg 54::gg 55::gg 56::gg 57::gg 58::gg 59::gg 60::gg 61::gg 62::gg 63::gg 64::gg 65::gg 66::gg 67::gg 68::gg 69::gg 70::gg 71::gg 72::gg 73::gg 74::gg 75::gg 76::gg 77::gg 78::gg 79::gg 80::gg 81::gg 82::gg 83::gg 84::gg 85::gg 86::gg 87::gg 88::[]/\σ=σ1) ?_ (l.length) (by refine⟨0,σ,?_⟩;exact cG (⟨xb,hC⟩))
 rintro m fr σ ⟨i,σ1,gg,hI,rfl,rfl⟩
 obtain⟨hm,hs⟩:=hI
 by_cases hi:i<l.length
 .have q1:(i:Int)<(l.length:Int):=by omega
  obtain⟨a,ha⟩:=gn (l[i]);have hc:l.drop i=a::l.drop (i+1):=yg;have htk:l.take (i+1)=l.take i++[a]:=by rw[yBV hi,ha]
  have hna:=TF (hn a (ha▸yAm hi));rw[hc]at hs;unfold FM at hs;obtain⟨a0,a1,a2,a3,a4⟩:=a;simp only at hs hna;have j0:∀x:U,(σ++[x])[σ.length]?=some x:=λx=>wz
  have hle:i<=l.length:=xb;cases c3:dR a0 with
  |false=>
   rw[c3]at hna hs;rw[yAJ rfl]at hs;subst hs;refine aD (A6 q1 hi ha j0 h2 hna) ?_;exact aa
  |true=>
  rw[c3]at hna hs;rw[yAI wz]at hs;obtain⟨X,hX⟩:=gn (U.box (.agg [.str a0,.int .i64 a1,.int .i64 a2,.int .i64 a3,.bool a4]));have hid:(σ++[X])[σ.length]?=some (.box (.agg [.str a0,.int .i64 a1,.int .i64 a2,.int .i64 a3,.bool a4])):=by rw[hX];exact j0 X
  have aWc:(l.take i=[]\/sz 5 l=5):=.inr (by simp[sz];intro h;rw[h]at hi;simp at hi);have hE:=aLj (f:=λnm l=>.bool (l.any (iP nm))) (z:=sz 5 l) (tok:=.any) aWc Ar hid;obtain⟨kH,lZ⟩:=gn (σ++[X]++((l.take i).take (FN (iP a0) (l.take i))).map DG);have tT:kH[σ.length]?=some (.box (.agg [.str a0,.int .i64 a1,.int .i64 a2,.int .i64 a3,.bool a4])):=by
   rw[<-lZ,yAg wz,j0 X,hX]
  rw[lZ]at hE;obtain⟨hlt2,hxe⟩:=yA.1 tT;rw[<-hX,yD]at hE;obtain⟨b,hb⟩:=gn ((l.take i).any (iP a0));rw[hb]at hE hs;clear lZ hX hid;cases b with
  |true=>
   rw[yAJ rfl]at hs;subst hs;refine aD (A12 q1 hi ha j0 h2 hna @hle h3 hE tT hlt2 hxe) ?_;exact aa
  |false=>
  rw[yAI wz]at hs
  by_cases c4:a1<0
  .rw[yAJ (.inl c4)]at hs;subst hs;refine aD (A13 q1 hi ha j0 h2 hna @hle h3 hE tT hlt2 hxe c4) ?_;exact aa
  by_cases c5:(ks.length:Int)<=a1
  .rw[yAJ (.inr (.inl c5))]at hs;subst hs;refine aD (A14 q1 hi ha j0 h2 hna @hle h3 hE tT hlt2 hxe c4 c5) ?_;exact aa
  by_cases c6:a2<0
  .rw[yAJ (.inr (.inr (.inl c6)))]at hs;subst hs;refine aD (A15 q1 hi ha j0 h2 hna @hle h3 hE tT hlt2 hxe c4 c5 c6) ?_;exact aa
  by_cases c7:(ks.length:Int)<=a2
  .rw[yAJ (.inr (.inr (.inr c7)))]at hs;subst hs;refine aD (A16 q1 hi ha j0 h2 hna @hle h3 hE tT hlt2 hxe c4 c5 c6 c7) ?_;exact aa
  rw[yAI (λh=>h.elim c4 λh=>h.elim c5 λh=>h.elim c6 c7)]at hs
  by_cases c8:a3 < -127
  .rw[yAJ (.inl c8)]at hs;subst hs;refine aD (A17 q1 hi ha j0 h2 hna @hle h3 hE tT hlt2 hxe c4 c5 c6 c7 c8) ?_;exact aa
  by_cases c9:127<a3
  .rw[yAJ (.inr c9)]at hs;subst hs;refine aD (A18 q1 hi ha j0 h2 hna @hle h3 hE tT hlt2 hxe c4 c5 c6 c7 c8 c9) ?_;exact aa
  rw[yAI (λh=>h.elim c8 c9)]at hs;have hst:FM ks.length (l.take (i+1)) (l.drop (i+1))=FM ks.length (l.take i++[⟨a0,a1,a2,a3,a4⟩]) (l.drop (i+1)):=by rw[htk]
  by_cases wH:a1=a2
  .by_cases IP:a3=0
   .rw[yAJ ⟨wH,IP⟩]at hs;subst hs;subst wH;subst IP;refine aD (A16 q1 hi ha j0 h2 hna @hle h3 hE tT hlt2 hxe c4 c5 c8 c9) ?_;exact aa
   .rw[yAI (λh=>IP h.2)]at hs;subst wH;refine aD (A17 q1 hi ha j0 h2 hna @hle h3 hE tT hlt2 hxe c4 c5 c8 c9 IP) ?_;exact lp
  .rw[yAI (λh=>wH h.1)]at hs;refine aD (A19 q1 hi ha j0 h2 hna @hle h3 hE tT hlt2 hxe c4 c5 c6 c7 c8 c9 wH) ?_;exact lp
 .have q1:¬(i:Int)<(l.length:Int):=by omega
  rw[yAs xb]at hs;have gJ:B=0:=hs.symm;exact uh
end
section
def IN(ns:List (List UInt8)):List (PD×PD):=ns.map λn=>(.str n,.bool true)
def iV(ns:List (List UInt8)):U:=.map (IN ns)
def kL(ns:List (List UInt8))(nm:List UInt8):Bool:=ns.any λn=>nm==n
theorem aLf(nm:List UInt8):∀(ns:List (List UInt8)) (i:Nat),kL ns nm=true->∃j,EV (.str nm) (IN ns) i=some (some (j,.bool true))
 | [],_,h=>xz
 |n::ns,i,h=>by
  cases e:nm==n with
  |true=>exact⟨i,by simp only[IN,yB,EV,OG,e]⟩
  |false=>
   have h2:kL ns nm=true:=by simpa [kL,yDz,e]using h
   obtain⟨j,hj⟩:=aLf nm ns (i+1) h2;exact⟨j,by simp only[IN,yB,EV,OG,e];exact hj⟩
theorem aFw(nm:List UInt8):∀(ns:List (List UInt8)) (i:Nat),kL ns nm=false->EV (.str nm) (IN ns) i=some none
 | [],_,_=>rfl
 |n::ns,i,h=>by
  simp only[kL,yDz,yDA]at h;simp only[IN,yB,EV,OG,h.1];exact aFw nm ns (i+1) h.2
theorem aBA:(prog).underlying 133=some (.map 9 4):=xg
theorem aLg(nm:List UInt8):RN prog 9 (.str nm)=true:=by
 have h:(prog).underlying 9=some .string:=xg;unfold RN;rw[h]
theorem aV8:dS prog 4=some (.bool false):=xe
theorem aLh{σ:Bv}{id:Nat}{ns:List (List UInt8)}(h:σ[id]?=some (iV ns))(nm:List UInt8):RO prog σ 133 (.gG id) (.str nm) false=some (.bool (kL ns nm)):=by
 unfold RO;simp only[aBA,aLg,yAM,h,iV];cases e:kL ns nm with
 |true=>
  obtain⟨j,hj⟩:=aLf nm ns 0 e;simp only[hj];rfl
 |false=>
  simp only[aFw nm ns 0 e,aV8];rfl
theorem aV9{σ:Bv}{id fl:Nat}{ns:List (List UInt8)}(h:σ[id]?=some (iV ns))(hf:fl<=id)(nm:List UInt8)(hn:kL ns nm=false):RP prog fl σ 133 (.gG id) (.str nm) (.bool true)=some (σ.set id (iV (ns++[nm]))):=by
 unfold RP;simp only[aBA,aLg,yAM,h,iV,hf,aFw nm ns 0 hn];simp[IN]
variable{E:aE}(hU:aF E)
include hU
theorem aWa(h0:E 51=none)(fl id:Nat)(ns:List (List UInt8))(nm:List UInt8)(τ:List U)(h:τ[id]?=some (iV ns))(hn:kL ns nm=true) :
  cH prog E fl (.inl 51) [.gG id,.str nm] τ (λp1 σ1=>p1=.int .i64 9/\σ1=τ):=by
 have hl:=aLh h nm;rw[hn]at hl;refine cH.aU 10 h0 func51 (h:=?_);refine kX hl ?_;exact gy
theorem aWb(h0:E 51=none)(fl id:Nat)(ns:List (List UInt8))(nm:List UInt8)(τ:List U)(h:τ[id]?=some (iV ns))(hf:fl<=id)(hn:kL ns nm=false) :
  cH prog E fl (.inl 51) [.gG id,.str nm] τ (λp1 σ1=>p1=.int .i64 0/\σ1=τ.set id (iV (ns++[nm]))):=by
 have hl:=aLh h nm;rw[hn]at hl;have hp:=aV9 h hf nm hn;refine cH.aU 10 h0 func51 (h:=?_);refine kX (A2 hl hp) ?_;exact gy
omit hU in
def M1:List (PD×PD)->Option (List (List UInt8))
 | []=>some []
 |(.str n,.bool true)::r=>match M1 r with|some l=>some (n::l)|none=>none
 |_=>none
omit hU in
theorem aLi:∀ {es:List (PD×PD)} {l:List (List UInt8)},M1 es=some l->es=IN l
 | [],l,h=>by simp only[M1,yAb]at h;subst h;rfl
 |x::r,l,h=>by
  unfold M1 at h;split at h
  .cases ‹_::_=_›
  .rename_i n r' e;simp only[yBs]at e;obtain⟨rfl,rfl⟩:=e;split at h
   .rename_i l' hl;simp only[yAb]at h;subst h;rw[aLi hl];rfl
   .cases h
  .cases h
omit hU in
@[simp] theorem aFx:∀l:List (List UInt8),M1 (IN l)=some l
  | []=>rfl
  |n::l=>by
   show M1 ((.str n,.bool true)::IN l)=_
   simp only[M1,aFx l]
omit hU in
def E6:Nat->List PD->List U->Option (PD×List U):=λfl args σ=>match args with
 | [.gG id,.str nm]=>match σ[id]? with
   |some (.map es)=>match M1 es with
    |some ns=>if kL ns nm=true then some (.int .i64 9,σ)else if fl<=id then some (.int .i64 0,σ.set id (iV (ns++[nm])))else none
    |none=>none
   |_=>none
 |_=>none
omit hU in
theorem aFr{fl id:Nat}{ns:List (List UInt8)}{nm:Bx}{σ:Bv}(h:σ[id]?=some (iV ns))(hn:kL ns nm=true):E6 fl [.gG id,.str nm] σ=some (.int .i64 9,σ):=by
 unfold E6;simp only[h,iV,aFx,hn,yAM]
omit hU in
theorem aFs{fl id:Nat}{ns:List (List UInt8)}{nm:Bx}{σ:Bv}(h:σ[id]?=some (iV ns))(hn:kL ns nm=false)(hf:fl<=id):E6 fl [.gG id,.str nm] σ=some (.int .i64 0,σ.set id (iV (ns++[nm]))):=by
 unfold E6;simp only[h,iV,aFx,hn,hf,yAM];rfl
theorem aSk(hE:aH prog E)(h0:E 51=none):aH prog (E.add 51 E6):=
 hE.add xg λfl args σ p σ' h=>by
  unfold E6 at h;split at h
  .rename_i id nm;split at h
   .rename_i es hes;split at h
    .rename_i ns hns;have hm:σ[id]?=some (iV ns):=by rw[hes,aLi hns];rfl
     split at h
     .rename_i hs;simp only[yAb,yAc]at h;obtain⟨rfl,rfl⟩:=h;exact cH.X9 (aWa hU h0 fl id ns nm σ hm hs)
     .rename_i hs;split at h
      .rename_i hf;simp only[yAb,yAc]at h;obtain⟨rfl,rfl⟩:=h;exact cH.X9 (aWb hU h0 fl id ns nm σ hm hf (by simpa using hs))
      .cases h
    .cases h
   .cases h
  .cases h
end
section
def MZ(rs:List bA)(lo hg:Int):List (List UInt8)->List dL->Int
 |_,[]=>0
 |ns,s::r=>if DE rs lo hg s≠0 then DE rs lo hg s else if kL ns s.name=true then 9 else MZ rs lo hg (ns++[s.name]) r
def DF(rs:List bA)(d:b9):Int:=if lG d.low d.high≠0 then lG d.low d.high else if 60<d.stops.length then 4 else MZ rs d.low d.high [] d.stops
def XX(s:dL):Prop:=okS s/\jD s.name
def gSt:Nat->List PD->List U->Option (PD×List U):=entry (cV Em.place Em.stop i64 λx s=>bJ (K5 x.1/\XX s) (some (DE x.1 x.2.1 x.2.2 s)))
theorem aV7{rs:List bA}{s:dL}(h:K5 rs)(hs:XX s)(lo hg:Int)(fl:Nat)(σ:List U):gSt fl [.agg [bM.aA rs,.int .i64 lo,.int .i64 hg],Em.stop.aA s] σ=some (.int .i64 (DE rs lo hg s),σ):=by
 have e1:=Em.cR (Em.place.str (rs,lo,hg));rw[aFu]at e1;have e2:=Em.cR (Em.stop.str s);unfold gSt entry cV;simp only[e1,e2];rw[dN ⟨h,hs⟩];rfl
variable{E:aE}(hU:aF E)
include hU
theorem aSm(h0:E 52=none)(h1:E 108=some R8)(h2:E 109=some gSt)(h3:E 51=some E6)(o:eG)(hrs:K5 o.bM)(d:b9)(hd:d.stops.length<=1000000/\∀s∈d.stops,XX s) :
  aI prog E 52 [Em.fC.aA o,Em.div.aA d] (i64.aA (DF o.bM d)):=by
 obtain⟨on,rs,od,oc⟩:=o;obtain⟨dn,dp,lo,hg,l⟩:=d;have hC:=aFv lo hg;obtain⟨hdl,hds⟩:=hd;simp only at hrs hdl hds;unfold DF;simp only[E5,aAN,gA];obtain⟨c,hc⟩:=gn (lG lo hg);rw[hc]at hC ⊢
 by_cases c1:c=0
 rotate_left
 .rw[yAJ c1];refine aI.aU 47 h0 func52 (h:=?_);refine kX (A3 h1 hC c1) ?_;exact aa
 subst c1;simp only[ne_eq,yBt,yAN]
 by_cases c2:60<l.length
 .have c3:60<(l.length:Int):=by omega
  rw[yAJ c2];refine aI.aU 47 h0 func52 (h:=?_);refine kX (A4 h1 hC c2 c3) ?_;exact aa
 have c3:¬60<(l.length:Int):=xb;rw[yAI c2];obtain⟨B,hB⟩:=gn (MZ rs lo hg [] l);rw[hB];have us:=aBA;refine aI.aU 47 h0 func52 (h:=?_);refine kX (A5 h1 hC c2 c3 @us) ?_;obtain⟨X,hX⟩:=gn (U.box (.agg [.str on,.slice (sz 6 rs) (rs.map Em.bO.aA) .any,.slice (sz 5 od) (od.map Em.div.aA) .any,.slice (sz 5 oc) (oc.map Em.cF.aA) .any]));obtain⟨Y,hY⟩:=gn (U.box (.agg [.str dn,.bool dp,.int .i64 lo,.int .i64 hg,.slice (sz 4 l) (l.map Em.stop.aA) .any]));refine Wp.eV (λm fr σ=>∃(i:Nat) (σ1:List U),∃gg:Nat->PD,(i+m=l.length/\σ1[0]?=some X/\σ1[1]?=some Y/\σ1[2]?=some (iV ((l.take i).map dL.name))/\MZ rs lo hg ((l.take i).map dL.name) (l.drop i)=B)/\fr=[gg 0,gg 1,.ptr 0 0,.ptr 1 0,gg 4,gg 5,.gG 2,gg 7,gg 8,gg 9,gg 10,gg 11,gg 12,gg 13,gg 14,gg 15,gg 16,gg 17,gg 18,gg 19,gg 20,gg 21,gg 22,aAM.aA l,.int .i64 l.length,.int .i64 i,gg 26,gg 27,gg 28,gg 29,gg 30,gg 31,gg 32,gg 33,gg 34,gg 35,gg 36,gg 37,gg 38,gg 39,gg 40,gg 41,gg 42,gg 43,gg 44,gg 45,gg 46]/\σ=σ1) ?_ (l.length) (by refine⟨0,[X,Y,.map []],?_⟩;exact jV (⟨xb,rfl,rfl,rfl,hB⟩) (A2 hX hY))
 rintro m fr σ ⟨i,σ1,gg,hI,rfl,rfl⟩
 obtain⟨hm,hx0,hy0,hz0,hs⟩:=hI
 by_cases hi:i<l.length
 .have q1:(i:Int)<(l.length:Int):=by omega
  obtain⟨a,ha⟩:=gn (l[i]);have X8:l.drop i=a::l.drop (i+1):=yg;have htk:(l.take (i+1)).map dL.name=(l.take i).map dL.name++[a.name]:=by rw[yBV hi,ha,yAH];rfl
  have hE:=aV7 hrs (hds a (ha▸yAm hi)) lo hg;rw[X8]at hs;unfold MZ at hs;have hx1:=hx0;have hy1:=hy0;rw[<-hX]at hx1;rw[<-hY]at hy1;obtain⟨eZ,hxe⟩:=yA.1 hx1;obtain⟨jY,hye⟩:=yA.1 hy1;obtain⟨hlt2,hze⟩:=yA.1 hz0;obtain⟨a0,a1,a2,a3⟩:=a;have j0:∀x:U,(σ++[x])[σ.length]?=some x:=λx=>wz
  obtain⟨e,he⟩:=gn (DE rs lo hg ⟨a0,a1,a2,a3⟩);rw[he]at hE hs;simp only[RX,gA]at hE;simp only at hs htk
  by_cases c4:e=0
  rotate_left
  .rw[yAJ c4]at hs;subst hs;refine kX (A13 q1 hi ha j0 hx1 hy1 eZ jY hxe hye h2 hE c4) ?_;exact aa
  subst c4;simp only[ne_eq,yBt,yAN]at hs;obtain⟨Z,hZ⟩:=gn (U.box (.agg [.str a0,.int .i64 a1,.int .i64 a2,.slice (sz 3 a3) (a3.map Em.cD.aA) .any]));have hmz:(σ++[Z])[2]?=some (iV ((l.take i).map dL.name)):=by rw[yAg hlt2];exact hz0
  cases hb:kL ((l.take i).map dL.name) a0 with
  |true=>
   rw[hb]at hs;rw[yAJ rfl]at hs;subst hs;have hA:=λfl=>aFr (fl:=fl) hmz hb
   rw[<-hZ]at hA;refine kX vt ?_;exact aa
  |false=>
   rw[hb]at hs;rw[yAI wz]at hs;have hA:=aFs (fl:=0) hmz hb (yAF _);obtain⟨kH,lZ⟩:=gn ((σ++[Z]).set 2 (iV ((l.take i).map dL.name++[a0])));have t0:kH[0]?=some X:=by rw[<-lZ,yAd xb,yAg eZ];exact hx0
   have t1:kH[1]?=some Y:=by rw[<-lZ,yAd xb,yAg jY];exact hy0
   have t2:kH[2]?=some (iV ((l.take i).map dL.name++[a0])):=by rw[<-lZ];exact yAj xw
   rw[lZ]at hA;rw[<-hZ]at hA;clear lZ;refine kX vt ?_;refine aM.normal (m-1) xb (by refine⟨i+1,kH,?_⟩;exact cG (⟨xb,t0,t1,by rw[htk];exact t2,by rw[htk];exact hs⟩))
 .have q1:¬(i:Int)<(l.length:Int):=by omega
  rw[yAs xb]at hs;have gJ:B=0:=hs.symm;refine kX q1 ?_;exact aq
end
section
variable{E:aE}(hU:aF E)
include hU
end
section
variable{E:aE}(hU:aF E)
include hU
end
section
theorem iL.ne{σ:Bv}{tok:Tok}{e:TypeId}{k n id:Nat}{o:U}(h:iL σ tok e k n)(ho:σ[id]?=some o)(hn:pH (some o)):tok≠.own id:=by
 rintro rfl
 rcases h with⟨_,h⟩ | ⟨_,id',h,h2⟩
 .cases h
 .simp only[Tok.own.injEq]at h;subst h;rw[ho,yAb]at h2;subst h2;exact hn
theorem iL.set{σ:Bv}{tok:Tok}{e:TypeId}{k n id:Nat}{o x:U}(h:iL σ tok e k n)(ho:σ[id]?=some o)(hn:pH (some o)):iL (σ.set id x) tok e k n:=
 h.LQ λj o' ej hj=>by
  have:id≠j:=λe=>h.ne ho hn (by rw[ej,e])
  rw[yAd this];exact hj
variable{E:aE}(hU:aF E)
include hU
end
section
def DD:List (List UInt8)->List bA->Int
 |_,[]=>0
 |ns,r::t=>if pR r≠0 then pR r else if kL ns r.name=true then 9 else DD (ns++[r.name]) t
def IM(rs:List bA):List (List UInt8)->List b9->Int
 |_,[]=>0
 |ns,d::t=>if dR d.name=false then 8 else if kL ns d.name=true then 9 else if DF rs d≠0 then DF rs d else IM rs (ns++[d.name]) t
def iU(l:List b9):List (Int×Int):=l.map λd=>(d.low,d.high)
def aBz(o:eG):Int:=if o.dY.length=0 then 13 else if 8<o.dY.length then 4 else if IM o.bM [] o.dY≠0 then IM o.bM [] o.dY else M0 (iU o.dY) o.oU
def gI(o:eG):Int:=if dR o.name=false then 8 else if 60<o.bM.length then 4 else if DD [] o.bM≠0 then DD [] o.bM else aBz o
def O5(d:b9):Prop:=jD d.name/\d.stops.length<=1000000/\∀s∈d.stops,XX s
def FE(o:eG):Prop:=jD o.name/\K5 o.bM/\(o.dY.length<=1000000/\∀d∈o.dY,O5 d)/\o.oU.length<=1000000/\∀x∈o.oU,jD x.name
def gDv:Nat->List PD->List U->Option (PD×List U):=entry (cV Em.fC Em.div i64 λo d=>bJ (K5 o.bM/\O5 d) (some (DF o.bM d)))
theorem aV4{o:eG}{d:b9}(h:K5 o.bM)(hs:O5 d)(fl:Nat)(σ:List U):gDv fl [Em.fC.aA o,Em.div.aA d] σ=some (.int .i64 (DF o.bM d),σ):=by
 have e1:=Em.cR (Em.fC.str o);have e2:=Em.cR (Em.div.str d);unfold gDv entry cV;simp only[e1,e2];rw[dN ⟨h,hs⟩];rfl
def gCl:Nat->List PD->List U->Option (PD×List U):=entry (cV PK HZ i64 λks l=>bJ (ks.length<=1000000/\l.length<=1000000/\∀x∈l,jD x.name) (some (M0 ks l)))
theorem aV5{ks:List (Int×Int)}{l:List eF}{p:PD}(h1:ks.length<=1000000)(h2:l.length<=1000000)(h3:∀x∈l,jD x.name)(hp:p.strip=PK.aA ks)(fl:Nat)(σ:List U):gCl fl [p,HZ.aA l] σ=some (.int .i64 (M0 ks l),σ):=by
 have e1:=Em.cR hp;have e2:=Em.cR (HZ.str l);unfold gCl entry cV;simp only[e1,e2];rw[dN ⟨h1,h2,h3⟩];rfl
variable{E:aE}(hU:aF E)
include hU
theorem aSo(h0:E 25=none)(h1:E 49=some OQ)(h2:E 50=some WT)(h3:E 51=some E6)(h4:E 52=some gDv)(h5:E 53=some gCl)(o:eG)(ho:FE o) :
  aI prog E 25 [Em.fC.aA o] (i64.aA (gI o)):=by
 have hO:=λd (hd:O5 d)=>aV4 (o:=o) ho.2.1 hd
 obtain⟨on,rs,od,oc⟩:=o;obtain⟨hon,hrs,⟨hdl,hdd⟩,hcl,hcn⟩:=ho;simp only at hon hrs hdl hdd hcl hcn;have hN:=TF hon;simp only[E5,gA]at hO;unfold gI;simp only[E5,gA];cases c1:dR on with
 |false=>
  rw[c1]at hN;rw[yAJ rfl];refine aI.aU 89 h0 func25 (h:=?_);refine kX (A2 h1 hN) ?_;exact aa
 |true=>
 rw[c1]at hN;rw[yAI wz]
 by_cases c2:60<rs.length
 .have c3:60<(rs.length:Int):=by omega
  rw[yAJ c2];refine aI.aU 89 h0 func25 (h:=?_);refine kX (A4 h1 hN c2 c3) ?_;exact aa
 have c3:¬60<(rs.length:Int):=xb;rw[yAI c2];obtain⟨C,hC⟩:=gn (aBz ⟨on,rs,od,oc⟩);rw[hC];obtain⟨B,hB⟩:=gn ((if DD [] rs≠0 then DD [] rs else C));rw[hB];have us:=aBA;refine aI.aU 89 h0 func25 (h:=?_);refine kX (A5 h1 hN c2 c3 @us) ?_;obtain⟨X,hX⟩:=gn (U.box (.agg [.str on,.slice (sz 6 rs) (rs.map Em.bO.aA) .any,.slice (sz 5 od) (od.map Em.div.aA) .any,.slice (sz 5 oc) (oc.map Em.cF.aA) .any]));refine Wp.eV (λm fr σ=>∃(i:Nat) (σ1:List U),∃gg:Nat->PD,(i+m=rs.length/\σ1[0]?=some X/\σ1[1]?=some (iV ((rs.take i).map bA.name))/\(if DD ((rs.take i).map bA.name) (rs.drop i)≠0 then DD ((rs.take i).map bA.name) (rs.drop i)else C)=B)/\fr=gg 0::.ptr 0 0::gg 2::.gG 1::gg 4::gg 5::gg 6::gg 7::gg 8::gg 9::gg 10::gg 11::gg 12::gg 13::gg 14::gg 15::gg 16::gg 17::gg 18::gg 19::gg 20::gg 21::gg 22::gg 23::gg 24::bM.aA rs::.int .i64 rs.length::.int .i64 i::gg 28::gg 29::gg 30::gg 31::gg 32::gg 33::gg 34::gg 35::gg 36::gg 37::gg 38::gg 39::gg 40::gg 41::gg 42::gg 43::gg 44::gg 45::gg 46::gg 47::gg 48::gg 49::gg 50::gg 51::gg 52::gg 53::gg 54::gg 55::gg 56::gg 57::gg 58::gg 59::gg 60::gg 61::gg 62::gg 63::gg 64::gg 65::gg 66::gg 67::gg 68::gg 69::gg 70::gg 71::gg 72::gg 73::gg 74::gg 75::gg 76::gg 77::gg 78::gg 79::gg 80::gg 81::gg 82::gg 83::gg 84::gg 85::gg 86::gg 87::gg 88::[]/\σ=σ1) ?_ (rs.length) (by refine⟨0,[X,.map []],?_⟩;exact jV (⟨xb,rfl,rfl,hB⟩) @hX)
 rintro m fr σ ⟨i,σ1,gg,hI,rfl,rfl⟩
 obtain⟨hm,hx0,hz0,hs⟩:=hI
 by_cases hi:i<rs.length
 .have q1:(i:Int)<(rs.length:Int):=by omega
  obtain⟨a,ha⟩:=gn (rs[i]);have X8:rs.drop i=a::rs.drop (i+1):=yg;have htk:(rs.take (i+1)).map bA.name=(rs.take i).map bA.name++[a.name]:=by rw[yBV hi,ha,yAH];rfl
  have hE:=aLe (hrs.1 a (ha▸yAm hi));rw[X8]at hs;unfold DD at hs;have eZ:=(yA.1 hx0).1;have hlt2:=(yA.1 hz0).1;have j0:∀x:U,(σ++[x])[σ.length]?=some x:=λx=>wz
  obtain⟨a0,a1,a2,a3,a4,a5⟩:=a;obtain⟨e,he⟩:=gn (pR ⟨a0,a1,a2,a3,a4,a5⟩);rw[he]at hE hs;simp only[WQ,gA]at hE;simp only at hs htk
  by_cases c4:e=0
  rotate_left
  .simp only[ne_eq,c4,yCo,yAM]at hs;subst hs;refine kX (A7 q1 hi ha j0 h2 hE c4) ?_;exact aa
  subst c4;simp only[ne_eq,yBt,yAN]at hs;obtain⟨Z,hZ⟩:=gn (U.box (.agg [.str a0,.str a1,.int .i64 a2,.int .i64 a3,.int .i64 a4,.slice (sz 1 a5) (a5.map i64.aA) .any]));have hmz:(σ++[Z])[1]?=some (iV ((rs.take i).map bA.name)):=by rw[yAg hlt2];exact hz0
  cases hb:kL ((rs.take i).map bA.name) a0 with
  |true=>
   rw[hb]at hs;simp only[yAM,show ¬(9:Int)=0 by omega,yCo]at hs;subst hs;have hA:=λfl=>aFr (fl:=fl) hmz hb
   rw[<-hZ]at hA;refine kX (A8 q1 hi ha j0 h2 hE h3 hA) ?_;exact aa
  |false=>
   rw[hb]at hs;simp only[yAx,yAN]at hs;have hA:=aFs (fl:=0) hmz hb (yAF _);obtain⟨kH,lZ⟩:=gn ((σ++[Z]).set 1 (iV ((rs.take i).map bA.name++[a0])));have t0:kH[0]?=some X:=by rw[<-lZ,yAd xb,yAg eZ];exact hx0
   have t2:kH[1]?=some (iV ((rs.take i).map bA.name++[a0])):=by rw[<-lZ];exact yAj xw
   rw[lZ]at hA;rw[<-hZ]at hA;clear lZ;refine kX (A8 q1 hi ha j0 h2 hE h3 hA) ?_;refine aM.normal (m-1) xb (by refine⟨i+1,kH,?_⟩;exact cG (⟨xb,t0,by rw[htk];exact t2,by rw[htk];exact hs⟩))
 have q1:¬(i:Int)<(rs.length:Int):=xb;rw[yAs xb]at hs;have hs2:C=B:=hs;rw[hs2]at hC;clear hs hs2 hB;have hx1:=hx0;rw[<-hX]at hx1;obtain⟨eZ,hxe⟩:=yA.1 hx1;unfold aBz at hC;simp only at hC
 by_cases c4:od.length=0
 .rw[yAJ c4]at hC;subst hC;have c5:od=[]:=yAf c4;subst c5;refine kX (A4 q1 hx1 eZ hxe) ?_;exact aa
 rw[yAI c4]at hC;have fX:¬od=[]:=λh=>c4 ya
 by_cases c5:8<od.length
 .rw[yAJ c5]at hC;subst hC;have c6:8<(od.length:Int):=xb;refine kX (A8 q1 hx1 eZ hxe c4 fX c5 c6) ?_;exact aa
 rw[yAI c5]at hC;have c6:¬8<(od.length:Int):=xb;refine kX (A9 q1 hx1 eZ hxe c4 fX c5 c6 @us) ?_;obtain⟨M,hM⟩:=gn (σ.length);obtain⟨σa,aBB⟩:=gn (σ++[U.map []]);have g0:σa[0]?=some X:=by rw[<-aBB,yAg eZ];exact hx0
 have gM:σa[M]?=some (iV []):=by rw[<-aBB,<-hM];simp;rfl
 have hM0:0<M:=xb;rw[aBB,hM];clear aBB hM q1;refine Wp.eV (λm fr σ=>∃(j z:Nat) (tok:Tok) (σ1:List U),∃gg:Nat->PD,(j+m=od.length/\σ1[0]?=some X/\σ1[M]?=some (iV ((od.take j).map b9.name))/\(iU (od.take j)=[]\/z=2)/\iL σ1 tok 59 2 j/\(if IM rs ((od.take j).map b9.name) (od.drop j)≠0 then IM rs ((od.take j).map b9.name) (od.drop j)else M0 (iU od) oc)=B)/\fr=gg 0::.ptr 0 0::gg 2::.gG M::gg 4::gg 5::gg 6::gg 7::.slice z ((iU (od.take j)).map Em.cB.aA) tok::gg 9::gg 10::gg 11::gg 12::gg 13::gg 14::gg 15::gg 16::gg 17::gg 18::gg 19::gg 20::gg 21::gg 22::gg 23::gg 24::gg 25::gg 26::gg 27::gg 28::gg 29::gg 30::gg 31::gg 32::gg 33::gg 34::gg 35::gg 36::gg 37::gg 38::gg 39::gg 40::gg 41::gg 42::gg 43::gg 44::gg 45::gg 46::gg 47::gg 48::gg 49::gg 50::gg 51::gg 52::gg 53::gg 54::gg 55::aAO.aA od::.int .i64 od.length::.int .i64 j::gg 59::gg 60::gg 61::gg 62::gg 63::gg 64::gg 65::gg 66::gg 67::gg 68::gg 69::gg 70::gg 71::gg 72::gg 73::gg 74::gg 75::gg 76::gg 77::gg 78::gg 79::gg 80::gg 81::gg 82::gg 83::gg 84::gg 85::gg 86::gg 87::gg 88::[]/\σ=σ1) ?_ (od.length) (by refine⟨0,0,.full,σa,?_⟩;exact vK (⟨xb,g0,gM,.inl rfl,.inl ⟨rfl,rfl⟩,hC⟩) Ab Ab)
 rintro m fr σ ⟨j,z,tok,σ1,gg,hI,rfl,rfl⟩
 obtain⟨hm2,hx2,fU,hzz,hrow,hs2⟩:=hI;have hx3:=hx2;rw[<-hX]at hx3;obtain⟨aFt,hxe3⟩:=yA.1 hx3
 by_cases hj:j<od.length
 .have q1:(j:Int)<(od.length:Int):=by omega
  obtain⟨a,ha⟩:=gn (od[j]);have hda:O5 a:=hdd a (ha▸yAm hj);have X8:od.drop j=a::od.drop (j+1):=by rw[yAq hj,ha]
  have htk:(od.take (j+1)).map b9.name=(od.take j).map b9.name++[a.name]:=by rw[yBV hj,ha,yAH];rfl
  have hkk:iU (od.take (j+1))=iU (od.take j)++[(a.low,a.high)]:=by unfold iU;rw[yBV hj,ha,yAH];rfl
  have hkl:(iU (od.take j)).length=j:=by unfold iU;rw[yAe,yAt];omega
  have hnn:=TF hda.1;have hE:=hO a hda;rw[X8]at hs2;unfold IM at hs2;have aV6:=(yA.1 fU).1;have j0:∀x:U,(σ++[x])[σ.length]?=some x:=λx=>wz
  obtain⟨a0,a1,a2,a3,a4⟩:=a;obtain⟨e,he⟩:=gn (DF rs ⟨a0,a1,a2,a3,a4⟩);simp only[he,aAN,gA]at hE;rw[he]at hs2;simp only at hs2 htk hnn hkk;cases d1:dR a0 with
  |false=>
   rw[d1]at hnn hs2;simp only[yAM,show ¬(8:Int)=0 by omega,ne_eq,yCo]at hs2;subst hs2;refine kX (A6 q1 hj ha j0 h1 hnn) ?_;exact aa
  |true=>
  rw[d1]at hnn hs2;simp only[yDN,yAN]at hs2;obtain⟨Z,hZ⟩:=gn (U.box (.agg [.str a0,.bool a1,.int .i64 a2,.int .i64 a3,.slice (sz 4 a4) (a4.map Em.stop.aA) .any]));have hmz:(σ++[Z])[M]?=some (iV ((od.take j).map b9.name)):=by rw[yAg aV6];exact fU
  cases hb:kL ((od.take j).map b9.name) a0 with
  |true=>
   rw[hb]at hs2;simp only[yAM,show ¬(9:Int)=0 by omega,ne_eq,yCo]at hs2;subst hs2;have hA:=λfl=>aFr (fl:=fl) hmz hb
   rw[<-hZ]at hA;refine kX (A8 q1 hj ha j0 h1 hnn h3 hA) ?_;exact aa
  |false=>
  rw[hb]at hs2;simp only[yAx,yAN]at hs2;have hA:=aFs (fl:=0) hmz hb (yAF _);obtain⟨kH,lZ⟩:=gn ((σ++[Z]).set M (iV ((od.take j).map b9.name++[a0])));have t0:kH[0]?=some X:=by rw[<-lZ,yAd xb,yAg aFt];exact hx2
  have t2:kH[M]?=some (iV ((od.take j).map b9.name++[a0])):=by rw[<-lZ];exact yAj xw
  have tz:kH[σ.length]?=some Z:=by rw[<-lZ,yAd xb];exact j0 Z
  have tr:iL kH tok 59 2 j:=by rw[<-lZ];exact hrow.more.set hmz trivial
  rw[lZ]at hA;rw[<-hZ]at hA tz;have t0':=t0;rw[<-hX]at t0';obtain⟨l0,te0⟩:=yA.1 t0';obtain⟨l1,te1⟩:=yA.1 tz;clear lZ
  by_cases d2:e=0
  rotate_left
  .simp only[ne_eq,d2,yCo,yAM]at hs2;subst hs2;refine kX (A17 q1 hj ha j0 h1 hnn h3 hA t0' l0 te0 tz l1 te1 h4 hE @d2) ?_;exact aa
  subst d2;simp only[ne_eq,yBt,yAN]at hs2;obtain⟨A,hAA⟩:=gn ((iU (od.take j)).map Em.cB.aA);have hAl:A.length=j:=by rw[<-hAA,yAe,hkl]
  obtain⟨bY,fI,hap,hr',hkeep,hnew⟩:=JZ (P:=prog) (t:=132) (e:=59) (k:=2) (b:=16) (s:=z) (xs:=A) (p:=.agg [.int .i64 a2,.int .i64 a3]) (tk:=.any) (tok:=tok) (σ:=kH)
   underlying132 xg (hzz.imp (λh=>by rw[<-hAA,h];rfl) id) (by rw[hAl];exact tr) xb xb
  have nX:pH (some X):=by rw[<-hX];trivial
  have w0:=hkeep 0 _ (tr.ne t0 nX) t0;have w2:=hkeep M _ (tr.ne t2 trivial) t2;rw[hAl]at hr';refine kX (A18 q1 hj ha j0 h1 hnn h3 hA t0' l0 te0 tz l1 te1 h4 hE hAA hap) ?_;have hK:(iU (od.take (j+1))).map Em.cB.aA=A++[.agg [.int .i64 a2,.int .i64 a3]]:=by rw[hkk,yAH,hAA];rfl
  refine aM.normal (m-1) xb (by refine⟨j+1,2,bY,fI,?_⟩;exact jV (⟨xb,w0,by rw[htk];exact w2,.inr rfl,hr',by rw[htk];exact hs2⟩) @hK)
 .have q1:¬(j:Int)<(od.length:Int):=by omega
  obtain rfl:j=od.length:=xb;rw[yCh]at hs2;have hs3:M0 (iU od) oc=B:=hs2;rw[yBz]at hzz ⊢;have hkn:iU od≠[]:=λh=>fX (by simpa [iU]using h)
  have hz1:z=2:=hzz.resolve_left hkn;subst hz1;have hst:(PD.slice 2 ((iU od).map Em.cB.aA) tok).strip=PK.aA (iU od):=by
   rw[PD.nQ,show((iU od).map Em.cB.aA).map PD.strip=(iU od).map Em.cB.aA by rw[yBo];exact yAG λx _=>Em.cB.str x];rw[gA];simp[sz,hkn]
  have hE:=aV5 (ks:=iU od) (l:=oc) (by unfold iU;rw[yAe];exact hdl) hcl hcn hst;rw[hs3]at hE;simp only[gA]at hE;refine kX (A6 q1 hx3 aFt hxe3 h5 hE) ?_;exact aa
end
end Go.Kz
end
