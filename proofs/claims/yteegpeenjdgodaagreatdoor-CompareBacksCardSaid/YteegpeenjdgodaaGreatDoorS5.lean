/- Steps of the proof. -/
import Derived.Test.YteegpeenjdgodaaGreatDoorS3
import Derived.Test.YteegpeenjdgodaaGreatDoorS8
set_option linter.all false
set_option maxHeartbeats 40000000
set_option maxRecDepth 100000
open Go.Proofs.Tryz
noncomputable section
namespace Go.Kz
open Go Go.Proofs
abbrev i64:Em Int:=Em.int .i64
abbrev gJ:Em (List Int):=i64.list 1
structure bP where
 name:Jl
 j9:Jl
 num:Int
 den:Int
 first:Int
 mC:List Int
 deriving DecidableEq
structure dQ where
 aN:Int
 shift:Int
 deriving DecidableEq
structure jE where
 lo:Int
 hi:Int
 aR:List dQ
 deriving DecidableEq
structure cO where
 name:Jl
 num:Int
 den:Int
 aO:List jE
 deriving DecidableEq
structure bO where
 name:Jl
 dV:Bool
 low:Int
 high:Int
 stops:List cO
 deriving DecidableEq
structure cJ where
 name:Jl
 dJ:Int
 dst:Int
 shift:Int
 qM:Bool
 deriving DecidableEq
structure aY where
 name:Jl
 aQ:List bP
 aD:List bO
 aL:List cJ
 deriving DecidableEq
def cF.aN:cF bP:=((cF.one .text).pair ((cF.one .text).pair ((cF.one i64).pair ((cF.one i64).pair ((cF.one i64).pair (.one gJ)))))).nH (λr=>(r.name,r.j9,r.num,r.den,r.first,r.mC)) (λx y h=>Cl)
def Em.aN:Em bP:=.agg .aN
@[simp] theorem oA{r:bP}:Em.aN.aB r=.agg [.str r.name,.str r.j9,.int .i64 r.num,.int .i64 r.den,.int .i64 r.first,gJ.aB r.mC]:=rfl
abbrev aQ:Em (List bP):=Em.aN.list 6
def cF.draw:cF dQ:=((cF.one i64).pair (.one i64)).nH (λr=>(r.aN,r.shift)) (λx y h=>Cl)
def Em.draw:Em dQ:=.agg .draw
@[simp] theorem EU{r:dQ}:Em.draw.aB r=.agg [.int .i64 r.aN,.int .i64 r.shift]:=rfl
abbrev gK:Em (List dQ):=Em.draw.list 2
def cF.fB:cF jE:=((cF.one i64).pair ((cF.one i64).pair (.one gK))).nH (λr=>(r.lo,r.hi,r.aR)) (λx y h=>Cl)
def Em.fB:Em jE:=.agg .fB
@[simp] theorem JX{r:jE}:Em.fB.aB r=.agg [.int .i64 r.lo,.int .i64 r.hi,gK.aB r.aR]:=rfl
abbrev oP:Em (List jE):=Em.fB.list 3
def cF.stop:cF cO:=((cF.one .text).pair ((cF.one i64).pair ((cF.one i64).pair (.one oP)))).nH (λr=>(r.name,r.num,r.den,r.aO)) (λx y h=>Cl)
def Em.stop:Em cO:=.agg .stop
@[simp] theorem pZ{r:cO}:Em.stop.aB r=.agg [.str r.name,.int .i64 r.num,.int .i64 r.den,oP.aB r.aO]:=rfl
abbrev oB:Em (List cO):=Em.stop.list 4
def cF.div:cF bO:=((cF.one .text).pair ((cF.one .bool).pair ((cF.one i64).pair ((cF.one i64).pair (.one oB))))).nH (λr=>(r.name,r.dV,r.low,r.high,r.stops)) (λx y h=>Cl)
def Em.div:Em bO:=.agg .div
@[simp] theorem nJ{r:bO}:Em.div.aB r=.agg [.str r.name,.bool r.dV,.int .i64 r.low,.int .i64 r.high,oB.aB r.stops]:=rfl
abbrev tD:Em (List bO):=Em.div.list 5
def cF.bF:cF cJ:=((cF.one .text).pair ((cF.one i64).pair ((cF.one i64).pair ((cF.one i64).pair (.one .bool))))).nH (λr=>(r.name,r.dJ,r.dst,r.shift,r.qM)) (λx y h=>Cl)
def Em.bF:Em cJ:=.agg .bF
@[simp] theorem CR{r:cJ}:Em.bF.aB r=.agg [.str r.name,.int .i64 r.dJ,.int .i64 r.dst,.int .i64 r.shift,.bool r.qM]:=rfl
abbrev qN:Em (List cJ):=Em.bF.list 5
def cF.bY:cF aY:=((cF.one .text).pair ((cF.one aQ).pair ((cF.one tD).pair (.one qN)))).nH (λr=>(r.name,r.aQ,r.aD,r.aL)) (λx y h=>Cl)
def Em.bY:Em aY:=.agg .bY
@[simp] theorem fE{r:aY}:Em.bY.aB r=.agg [.str r.name,aQ.aB r.aQ,tD.aB r.aD,qN.aB r.aL]:=rfl
def JY(l:List Int):Prop:=l.length<=1000000
def yZ(l:List dQ):Prop:=l.length<=1000000
def N0(l:List cJ):Prop:=l.length<=1000000
def gU(r:bP):Prop:=JY r.mC
def N1(l:List bP):Prop:=l.length<=1000000/\∀r∈l,gU r
def wH(g:jE):Prop:=yZ g.aR
def N2(l:List jE):Prop:=l.length<=1000000/\∀r∈l,wH r
def jT(s:cO):Prop:=N2 s.aO
def N3(l:List cO):Prop:=l.length<=1000000/\∀r∈l,jT r
def gV(d:bO):Prop:=N3 d.stops
def N4(l:List bO):Prop:=l.length<=1000000/\∀r∈l,gV r
def fX(o:aY):Prop:=N1 o.aQ/\N4 o.aD/\N0 o.aL
def fP{α:Type}[DecidableEq α](a:Em α)(R:α->Prop):Nat->List PD->List aA->Option (PD×List aA):=entry (fF a a .bool λx y=>eL (R x/\R y) (some (decide (x=y))))
theorem p6{α:Type}[DecidableEq α]{a:Em α}{R:α->Prop}{p q:PD}{x y:α}(hx:R x)(hy:R y)(hp:p.strip=a.aB x)(hq:q.strip=a.aB y)(fl:Nat)(σ:List aA):fP a R fl [p,q] σ=some (.bool (decide (x=y)),σ):=by
 have e1:=Em.dC hp;have e2:=Em.dC hq;unfold fP entry fF;simp only[e1,e2];rw[fY ⟨hx,hy⟩];rfl
theorem oC{α:Type}[DecidableEq α]{a:Em α}{R:α->Prop}{x y:α}(hx:R x)(hy:R y)(fl:Nat)(σ:List aA):fP a R fl [a.aB x,a.aB y] σ=some (.bool (decide (x=y)),σ):=p6 hx hy (a.str x) (a.str y) fl σ
def TC{α:Type}[DecidableEq α](a:Em α)(R:α->Prop)(f:FuncId):List PD->Option PD:=λargs=>match args with
 | [p,q,.func g []]=>if g=f then fF a a .bool (λx y=>eL (R x/\R y) (some (decide (x=y)))) [p,q]else none
 |_=>none
def xL{α:Type}[DecidableEq α](a:Em α)(R:α->Prop)(f:FuncId):Nat->List PD->List aA->Option (PD×List aA):=entry (TC a R f)
@[simp] theorem uS{α:Type}[DecidableEq α]{a:Em α}{R:α->Prop}{f:FuncId}{fl:Nat}{p q:PD}{σ:Jj}:xL a R f fl [p,q,.func f []] σ=fP a R fl [p,q] σ:=by
  unfold xL fP entry TC;simp only[yAK]
theorem aF.uT{P:Program}{E:aE}(hE:aF P E)(hP:P.follows .mixedOrders=true){α:Type}[DecidableEq α]{a:Em α}{R:α->Prop}{f:FuncId}(h:∀x y,R x->R y->aI P E f [a.aB x,a.aB y] (Em.bool.aB (decide (x=y)))):aF P (E.add f (fP a R)):=
 hE.tE hP λx y z hz=>by
  obtain⟨⟨hx,hy⟩,e⟩:=gE hz;cases e;exact h x y hx hy
theorem aF.N5{P:Program}{E:aE}(hE:aF P E)(hP:P.follows .mixedOrders=true){α:Type}[DecidableEq α]{a:Em α}{R:α->Prop}{f g:FuncId}(h:∀x y,R x->R y->aI P E f [a.aB x,a.aB y,.func g []] (Em.bool.aB (decide (x=y)))):aF P (E.add f (xL a R g)):=by
 refine hE.AQ hP λargs p hg=>?_
 unfold TC at hg;split at hg
 rotate_left
 .cases hg
 rename_i p1 q1 g1;split at hg
 rotate_left
 .cases hg
 rename_i e;subst e;simp only[fF]at hg;split at hg
 rotate_left
 .cases hg
 rename_i x y hx hy;split at hg
 rotate_left
 .cases hg
 rename_i z hz;simp only[yAb]at hg;subst hg;obtain⟨⟨rx,ry⟩,e⟩:=gE hz;cases e;have e1:=Em.oD hx;have e2:=Em.oD hy;obtain⟨p2,σ2,h1,h2⟩:=h x y rx ry;exact⟨p2,σ2,by simpa [e1,e2,PD.strip]using h1,h2,by simp[e1,e2,PD.strip,PD.fZ,PD.cI,a.eR],rfl⟩
theorem tF{α:Type}[DecidableEq α](a b:α)(x y:List α):decide (a::x=b::y)=(decide (a=b)&&decide (x=y)):=by
 by_cases h:a=b<;>by_cases k:x=y<;>simp[h,k]
theorem tH{α:Type}[DecidableEq α]{x y:List α}(h:¬x.length=y.length):decide (x=y)=false:=by
 simp only[yDX];exact λe=>h (by rw[e])
section
structure n8 where
 j9:Int
 dI:Int
 first:Int
 AP:Int
 w0:Int
 w1:Int
 w2:Int
 w3:Int
 w4:Int
structure qL where
 aN:Int
 dI:Int
 kind:Int
 at_:Int
structure rZ where
 low:Int
 keys:Int
 dV:Bool
 stops:List qL
structure tB where
 dJ:Int
 dst:Int
 shift:Int
 qM:Bool
structure pY where
 aQ:List n8
 aD:List rZ
 aL:List tB
structure aAR where
 kind:Int
 at_:Int
abbrev kB:Em Int:=Em.int .u8
abbrev i8e:Em Int:=Em.int .i8
def Em.yY:Em n8:=.agg (((cF.one kB).pair ((cF.one kB).pair ((cF.one i8e).pair ((cF.one kB).pair ((cF.one kB).pair ((cF.one kB).pair ((cF.one kB).pair ((cF.one kB).pair (.one kB))))))))).nH (λr=>(r.j9,r.dI,r.first,r.AP,r.w0,r.w1,r.w2,r.w3,r.w4)) (λx y h=>Cl))
@[simp] theorem aAS{r:n8}:Em.yY.aB r=.agg [.int .u8 r.j9,.int .u8 r.dI,.int .i8 r.first,.int .u8 r.AP,.int .u8 r.w0,.int .u8 r.w1,.int .u8 r.w2,.int .u8 r.w3,.int .u8 r.w4]:=rfl
abbrev JU:Em (List n8):=Em.yY.list 9
def Em.pull:Em qL:=.agg (((cF.one kB).pair ((cF.one kB).pair ((cF.one kB).pair (.one kB)))).nH (λr=>(r.aN,r.dI,r.kind,r.at_)) (λx y h=>Cl))
@[simp] theorem aAT{r:qL}:Em.pull.aB r=.agg [.int .u8 r.aN,.int .u8 r.dI,.int .u8 r.kind,.int .u8 r.at_]:=rfl
abbrev aAU:Em (List qL):=Em.pull.list 4
def Em.ET:Em rZ:=.agg (((cF.one kB).pair ((cF.one kB).pair ((cF.one .bool).pair (.one aAU)))).nH (λr=>(r.low,r.keys,r.dV,r.stops)) (λx y h=>Cl))
@[simp] theorem aTh{r:rZ}:Em.ET.aB r=.agg [.int .u8 r.low,.int .u8 r.keys,.bool r.dV,aAU.aB r.stops]:=rfl
abbrev JV:Em (List rZ):=Em.ET.list 4
def Em.link:Em tB:=.agg (((cF.one kB).pair ((cF.one kB).pair ((cF.one i8e).pair (.one .bool)))).nH (λr=>(r.dJ,r.dst,r.shift,r.qM)) (λx y h=>Cl))
@[simp] theorem aTi{r:tB}:Em.link.aB r=.agg [.int .u8 r.dJ,.int .u8 r.dst,.int .i8 r.shift,.bool r.qM]:=rfl
abbrev JW:Em (List tB):=Em.link.list 4
def Em.eK:Em pY:=.agg (((cF.one JU).pair ((cF.one JV).pair (.one JW))).nH (λr=>(r.aQ,r.aD,r.aL)) (λx y h=>Cl))
@[simp] theorem xK{r:pY}:Em.eK.aB r=.agg [JU.aB r.aQ,JV.aB r.aD,JW.aB r.aL]:=rfl
def Em.aHf:Em aAR:=.agg (((cF.one kB).pair (.one kB)).nH (λr=>(r.kind,r.at_)) (λx y h=>Cl))
@[simp] theorem aTj{r:aAR}:Em.aHf.aB r=.agg [.int .u8 r.kind,.int .u8 r.at_]:=rfl
def iB(n:Int):Prop:=0<=n/\n<=255
def aAV(n:Int):Prop:=-128<=n/\n<=127
def CQ(r:n8):Prop:=iB r.j9/\iB r.dI/\aAV r.first/\iB r.AP/\iB r.w0/\iB r.w1/\iB r.w2/\iB r.w3/\iB r.w4
def ES(r:qL):Prop:=iB r.aN/\iB r.dI/\iB r.kind/\iB r.at_
def okB(r:rZ):Prop:=iB r.low/\iB r.keys/\∀s∈r.stops,ES s
def S8(r:tB):Prop:=iB r.dJ/\iB r.dst/\aAV r.shift
def yW(p:pY):Prop:=(∀r∈p.aQ,CQ r)/\(∀b∈p.aD,okB b)/\∀l∈p.aL,S8 l
def nI(p:pY):Bool:=decide (1<=p.aQ.length)&&decide (p.aQ.length<=3)&&decide (1<=p.aD.length)&&decide (p.aD.length<=3)&&decide (p.aL.length<=3)&&p.aD.all λb=>decide (b.stops.length<=3)
variable{E:aE}(hU:aJ E)
include hU
theorem aHg(h0:E 11=none)(p:pY):aI prog E 11 [Em.eK.aB p] (Em.bool.aB (nI p)):=by
 obtain⟨R,D,C⟩:=p;simp only[xK,bC];refine aI.aG 47 h0 func11 (h:=?_)
 by_cases c1:(R.length:Int)<1
 .have z:¬1<=R.length:=by omega
  refine aC c1 ?_;exact gi
 have z1:1<=R.length:=Cd
 by_cases c2:3<(R.length:Int)
 .have z:¬R.length<=3:=by omega
  refine aC (A2 c1 c2) ?_;exact gi
 have z2:R.length<=3:=Cd
 by_cases c3:(D.length:Int)<1
 .have z:¬1<=D.length:=by omega
  refine aC (A3 c1 c2 c3) ?_;exact gi
 have z3:1<=D.length:=Cd
 by_cases c4:3<(D.length:Int)
 .have z:¬D.length<=3:=by omega
  refine aC (A4 c1 c2 c3 c4) ?_;exact gi
 have z4:D.length<=3:=Cd
 by_cases c5:3<(C.length:Int)
 .have z:¬C.length<=3:=by omega
  refine aC (A5 c1 c2 c3 c4 c5) ?_;exact gi
 have z5:C.length<=3:=Cd;obtain⟨B,hB⟩:=gn (nI ⟨R,D,C⟩);have S9:(D.all λb=>decide (b.stops.length<=3))=B:=by rw[<-hB];simp[nI,z1,z2,z3,z4,z5]
 rw[hB];refine aC (A5 c1 c2 c3 c4 c5) ?_;refine Wp.dW (λm fr σ=>∃(i:Nat),∃gg:Nat->PD,(i+m=D.length/\((D.drop i).all λb=>decide (b.stops.length<=3))=B)/\fr=[gg 0,.ptr 0 0,.bool false,.int .i64 i,gg 4,gg 5,gg 6,gg 7,gg 8,gg 9,gg 10,gg 11,gg 12,gg 13,gg 14,gg 15,gg 16,gg 17,gg 18,gg 19,gg 20,gg 21,gg 22,gg 23,gg 24,gg 25,gg 26,gg 27,gg 28,gg 29,gg 30,gg 31,gg 32,gg 33,gg 34,gg 35,gg 36,gg 37,gg 38,gg 39,gg 40,gg 41,gg 42,gg 43,gg 44,gg 45,gg 46]/\σ=[.box (.agg [.slice (sz 9 R) (R.map Em.yY.aB) .any,.slice (sz 4 D) (D.map Em.ET.aB) .any,.slice (sz 4 C) (C.map Em.link.aB) .any])]) ?_ (D.length) (by refine⟨0,?_⟩;exact cL (⟨Cd,S9⟩))
 rintro m fr σ ⟨i,gg,hI,rfl,rfl⟩
 obtain⟨hm,hs⟩:=hI
 by_cases hi:i<D.length
 .have q1:(i:Int)<(D.length:Int):=by omega
  obtain⟨b,hb⟩:=gn (D[i]);have eQ:D.drop i=b::D.drop (i+1):=by rw[yAq hi,hb]
  rw[eQ,yCd]at hs;obtain⟨b0,b1,b2,b3⟩:=b
  by_cases hl:3<(b3.length:Int)
  .have hz:¬b3.length<=3:=by omega
   simp only[hz,decide_false,yAY]at hs;have cM:B=false:=hs.symm;refine aC (A4 q1 hi @hb hl) ?_;exact aq
  .have hz:b3.length<=3:=by omega
   simp only[hz,decide_true,yBq]at hs;refine aC (A4 q1 hi @hb hl) ?_;exact bp
 .have q1:¬(i:Int)<(D.length:Int):=by omega
  rw[yAs Cd]at hs;have cM:B=true:=hs.symm;exact yw
end
end Go.Kz
namespace Go.Kz
instance:Inhabited n8:=⟨⟨0,0,0,0,0,0,0,0,0⟩⟩
instance:Inhabited qL:=⟨⟨0,0,0,0⟩⟩
instance:Inhabited rZ:=⟨⟨0,0,false,[]⟩⟩
instance:Inhabited tB:=⟨⟨0,0,0,false⟩⟩
instance:Inhabited bP:=⟨⟨[],[],0,0,0,[]⟩⟩
def D4:List (Int×Int):=[(8,1),(4,1),(16,1),(8,3),(2,1),(8,5)]
def rS:List (Int×Int):=[(8,1),(4,1),(16,1),(2,1),(8,3),(8,5),(4,3),(1,1),(32,1),(16,3),(16,5),(32,3),(8,7),(2,3),(1,2),(64,1)]
def nW(n:Int):Int×Int:=D4.getD (n%6).toNat (8,1)
def pM(n:Int):Int×Int:=rS.getD (n%16).toNat (8,1)
def GI:List (List UInt8):=[[79,112,101,110],[70,108,117,116,101],[82,101,101,100]]
def CE(n:Int):List UInt8:=GI.getD (n%3).toNat []
def Y4:List ((Int×Int)×(Int×Int)×Int):=[((8,1),(8,1),0),((8,1),(4,1),-12),((8,1),(16,1),12),((8,1),(2,1),-24),((8,1),(8,3),-19),((8,1),(8,5),-28),((8,1),(4,3),-31),((8,1),(1,1),-36),((8,1),(32,1),24),((8,1),(16,3),-7),((8,1),(16,5),-16),((8,1),(32,3),5),((8,1),(8,7),-34),((8,1),(2,3),-43),((8,1),(1,2),-48),((8,1),(64,1),36),((4,1),(8,1),12),((4,1),(4,1),0),((4,1),(16,1),24),((4,1),(2,1),-12),((4,1),(8,3),-7),((4,1),(8,5),-16),((4,1),(4,3),-19),((4,1),(1,1),-24),((4,1),(32,1),36),((4,1),(16,3),5),((4,1),(16,5),-4),((4,1),(32,3),17),((4,1),(8,7),-22),((4,1),(2,3),-31),((4,1),(1,2),-36),((4,1),(64,1),48),((16,1),(8,1),-12),((16,1),(4,1),-24),((16,1),(16,1),0),((16,1),(2,1),-36),((16,1),(8,3),-31),((16,1),(8,5),-40),((16,1),(4,3),-43),((16,1),(1,1),-48),((16,1),(32,1),12),((16,1),(16,3),-19),((16,1),(16,5),-28),((16,1),(32,3),-7),((16,1),(8,7),-46),((16,1),(2,3),-55),((16,1),(1,2),-60),((16,1),(64,1),24),((8,3),(8,1),19),((8,3),(4,1),7),((8,3),(16,1),31),((8,3),(2,1),-5),((8,3),(8,3),0),((8,3),(8,5),-9),((8,3),(4,3),-12),((8,3),(1,1),-17),((8,3),(32,1),43),((8,3),(16,3),12),((8,3),(16,5),3),((8,3),(32,3),24),((8,3),(8,7),-15),((8,3),(2,3),-24),((8,3),(1,2),-29),((8,3),(64,1),55),((2,1),(8,1),24),((2,1),(4,1),12),((2,1),(16,1),36),((2,1),(2,1),0),((2,1),(8,3),5),((2,1),(8,5),-4),((2,1),(4,3),-7),((2,1),(1,1),-12),((2,1),(32,1),48),((2,1),(16,3),17),((2,1),(16,5),8),((2,1),(32,3),29),((2,1),(8,7),-10),((2,1),(2,3),-19),((2,1),(1,2),-24),((2,1),(64,1),60),((8,5),(8,1),28),((8,5),(4,1),16),((8,5),(16,1),40),((8,5),(2,1),4),((8,5),(8,3),9),((8,5),(8,5),0),((8,5),(4,3),-3),((8,5),(1,1),-8),((8,5),(32,1),52),((8,5),(16,3),21),((8,5),(16,5),12),((8,5),(32,3),33),((8,5),(8,7),-6),((8,5),(2,3),-15),((8,5),(1,2),-20),((8,5),(64,1),64)]
def xD(f o:Int×Int):Int:=((Y4.find? λt=>decide (t.1=f)&&decide (t.2.1=o)).map (·.2.2)).getD 0
def yI(x:n8)(k:Nat):Int:=[x.w0,x.w1,x.w2,x.w3,x.w4].getD (k%5) 0
def yJ(x:n8)(n:Nat):List Int:=(List.range n).map (yI x)
def digit(i:Nat):UInt8:=UInt8.ofNat (48+i)
def uM(x:n8)(i:Nat):bP:=⟨[82,digit (i%10)],CE x.j9,(pM x.dI).1,(pM x.dI).2,x.first,yJ x (1+(x.AP%25).toNat)⟩
def iK(l:List n8)(n:Nat):List bP:=(List.range n).map λi=>uM (l.getD i default) i
def s4(k n sh lo hi at_ m other:Int):List jE:=
 if k=2 then [⟨lo,hi,[⟨n,sh⟩,⟨n,sh+7⟩]⟩]
 else if k=3\/k=4 then(if lo<at_ then [⟨lo,at_-1,[⟨n,sh⟩]⟩]else [])++[⟨at_,hi,if k=3 then [⟨m,other⟩]else [⟨n,sh-12⟩]⟩]
 else if k=5 then [⟨at_,hi,[⟨n,sh⟩]⟩]
 else [⟨lo,hi,[⟨n,sh⟩]⟩]
def D5(rs:List bP)(n:Nat):Int×Int:=((rs.getD n default).num,(rs.getD n default).den)
def vV(rs:List bP)(lo hi:Int)(x:qL)(i:Nat):cO:=
 ⟨[83,digit i],(nW x.dI).1,(nW x.dI).2,s4 (x.kind%6) (x.aN%rs.length) (xD (nW x.dI) (D5 rs (x.aN%rs.length).toNat)) lo hi (lo+x.at_%(hi-lo+1))
   ((x.aN%rs.length+1)%rs.length) (xD (nW x.dI) (D5 rs ((x.aN%rs.length+1)%rs.length).toNat))⟩
def vU(rs:List bP)(lo hi:Int)(l:List qL)(n:Nat):List cO:=(List.range n).map λi=>vV rs lo hi (l.getD i default) i
def z8(rs:List bP)(b:rZ)(i:Nat):bO:=⟨[68,digit i],b.dV,36+b.low%12,36+b.low%12+b.keys%9,vU rs (36+b.low%12) (36+b.low%12+b.keys%9) b.stops b.stops.length⟩
def lP(rs:List bP)(l:List rZ)(n:Nat):List bO:=(List.range n).map λi=>z8 rs (l.getD i default) i
def I9(n:Nat)(c:tB)(i:Nat):cJ:=
 ⟨[67,digit i],c.dJ%n,c.dst%n,if c.dJ%n=c.dst%n/\c.shift.tmod 25=0 then 12 else c.shift.tmod 25,c.qM⟩
def mK(n:Nat)(l:List tB)(k:Nat):List cJ:=(List.range k).map λi=>I9 n (l.getD i default) i
def fW(p:pY):aY:=⟨[79,114,103,97,110],iK p.aQ p.aQ.length,lP (iK p.aQ p.aQ.length) p.aD p.aD.length,mK p.aD.length p.aL p.aL.length⟩
end Go.Kz
namespace Go.Kz
open Go Go.Proofs
section
def Em.dI:Em (Int×Int):=.agg (((cF.one i64).pair (.one i64)).nH (λr=>(r.1,r.2)) (λx y h=>Cl))
@[simp] theorem aVW{r:Int×Int}:Em.dI.aB r=.agg [.int .i64 r.1,.int .i64 r.2]:=rfl
variable{E:aE}(hU:aJ E)
include hU
theorem aMl(h0:E 68=none)(n:Int)(hn:iB n):aI prog E 68 [.int .u8 n] (Em.dI.aB (nW n)):=by
 obtain⟨k,rfl⟩:∃k:Nat,n=k:=⟨n.toNat,by have:=hn.1;omega⟩;have hm:(k:Int).tmod 6=((k%6:Nat):Int):=rfl;refine aI.aG 14 h0 func68 (h:=?_);have hlt:k%6<6:=yBC _ Ch;have hs:nW k=D4.getD (k%6) (8,1):=by
  unfold nW
  congr 1
 rw[hs];clear hs;obtain⟨j,hj⟩:=gn (k%6);rw[hj]at hm hlt ⊢
 match j,hlt with
 |0,_=>
  exact bw
 |1,_=>
  exact bw
 |2,_=>
  exact bw
 |3,_=>
  exact bw
 |4,_=>
  exact bw
 |5,_=>
  exact bw
 |j+6,h=>exact absurd h Cd
theorem aMj(h0:E 67=none)(n:Int)(hn:iB n):aI prog E 67 [.int .u8 n] (Em.dI.aB (pM n)):=by
 obtain⟨k,rfl⟩:∃k:Nat,n=k:=⟨n.toNat,by have:=hn.1;omega⟩;have hm:(k:Int).tmod 16=((k%16:Nat):Int):=rfl;refine aI.aG 24 h0 func67 (h:=?_);have hlt:k%16<16:=yBC _ Ch;have hs:pM k=rS.getD (k%16) (8,1):=by
  unfold pM
  congr 1
 rw[hs];clear hs;obtain⟨j,hj⟩:=gn (k%16);rw[hj]at hm hlt ⊢
 match j,hlt with
 |0,_=>
  exact bw
 |1,_=>
  exact bw
 |2,_=>
  exact bw
 |3,_=>
  exact bw
 |4,_=>
  exact bw
 |5,_=>
  exact bw
 |6,_=>
  exact bw
 |7,_=>
  exact bw
 |8,_=>
  exact bw
 |9,_=>
  exact bw
 |10,_=>
  exact bw
 |11,_=>
  exact bw
 |12,_=>
  exact bw
 |13,_=>
  exact bw
 |14,_=>
  exact bw
 |15,_=>
  exact bw
 |j+16,h=>exact absurd h Cd
end
section
def wC(n:Int):Bool:=(decide (65<=n)&&decide (n<=90))||(decide (97<=n)&&decide (n<=122))
def xG(c:UInt8):Bool:=wC c.toNat||(decide (48<=(c.toNat:Int))&&decide ((c.toNat:Int)<=57))||decide (c.toNat=95)
def fO:List UInt8->Bool
 | []=>false
 |c::r=>decide ((c::r).length<=32)&&wC c.toNat&&r.all xG
def mY(lo hi:Int):Int:=if lo<0\/127<hi then 3 else if hi<lo then 23 else 0
def P8:Nat->List PD->List aA->Option (PD×List aA):=entry (cU (Em.int .u8) Em.bool λn=>some (wC n))
theorem GM(n:Int)(fl:Nat)(σ:List aA):P8 fl [.int .u8 n] σ=some (.bool (wC n),σ):=by
 have e:(Em.int .u8).dec (.int .u8 n)=some n:=Em.dC rfl;unfold P8 entry cU;simp only[e];rfl
variable{E:aE}(hU:aJ E)
include hU
theorem aK6(h0:E 92=none)(n:Int):aI prog E 92 [.int .u8 n] (Em.bool.aB (wC n)):=by
 refine aI.aG 17 h0 func92 (h:=?_)
 by_cases a:65<=n
 .by_cases b:n<=90
  .refine aC (A2 @a @b) ?_;simp(disch:=first|omega|(simp;done)|(simp;omega)) [yAu,wC,a,b]<;>try rfl
  .by_cases c:97<=n
   .exact qx
   .exact qx
 .by_cases c:97<=n
  .exact si
  .exact si
theorem aLa(h0:E 96=none)(lo hi:Int):aI prog E 96 [.agg [.int .i64 lo,.int .i64 hi]] (.int .i64 (mY lo hi)):=by
 refine aI.aG 18 h0 func96 (h:=?_)
 by_cases a:lo<0
 .refine aC @a ?_;simp(disch:=first|omega|(simp;done)|(simp;omega)) [yAu,mY,a]<;>try rfl
 by_cases b:127<hi
 .refine aC (A2 @a @b) ?_;simp(disch:=first|omega|(simp;done)|(simp;omega)) [yAu,mY,a,b]<;>try rfl
 by_cases c:hi<lo
 .exact rq
 .exact rq
theorem aLs(h0:E 94=none)(n:Int):aI prog E 94 [.int .i64 n] (Em.bool.aB (decide (-256<=n)&&decide (n<=256))):=by
 refine aI.aG 9 h0 func94 (h:=?_)
 by_cases a:-256<=n
 .by_cases b:n<=256
  .exact su
  .exact su
 .refine aC @a ?_;simp(disch:=first|omega|(simp;done)|(simp;omega)) [yAu,a]<;>try rfl
theorem aK8(h0:E 60=none)(h1:E 92=some P8)(s:List UInt8)(hs:s.length<=100000):aI prog E 60 [.str s] (Em.bool.aB (fO s)):=by
 by_cases hs0:s=[]
 .subst hs0;refine aI.aG 42 h0 func60 (h:=?_);refine aC trivial ?_;simp(disch:=first|omega|(simp;done)|(simp;omega)) [yAu,fO]<;>try rfl
 obtain⟨c,r,hcr⟩:∃c r,s=c::r:=by cases s with|nil=>exact absurd rfl hs0|cons c r=>exact⟨c,r,rfl⟩
 have hs1:s.isEmpty=false:=by rw[hcr];rfl
 have hx0:s[0]?=some c:=by rw[hcr];rfl
 obtain⟨iA,hx1⟩:=yA.1 hx0;refine aI.aG 42 h0 func60 (h:=?_)
 by_cases a:32<(s.length:Int)
 .have hB:fO s=false:=by rw[hcr];simp[fO,show ¬r.length+1<=32 by rw[hcr]at a;simp at a;omega]
  rw[hB];refine aC (A3 hs0 hs1 @a) ?_;exact ag
 .cases hc:wC c.toNat with
  |false=>
   have hB:fO s=false:=by rw[hcr];simp[fO,hc]
   rw[hB];refine aC (A9 h1 hs0 hs1 @a hx0 hx1 iA @GM hc) ?_;exact ag
  |true=>
   have hB:fO s=(s.drop 1).all xG:=by rw[hcr];simp only[fO,hc];simp[show r.length+1<=32 by rw[hcr]at a;simp at a;omega]
   rw[hB];clear hB;obtain⟨B,hB⟩:=gn ((s.drop 1).all xG);rw[hB];refine aC (A9 h1 hs0 hs1 @a hx0 hx1 iA @GM hc) ?_;refine Wp.dW (λm fr σ=>∃(k:Nat),∃gg:Nat->PD,(k+m=s.length/\1<=k/\(s.drop k).all xG=B)/\fr=[.str s,gg 1,gg 2,.int .i64 k,gg 4,gg 5,gg 6,gg 7,gg 8,gg 9,gg 10,gg 11,gg 12,gg 13,gg 14,gg 15,gg 16,gg 17,gg 18,gg 19,gg 20,gg 21,gg 22,gg 23,gg 24,gg 25,gg 26,gg 27,gg 28,gg 29,gg 30,gg 31,gg 32,gg 33,gg 34,gg 35,gg 36,gg 37,gg 38,gg 39,gg 40,gg 41]/\σ=[]) ?_ (s.length-1) (by refine⟨1,?_⟩;exact cL (⟨Cd,Cd,hB⟩))
   rintro m fr σ ⟨k,gg,hI,rfl,rfl⟩
   obtain⟨hm,hk1,hkB⟩:=hI
   by_cases hk:k<s.length
   .have q1:(k:Int)<(s.length:Int):=by omega
    obtain⟨v,hv⟩:=gn (s[k]);have FO:s[k]?=some v:=by rw[yAh hk,hv]
    have hd:s.drop k=v::s.drop (k+1):=by rw[yAq hk,hv]
    have hw:IntKind.i64.wrap ((k:Int)+1)=((k+1:Nat):Int):=Ci;rw[hd,yCd]at hkB;cases hl:wC v.toNat with
    |true=>
     have hn:xG v=true:=by unfold xG;rw[hl];rfl
     rw[hn,yBq]at hkB;refine aC (A8 h1 q1 @hk hv FO @GM hl @hw) ?_;exact ji
    |false=>
     have l95:wC 95=false:=Ch;have nC:xG v=((decide (48<=(v.toNat:Int))&&decide ((v.toNat:Int)<=57))||decide (v.toNat=95)):=by unfold xG;rw[hl];rfl
     by_cases b1:(v.toNat:Int)<48
     .have hn:xG v=false:=by rw[nC];simp;omega
      rw[hn,yAY]at hkB;subst hkB;have b3:¬(v.toNat:Int)=95:=Cd;refine aC (A10 h1 q1 @hk hv FO @GM hl @hw b1 b3) ?_;exact ag
     .by_cases b2:57<(v.toNat:Int)
      .by_cases b3:(v.toNat:Int)=95
       .have hn:xG v=true:=by rw[nC];simp;omega
        rw[hn,yBq]at hkB;refine aC (A12 h1 q1 @hk hv FO @GM hl @hw b1 b2 b3 l95) ?_;exact ji
       .have hn:xG v=false:=by rw[nC];simp;omega
        rw[hn,yAY]at hkB;subst hkB;refine aC (A11 h1 q1 @hk hv FO @GM hl @hw b1 b2 b3) ?_;exact ag
      .have hn:xG v=true:=by rw[nC];simp;omega
       rw[hn,yBq]at hkB;refine aC (A10 h1 q1 @hk hv FO @GM hl @hw b1 b2) ?_;exact ji
   .have q1:¬(k:Int)<(s.length:Int):=by omega
    obtain rfl:k=s.length:=Cd;rw[yCD]at hkB;subst hkB;refine aC q1 ?_;exact ag
end
section
variable{E:aE}(hU:aJ E)
include hU
theorem aKI(h0:E 70=none)(l r:List Int)(hl:l.length<=1000000)(hr:r.length<=1000000):aI prog E 70 [(gJ).aB l,(gJ).aB r] (Em.bool.aB (decide (l=r))):=by
 refine aI.aG 26 h0 func70 (h:=?_)
 by_cases hq:l.length=r.length
 .have dN:(l.length:Int)=(r.length:Int):=by omega
  obtain⟨B,hB⟩:∃B,decide (l=r)=B:=⟨_,rfl⟩;rw[hB];refine aC Bh ?_;refine Wp.dW (λm fr σ=>∃(i:Nat),∃gg:Nat->PD,(i+m=l.length/\decide (l.drop i=r.drop i)=B)/\fr=[(gJ).aB l,(gJ).aB r,gg 2,gg 3,.bool false,gg 5,gg 6,gg 7,gg 8,gg 9,gg 10,(gJ).aB l,.int .i64 l.length,.int .i64 i,gg 14,gg 15,gg 16,gg 17,gg 18,gg 19,gg 20,gg 21,gg 22,gg 23,gg 24,gg 25]/\σ=[]) ?_ (l.length) (by refine⟨0,?_⟩;exact rF (⟨Cd,hB⟩) Cg Cg)
  rintro m fr σ ⟨i,gg,hI,rfl,rfl⟩
  obtain⟨hm,hs⟩:=hI
  by_cases hi:i<l.length
  .have q1:(i:Int)<(l.length:Int):=by omega
   have hir:i<r.length:=Cd;have q2:(i:Int)<(r.length:Int):=Cd;obtain⟨a,ha⟩:=gn (l[i]);obtain⟨b,hb⟩:=gn (r[i]);have eQ:l.drop i=a::l.drop (i+1):=Cp;have hc2:r.drop i=b::r.drop (i+1):=Dn;exact zj
  .have q1:¬(i:Int)<(l.length:Int):=by omega
   exact yo
 .exact bl
theorem aKK(h0:E 108=none)(l r:List dQ)(hl:l.length<=1000000)(hr:r.length<=1000000):aI prog E 108 [(gK).aB l,(gK).aB r] (Em.bool.aB (decide (l=r))):=by
 refine aI.aG 26 h0 func108 (h:=?_)
 by_cases hq:l.length=r.length
 .have dN:(l.length:Int)=(r.length:Int):=by omega
  obtain⟨B,hB⟩:∃B,decide (l=r)=B:=⟨_,rfl⟩;rw[hB];refine aC Bh ?_;refine Wp.dW (λm fr σ=>∃(i:Nat),∃gg:Nat->PD,(i+m=l.length/\decide (l.drop i=r.drop i)=B)/\fr=[(gK).aB l,(gK).aB r,gg 2,gg 3,.bool false,gg 5,gg 6,gg 7,gg 8,gg 9,gg 10,(gK).aB l,.int .i64 l.length,.int .i64 i,gg 14,gg 15,gg 16,gg 17,gg 18,gg 19,gg 20,gg 21,gg 22,gg 23,gg 24,gg 25]/\σ=[]) ?_ (l.length) (by refine⟨0,?_⟩;exact rF (⟨Cd,hB⟩) Cg Cg);exact yh
 .exact bl
theorem aKM(h0:E 36=none)(l r:List cJ)(hl:l.length<=1000000)(hr:r.length<=1000000):aI prog E 36 [(qN).aB l,(qN).aB r] (Em.bool.aB (decide (l=r))):=by
 refine aI.aG 26 h0 func36 (h:=?_)
 by_cases hq:l.length=r.length
 .have dN:(l.length:Int)=(r.length:Int):=by omega
  obtain⟨B,hB⟩:∃B,decide (l=r)=B:=⟨_,rfl⟩;rw[hB];refine aC Bh ?_;refine Wp.dW (λm fr σ=>∃(i:Nat),∃gg:Nat->PD,(i+m=l.length/\decide (l.drop i=r.drop i)=B)/\fr=[(qN).aB l,(qN).aB r,gg 2,gg 3,.bool false,gg 5,gg 6,gg 7,gg 8,gg 9,gg 10,(qN).aB l,.int .i64 l.length,.int .i64 i,gg 14,gg 15,gg 16,gg 17,gg 18,gg 19,gg 20,gg 21,gg 22,gg 23,gg 24,gg 25]/\σ=[]) ?_ (l.length) (by refine⟨0,?_⟩;exact rF (⟨Cd,hB⟩) Cg Cg)
  rintro m fr σ ⟨i,gg,hI,rfl,rfl⟩
  obtain⟨hm,hs⟩:=hI
  by_cases hi:i<l.length
  .have q1:(i:Int)<(l.length:Int):=by omega
   have hir:i<r.length:=Cd;have q2:(i:Int)<(r.length:Int):=Cd;obtain⟨a,ha⟩:=gn (l[i]);obtain⟨b,hb⟩:=gn (r[i]);have eQ:l.drop i=a::l.drop (i+1):=Cp;have hc2:r.drop i=b::r.drop (i+1):=Dn;rw[eQ,hc2,tF]at hs;obtain⟨a0,a1,a2,a3,a4⟩:=a;obtain⟨b0,b1,b2,b3,b4⟩:=b
   by_cases e0:a0=b0
   rotate_left
   .rw[show decide ((⟨a0,a1,a2,a3,a4⟩:cJ)=⟨b0,b1,b2,b3,b4⟩)=false by simp[e0],yAY]at hs;refine aC (A7 q1 q2 hi hir ha @hb @e0) ?_;exact cj
   by_cases e1:a1=b1
   rotate_left
   .rw[show decide ((⟨a0,a1,a2,a3,a4⟩:cJ)=⟨b0,b1,b2,b3,b4⟩)=false by simp[e1],yAY]at hs;refine aC (A8 q1 q2 hi hir ha @hb @e0 e1) ?_;exact cj
   by_cases e2:a2=b2
   rotate_left
   .rw[show decide ((⟨a0,a1,a2,a3,a4⟩:cJ)=⟨b0,b1,b2,b3,b4⟩)=false by simp[e2],yAY]at hs;refine aC (A9 q1 q2 hi hir ha @hb @e0 e1 e2) ?_;exact cj
   by_cases e3:a3=b3
   rotate_left
   .rw[show decide ((⟨a0,a1,a2,a3,a4⟩:cJ)=⟨b0,b1,b2,b3,b4⟩)=false by simp[e3],yAY]at hs;refine aC (A10 q1 q2 hi hir ha @hb @e0 e1 e2 e3) ?_;exact cj
   by_cases e4:a4=b4
   rotate_left
   .rw[show decide ((⟨a0,a1,a2,a3,a4⟩:cJ)=⟨b0,b1,b2,b3,b4⟩)=false by simp[e4],yAY]at hs;refine aC (A11 q1 q2 hi hir ha @hb @e0 e1 e2 e3 e4) ?_;exact cj
   rw[show decide ((⟨a0,a1,a2,a3,a4⟩:cJ)=⟨b0,b1,b2,b3,b4⟩)=true by simp[e0,e1,e2,e3,e4],yBq]at hs;refine aC (A11 q1 q2 hi hir ha @hb @e0 e1 e2 e3 e4) ?_;exact bp
  .have q1:¬(i:Int)<(l.length:Int):=by omega
   exact yo
 .exact bl
end
section
variable{E:aE}(hU:aJ E)
include hU
theorem aKQ(h0:E 32=none)(h1:E 33=some (fP Em.aN gU))(l r:List bP)(hl:l.length<=1000000/\∀x∈l,gU x)(hr:r.length<=1000000/\∀x∈r,gU x) :
  aI prog E 32 [(aQ).aB l,(aQ).aB r,.func 33 []] (Em.bool.aB (decide (l=r))):=by
 have hl1:=hl.1;have nS:=hr.1;refine aI.aG 32 h0 func32 (h:=?_)
 by_cases hq:l.length=r.length
 .have dN:(l.length:Int)=(r.length:Int):=by omega
  obtain⟨B,hB⟩:∃B,decide (l=r)=B:=⟨_,rfl⟩;rw[hB];refine aC Bh ?_;refine Wp.dW (λm fr σ=>∃(i:Nat) (σ1:List aA),∃gg:Nat->PD,(i+m=l.length/\decide (l.drop i=r.drop i)=B)/\fr=[(aQ).aB l,(aQ).aB r,.func 33 [],gg 3,gg 4,gg 5,.bool false,gg 7,gg 8,gg 9,(aQ).aB l,gg 11,gg 12,gg 13,gg 14,(aQ).aB l,.int .i64 l.length,.int .i64 i,gg 18,gg 19,gg 20,gg 21,gg 22,gg 23,gg 24,gg 25,gg 26,gg 27,gg 28,gg 29,gg 30,gg 31]/\σ=σ1) ?_ (l.length) (by refine⟨0,[],?_⟩;exact rF (⟨Cd,hB⟩) Cg Cg)
  rintro m fr σ ⟨i,σ1,gg,hI,rfl,rfl⟩
  obtain⟨hm,hs⟩:=hI
  by_cases hi:i<l.length
  .have q1:(i:Int)<(l.length:Int):=by omega
   have hir:i<r.length:=Cd;obtain⟨a,ha⟩:=gn (l[i]);obtain⟨b,hb⟩:=gn (r[i]);have eQ:l.drop i=a::l.drop (i+1):=Cp;have hc2:r.drop i=b::r.drop (i+1):=Dn;rw[eQ,hc2,tF]at hs;have j0:∀x y:aA,(σ++[x,y])[σ.length]?=some x:=λx y=>Ce
   have j1:∀x y:aA,(σ++[x,y])[σ.length+1]?=some y:=λx y=>Ce
   have q2:(i:Int)<(r.length:Int):=Cd;have hE:=λfl σ=>oC (a:=Em.aN) (hl.2 a (ha▸yAm hi)) (hr.2 b (hb▸yAm hir)) fl σ
   by_cases hab:a=b
   rotate_left
   .rw[yBc hab,yAY]at hs;rw[yBc hab]at hE;simp only[oA,bC]at hE;exact yj
   .rw[yAX hab,yBq]at hs;rw[yAX hab]at hE;simp only[oA,bC]at hE;exact ck
  .exact yp
 .exact bl
theorem aK2(h0:E 34=none)(h1:E 35=some (fP Em.div gV))(l r:List bO)(hl:l.length<=1000000/\∀x∈l,gV x)(hr:r.length<=1000000/\∀x∈r,gV x) :
  aI prog E 34 [(tD).aB l,(tD).aB r,.func 35 []] (Em.bool.aB (decide (l=r))):=by
 have hl1:=hl.1;have nS:=hr.1;refine aI.aG 32 h0 func34 (h:=?_)
 by_cases hq:l.length=r.length
 .have dN:(l.length:Int)=(r.length:Int):=by omega
  obtain⟨B,hB⟩:∃B,decide (l=r)=B:=⟨_,rfl⟩;rw[hB];refine aC Bh ?_;refine Wp.dW (λm fr σ=>∃(i:Nat) (σ1:List aA),∃gg:Nat->PD,(i+m=l.length/\decide (l.drop i=r.drop i)=B)/\fr=[(tD).aB l,(tD).aB r,.func 35 [],gg 3,gg 4,gg 5,.bool false,gg 7,gg 8,gg 9,(tD).aB l,gg 11,gg 12,gg 13,gg 14,(tD).aB l,.int .i64 l.length,.int .i64 i,gg 18,gg 19,gg 20,gg 21,gg 22,gg 23,gg 24,gg 25,gg 26,gg 27,gg 28,gg 29,gg 30,gg 31]/\σ=σ1) ?_ (l.length) (by refine⟨0,[],?_⟩;exact rF (⟨Cd,hB⟩) Cg Cg)
  rintro m fr σ ⟨i,σ1,gg,hI,rfl,rfl⟩
  obtain⟨hm,hs⟩:=hI
  by_cases hi:i<l.length
  .have q1:(i:Int)<(l.length:Int):=by omega
   have hir:i<r.length:=Cd;obtain⟨a,ha⟩:=gn (l[i]);obtain⟨b,hb⟩:=gn (r[i]);have eQ:l.drop i=a::l.drop (i+1):=Cp;have hc2:r.drop i=b::r.drop (i+1):=Dn;rw[eQ,hc2,tF]at hs;have j0:∀x y:aA,(σ++[x,y])[σ.length]?=some x:=λx y=>Ce
   have j1:∀x y:aA,(σ++[x,y])[σ.length+1]?=some y:=λx y=>Ce
   have q2:(i:Int)<(r.length:Int):=Cd;have hE:=λfl σ=>oC (a:=Em.div) (hl.2 a (ha▸yAm hi)) (hr.2 b (hb▸yAm hir)) fl σ
   by_cases hab:a=b
   rotate_left
   .rw[yBc hab,yAY]at hs;rw[yBc hab]at hE;simp only[nJ,bC]at hE;exact yj
   .rw[yAX hab,yBq]at hs;rw[yAX hab]at hE;simp only[nJ,bC]at hE;exact ck
  .exact yp
 .exact bl
theorem aKY(h0:E 71=none)(h1:E 72=some (fP Em.stop jT))(l r:List cO)(hl:l.length<=1000000/\∀x∈l,jT x)(hr:r.length<=1000000/\∀x∈r,jT x) :
  aI prog E 71 [(oB).aB l,(oB).aB r,.func 72 []] (Em.bool.aB (decide (l=r))):=by
 have hl1:=hl.1;have nS:=hr.1;refine aI.aG 32 h0 func71 (h:=?_)
 by_cases hq:l.length=r.length
 .have dN:(l.length:Int)=(r.length:Int):=by omega
  obtain⟨B,hB⟩:∃B,decide (l=r)=B:=⟨_,rfl⟩;rw[hB];refine aC Bh ?_;refine Wp.dW (λm fr σ=>∃(i:Nat) (σ1:List aA),∃gg:Nat->PD,(i+m=l.length/\decide (l.drop i=r.drop i)=B)/\fr=[(oB).aB l,(oB).aB r,.func 72 [],gg 3,gg 4,gg 5,.bool false,gg 7,gg 8,gg 9,(oB).aB l,gg 11,gg 12,gg 13,gg 14,(oB).aB l,.int .i64 l.length,.int .i64 i,gg 18,gg 19,gg 20,gg 21,gg 22,gg 23,gg 24,gg 25,gg 26,gg 27,gg 28,gg 29,gg 30,gg 31]/\σ=σ1) ?_ (l.length) (by refine⟨0,[],?_⟩;exact rF (⟨Cd,hB⟩) Cg Cg)
  rintro m fr σ ⟨i,σ1,gg,hI,rfl,rfl⟩
  obtain⟨hm,hs⟩:=hI
  by_cases hi:i<l.length
  .have q1:(i:Int)<(l.length:Int):=by omega
   have hir:i<r.length:=Cd;obtain⟨a,ha⟩:=gn (l[i]);obtain⟨b,hb⟩:=gn (r[i]);have eQ:l.drop i=a::l.drop (i+1):=Cp;have hc2:r.drop i=b::r.drop (i+1):=Dn;rw[eQ,hc2,tF]at hs;have j0:∀x y:aA,(σ++[x,y])[σ.length]?=some x:=λx y=>Ce
   have j1:∀x y:aA,(σ++[x,y])[σ.length+1]?=some y:=λx y=>Ce
   have q2:(i:Int)<(r.length:Int):=Cd;have hE:=λfl σ=>oC (a:=Em.stop) (hl.2 a (ha▸yAm hi)) (hr.2 b (hb▸yAm hir)) fl σ
   by_cases hab:a=b
   rotate_left
   .rw[yBc hab,yAY]at hs;rw[yBc hab]at hE;simp only[pZ,bC]at hE;exact yj
   .rw[yAX hab,yBq]at hs;rw[yAX hab]at hE;simp only[pZ,bC]at hE;exact ck
  .exact yp
 .exact bl
theorem aKU(h0:E 106=none)(h1:E 107=some (fP Em.fB wH))(l r:List jE)(hl:l.length<=1000000/\∀x∈l,wH x)(hr:r.length<=1000000/\∀x∈r,wH x) :
  aI prog E 106 [(oP).aB l,(oP).aB r,.func 107 []] (Em.bool.aB (decide (l=r))):=by
 have hl1:=hl.1;have nS:=hr.1;refine aI.aG 32 h0 func106 (h:=?_)
 by_cases hq:l.length=r.length
 .have dN:(l.length:Int)=(r.length:Int):=by omega
  obtain⟨B,hB⟩:∃B,decide (l=r)=B:=⟨_,rfl⟩;rw[hB];refine aC Bh ?_;refine Wp.dW (λm fr σ=>∃(i:Nat) (σ1:List aA),∃gg:Nat->PD,(i+m=l.length/\decide (l.drop i=r.drop i)=B)/\fr=[(oP).aB l,(oP).aB r,.func 107 [],gg 3,gg 4,gg 5,.bool false,gg 7,gg 8,gg 9,(oP).aB l,gg 11,gg 12,gg 13,gg 14,(oP).aB l,.int .i64 l.length,.int .i64 i,gg 18,gg 19,gg 20,gg 21,gg 22,gg 23,gg 24,gg 25,gg 26,gg 27,gg 28,gg 29,gg 30,gg 31]/\σ=σ1) ?_ (l.length) (by refine⟨0,[],?_⟩;exact rF (⟨Cd,hB⟩) Cg Cg)
  rintro m fr σ ⟨i,σ1,gg,hI,rfl,rfl⟩
  obtain⟨hm,hs⟩:=hI
  by_cases hi:i<l.length
  .have q1:(i:Int)<(l.length:Int):=by omega
   have hir:i<r.length:=Cd;obtain⟨a,ha⟩:=gn (l[i]);obtain⟨b,hb⟩:=gn (r[i]);have eQ:l.drop i=a::l.drop (i+1):=Cp;have hc2:r.drop i=b::r.drop (i+1):=Dn;rw[eQ,hc2,tF]at hs;have j0:∀x y:aA,(σ++[x,y])[σ.length]?=some x:=λx y=>Ce
   have j1:∀x y:aA,(σ++[x,y])[σ.length+1]?=some y:=λx y=>Ce
   have q2:(i:Int)<(r.length:Int):=Cd;have hE:=λfl σ=>oC (a:=Em.fB) (hl.2 a (ha▸yAm hi)) (hr.2 b (hb▸yAm hir)) fl σ
   by_cases hab:a=b
   rotate_left
   .rw[yBc hab,yAY]at hs;rw[yBc hab]at hE;simp only[JX,bC]at hE;exact yj
   .rw[yAX hab,yBq]at hs;rw[yAX hab]at hE;simp only[JX,bC]at hE;exact ck
  .exact yp
 .exact bl
end
section
variable{E:aE}(hU:aJ E)
include hU
theorem aKO(h0:E 33=none)(h1:E 70=some (fP gJ JY))(a b:bP)(hx:gU a)(hy:gU b):aI prog E 33 [Em.aN.aB a,Em.aN.aB b] (Em.bool.aB (decide (a=b))):=by
 obtain⟨a0,a1,a2,a3,a4,a5⟩:=a;obtain⟨b0,b1,b2,b3,b4,b5⟩:=b;simp only[oA,bC];refine aI.aG 38 h0 func33 (h:=?_)
 by_cases e0:a0=b0
 rotate_left
 .have f0:(a0==b0)=false:=by simpa using e0
  refine aC (A3 h1 @e0 @f0) ?_;exact vf
 by_cases e1:a1=b1
 rotate_left
 .have f1:(a1==b1)=false:=by simpa using e1
  refine aC (A4 h1 @e0 e1 @f1) ?_;exact vh
 by_cases e2:a2=b2
 rotate_left
 .refine aC (A4 h1 @e0 e1 e2) ?_;exact vj
 by_cases e3:a3=b3
 rotate_left
 .refine aC (A5 h1 @e0 e1 e2 e3) ?_;exact vl
 by_cases e4:a4=b4
 rotate_left
 .refine aC (A6 h1 @e0 e1 e2 e3 e4) ?_;exact vm
 have l5:=λfl σ=>oC (a:=gJ) (R:=JY) (x:=a5) (y:=b5) (hx) (hy) fl σ
 simp only[bC]at l5;obtain⟨B5,hB5⟩:∃B,decide (a5=b5)=B:=⟨_,rfl⟩;rw[hB5]at l5;refine aC (A7 h1 @e0 e1 e2 e3 e4 l5) ?_;simp(disch:=first|omega|(simp;done)|(simp;omega)) [yAu,bP.mk.injEq,e0,e1,e2,e3,e4,hB5]<;>try rfl
theorem aKS(h0:E 107=none)(h1:E 108=some (fP gK yZ))(a b:jE)(hx:wH a)(hy:wH b):aI prog E 107 [Em.fB.aB a,Em.fB.aB b] (Em.bool.aB (decide (a=b))):=by
 obtain⟨a0,a1,a2⟩:=a;obtain⟨b0,b1,b2⟩:=b;simp only[JX,bC];refine aI.aG 24 h0 func107 (h:=?_)
 by_cases e0:a0=b0
 rotate_left
 .refine aC (A2 h1 @e0) ?_;simp(disch:=first|omega|(simp;done)|(simp;omega)) [yAu,jE.mk.injEq,e0]<;>try rfl
 by_cases e1:a1=b1
 rotate_left
 .refine aC (A3 h1 @e0 e1) ?_;simp(disch:=first|omega|(simp;done)|(simp;omega)) [yAu,jE.mk.injEq,e1]<;>try rfl
 have l2:=λfl σ=>oC (a:=gK) (R:=yZ) (x:=a2) (y:=b2) (hx) (hy) fl σ
 simp only[bC]at l2;obtain⟨B2,cM⟩:∃B,decide (a2=b2)=B:=⟨_,rfl⟩;rw[cM]at l2;refine aC (A4 h1 @e0 e1 l2) ?_;simp(disch:=first|omega|(simp;done)|(simp;omega)) [yAu,jE.mk.injEq,e0,e1,cM]<;>try rfl
theorem aKW(h0:E 72=none)(h1:E 106=some (xL oP N2 107))(a b:cO)(hx:jT a)(hy:jT b):aI prog E 72 [Em.stop.aB a,Em.stop.aB b] (Em.bool.aB (decide (a=b))):=by
 obtain⟨a0,a1,a2,a3⟩:=a;obtain⟨b0,b1,b2,b3⟩:=b;simp only[pZ,bC];refine aI.aG 24 h0 func72 (h:=?_)
 by_cases e0:a0=b0
 rotate_left
 .have f0:(a0==b0)=false:=by simpa using e0
  refine aC (A4 h1 @uS @e0 @f0) ?_;exact vn
 by_cases e1:a1=b1
 rotate_left
 .refine aC (A4 h1 @uS @e0 e1) ?_;exact vo
 by_cases e2:a2=b2
 rotate_left
 .refine aC (A5 h1 @uS @e0 e1 e2) ?_;exact vp
 have l3:=λfl σ=>oC (a:=oP) (R:=N2) (x:=a3) (y:=b3) (hx) (hy) fl σ
 simp only[bC]at l3;obtain⟨B3,EE⟩:∃B,decide (a3=b3)=B:=⟨_,rfl⟩;rw[EE]at l3;refine aC (A6 h1 @uS @e0 e1 e2 l3) ?_;simp(disch:=first|omega|(simp;done)|(simp;omega)) [yAu,cO.mk.injEq,e0,e1,e2,EE]<;>try rfl
theorem aK0(h0:E 35=none)(h1:E 71=some (xL oB N3 72))(a b:bO)(hx:gV a)(hy:gV b):aI prog E 35 [Em.div.aB a,Em.div.aB b] (Em.bool.aB (decide (a=b))):=by
 obtain⟨a0,a1,a2,a3,a4⟩:=a;obtain⟨b0,b1,b2,b3,b4⟩:=b;simp only[nJ,bC];refine aI.aG 31 h0 func35 (h:=?_)
 by_cases e0:a0=b0
 rotate_left
 .have f0:(a0==b0)=false:=by simpa using e0
  refine aC (A4 h1 @uS @e0 @f0) ?_;exact vr
 by_cases e1:a1=b1
 rotate_left
 .have f1:(a1==b1)=false:=by simpa using e1
  refine aC (A5 h1 @uS @e0 e1 @f1) ?_;exact vu
 by_cases e2:a2=b2
 rotate_left
 .refine aC (A5 h1 @uS @e0 e1 e2) ?_;exact vw
 by_cases e3:a3=b3
 rotate_left
 .refine aC (A6 h1 @uS @e0 e1 e2 e3) ?_;exact vz
 have l4:=λfl σ=>oC (a:=oB) (R:=N3) (x:=a4) (y:=b4) (hx) (hy) fl σ
 simp only[bC]at l4;obtain⟨B4,hB4⟩:∃B,decide (a4=b4)=B:=⟨_,rfl⟩;rw[hB4]at l4;refine aC (A7 h1 @uS @e0 e1 e2 e3 l4) ?_;simp(disch:=first|omega|(simp;done)|(simp;omega)) [yAu,bO.mk.injEq,e0,e1,e2,e3,hB4]<;>try rfl
theorem aK4(h0:E 14=none)(h1:E 32=some (xL aQ N1 33))(h2:E 34=some (xL tD N4 35))(h3:E 36=some (fP qN N0))(a b:aY)(hx:fX a)(hy:fX b):aI prog E 14 [Em.bY.aB a,Em.bY.aB b] (Em.bool.aB (decide (a=b))):=by
 obtain⟨a0,a1,a2,a3⟩:=a;obtain⟨b0,b1,b2,b3⟩:=b;simp only[fE,bC];refine aI.aG 31 h0 func14 (h:=?_)
 by_cases e0:a0=b0
 rotate_left
 .have f0:(a0==b0)=false:=by simpa using e0
  refine aC (A6 h1 h2 h3 @uS @e0 @f0) ?_;exact wg
 have l1:=λfl σ=>oC (a:=aQ) (R:=N1) (x:=a1) (y:=b1) (hx.1) (hy.1) fl σ
 simp only[bC]at l1;obtain⟨B1,JP⟩:∃B,decide (a1=b1)=B:=⟨_,rfl⟩;rw[JP]at l1;cases B1 with
 |false=>
  have e1:¬a1=b1:=by simpa using JP
  refine aC (A6 h1 h2 h3 @uS @e0 l1) ?_;simp(disch:=first|omega|(simp;done)|(simp;omega)) [yAu,aY.mk.injEq,e1]<;>try rfl
 |true=>
 have e1:a1=b1:=by simpa using JP
 have l2:=λfl σ=>oC (a:=tD) (R:=N4) (x:=a2) (y:=b2) (hx.2.1) (hy.2.1) fl σ
 simp only[bC]at l2;obtain⟨B2,cM⟩:∃B,decide (a2=b2)=B:=⟨_,rfl⟩;rw[cM]at l2;cases B2 with
 |false=>
  have e2:¬a2=b2:=by simpa using cM
  refine aC (A7 h1 h2 h3 @uS @e0 l1 l2) ?_;simp(disch:=first|omega|(simp;done)|(simp;omega)) [yAu,aY.mk.injEq,e2]<;>try rfl
 |true=>
 have e2:a2=b2:=by simpa using cM
 have l3:=λfl σ=>oC (a:=qN) (R:=N0) (x:=a3) (y:=b3) (hx.2.2) (hy.2.2) fl σ
 simp only[bC]at l3;obtain⟨B3,EE⟩:∃B,decide (a3=b3)=B:=⟨_,rfl⟩;rw[EE]at l3;refine aC (A8 h1 h2 h3 @uS @e0 l1 l2 l3) ?_;simp(disch:=first|omega|(simp;done)|(simp;omega)) [yAu,aY.mk.injEq,e0,e1,e2,EE]<;>try rfl
end
section
variable{E:aE}(hU:aJ E)
include hU
theorem aL8(h0:E 88=none)(l r:List dQ)(hl:l.length<=1000000)(hr:r.length<=1000000):aI prog E 88 [gK.aB l,gK.aB r] (Em.bool.aB (decide (l=r))):=by
 refine aI.aG 26 h0 func88 (h:=?_)
 by_cases hq:l.length=r.length
 .have dN:(l.length:Int)=(r.length:Int):=by omega
  obtain⟨B,hB⟩:∃B,decide (l=r)=B:=⟨_,rfl⟩;rw[hB];refine aC Bh ?_;refine Wp.dW (λm fr σ=>∃(i:Nat),∃gg:Nat->PD,(i+m=l.length/\decide (l.drop i=r.drop i)=B)/\fr=[gK.aB l,gK.aB r,gg 2,gg 3,.bool false,.int .i64 i,gg 6,gg 7,gg 8,gg 9,gg 10,gg 11,gg 12,gg 13,gg 14,gg 15,gg 16,gg 17,gg 18,gg 19,gg 20,gg 21,gg 22,gg 23,gg 24,gg 25]/\σ=[]) ?_ (l.length) (by refine⟨0,?_⟩;exact rF (⟨Cd,hB⟩) Cg Cg);exact yh
 .exact bl
theorem aMa(h0:E 37=none)(a b:bP)(hx:gU a)(hy:gU b):aI prog E 37 [Em.aN.aB a,Em.aN.aB b] (Em.bool.aB (decide (a=b))):=by
 obtain⟨a0,a1,a2,a3,a4,a5⟩:=a;obtain⟨b0,b1,b2,b3,b4,b5⟩:=b;simp only[oA,bC];refine aI.aG 59 h0 func37 (h:=?_)
 by_cases e0:a0=b0
 rotate_left
 .have f0:(a0==b0)=false:=by simpa using e0
  refine aC (A2 @e0 @f0) ?_;exact vf
 by_cases e1:a1=b1
 rotate_left
 .have f1:(a1==b1)=false:=by simpa using e1
  refine aC (A3 @e0 e1 @f1) ?_;exact vh
 by_cases e2:a2=b2
 rotate_left
 .refine aC (A3 @e0 e1 e2) ?_;exact vj
 by_cases e3:a3=b3
 rotate_left
 .refine aC (A4 @e0 e1 e2 e3) ?_;exact vl
 by_cases e4:a4=b4
 rotate_left
 .refine aC (A5 @e0 e1 e2 e3 e4) ?_;exact vm
 by_cases hq:a5.length=b5.length
 rotate_left
 .have dN:¬(a5.length:Int)=(b5.length:Int):=by omega
  have hF:=tH hq;have hne:¬a5=b5:=by simpa using hF
  refine aC (A7 @e0 e1 e2 e3 e4 @hq dN) ?_;simp(disch:=first|omega|(simp;done)|(simp;omega)) [yAu,bP.mk.injEq,hne]<;>try rfl
 have dN:(a5.length:Int)=(b5.length:Int):=Cd;have hx1:a5.length<=1000000:=hx;obtain⟨B,hB⟩:∃B,decide (a5=b5)=B:=⟨_,rfl⟩;rw[show decide ((⟨a0,a1,a2,a3,a4,a5⟩:bP)=⟨b0,b1,b2,b3,b4,b5⟩)=B by rw[<-hB];simp[e0,e1,e2,e3,e4]];refine aC (A7 @e0 e1 e2 e3 e4 @hq dN) ?_;refine Wp.dW (λm fr σ=>∃(i:Nat),∃gg:Nat->PD,(i+m=a5.length/\decide (a5.drop i=b5.drop i)=B)/\fr=[gg 0,gg 1,.ptr 0 0,.ptr 1 0,.bool false,.int .i64 i,gg 6,gg 7,gg 8,gg 9,gg 10,gg 11,gg 12,gg 13,gg 14,gg 15,gg 16,gg 17,gg 18,gg 19,gg 20,gg 21,gg 22,gg 23,gg 24,gg 25,gg 26,gg 27,gg 28,gg 29,gg 30,gg 31,gg 32,gg 33,gg 34,gg 35,gg 36,gg 37,gg 38,gg 39,gg 40,gg 41,gg 42,gg 43,gg 44,gg 45,gg 46,gg 47,gg 48,gg 49,gg 50,gg 51,gg 52,gg 53,gg 54,gg 55,gg 56,gg 57,gg 58]/\σ=[.box (.agg [.str a0,.str a1,.int .i64 a2,.int .i64 a3,.int .i64 a4,.slice (sz 1 a5) (a5.map i64.aB) .any]),.box (.agg [.str b0,.str b1,.int .i64 b2,.int .i64 b3,.int .i64 b4,.slice (sz 1 b5) (b5.map i64.aB) .any])]) ?_ (a5.length) (by refine⟨0,?_⟩;exact rF (⟨Cd,hB⟩) Cg Cg)
 rintro m fr σ ⟨i,gg,hI,rfl,rfl⟩
 obtain⟨hm,hs⟩:=hI
 by_cases hi:i<a5.length
 .have q1:(i:Int)<(a5.length:Int):=by omega
  have hir:i<b5.length:=Cd;have q2:(i:Int)<(b5.length:Int):=Cd;obtain⟨a,ha⟩:=gn (a5[i]);obtain⟨b,hb⟩:=gn (b5[i]);have eQ:a5.drop i=a::a5.drop (i+1):=Cp;have hc2:b5.drop i=b::b5.drop (i+1):=Dn;exact zj
 .have q1:¬(i:Int)<(a5.length:Int):=by omega
  exact yo
end
section
variable{E:aE}(hU:aJ E)
include hU
theorem aMc(h0:E 57=none)(h1:E 88=some (fP gK yZ))(a b:cO)(hx:jT a)(hy:jT b):aI prog E 57 [Em.stop.aB a,Em.stop.aB b] (Em.bool.aB (decide (a=b))):=by
 obtain⟨a0,a1,a2,a3⟩:=a;obtain⟨b0,b1,b2,b3⟩:=b;simp only[pZ,bC];refine aI.aG 66 h0 func57 (h:=?_)
 by_cases e0:a0=b0
 rotate_left
 .have f0:(a0==b0)=false:=by simpa using e0
  refine aC (A2 @e0 @f0) ?_;exact vn
 by_cases e1:a1=b1
 rotate_left
 .refine aC (A2 @e0 e1) ?_;exact vo
 by_cases e2:a2=b2
 rotate_left
 .refine aC (A3 @e0 e1 e2) ?_;exact vp
 by_cases hq:a3.length=b3.length
 rotate_left
 .have dN:¬(a3.length:Int)=(b3.length:Int):=by omega
  have hF:=tH hq;have hne:¬a3=b3:=by simpa using hF
  refine aC (A5 @e0 e1 e2 @hq dN) ?_;simp(disch:=first|omega|(simp;done)|(simp;omega)) [yAu,cO.mk.injEq,hne]<;>try rfl
 have dN:(a3.length:Int)=(b3.length:Int):=Cd;obtain⟨B,hB⟩:∃B,decide (a3=b3)=B:=⟨_,rfl⟩;rw[show decide ((⟨a0,a1,a2,a3⟩:cO)=⟨b0,b1,b2,b3⟩)=B by rw[<-hB];simp[e0,e1,e2]];have hx1:a3.length<=1000000:=hx.1;refine aC (A5 @e0 e1 e2 @hq dN) ?_;refine Wp.dW (λm fr σ=>∃(i:Nat) (σ1:List aA),∃gg:Nat->PD,(i+m=a3.length/\decide (a3.drop i=b3.drop i)=B)/\fr=gg 0::gg 1::.ptr 0 0::.ptr 1 0::.bool false::.int .i64 i::gg 6::gg 7::gg 8::gg 9::gg 10::gg 11::gg 12::gg 13::gg 14::gg 15::gg 16::gg 17::gg 18::gg 19::gg 20::gg 21::gg 22::gg 23::gg 24::gg 25::gg 26::gg 27::gg 28::gg 29::gg 30::gg 31::gg 32::gg 33::gg 34::gg 35::gg 36::gg 37::gg 38::gg 39::gg 40::gg 41::gg 42::gg 43::gg 44::gg 45::gg 46::gg 47::gg 48::gg 49::gg 50::gg 51::gg 52::gg 53::gg 54::gg 55::gg 56::gg 57::gg 58::gg 59::gg 60::gg 61::gg 62::gg 63::gg 64::gg 65::[]/\σ=.box (.agg [.str a0,.int .i64 a1,.int .i64 a2,.slice (sz 3 a3) (a3.map Em.fB.aB) .any])::.box (.agg [.str b0,.int .i64 b1,.int .i64 b2,.slice (sz 3 b3) (b3.map Em.fB.aB) .any])::σ1) ?_ (a3.length) (by refine⟨0,[],?_⟩;exact rF (⟨Cd,hB⟩) Cg Cg)
 rintro m fr σ ⟨i,σ1,gg,hI,rfl,rfl⟩
 obtain⟨hm,hs⟩:=hI
 by_cases hi:i<a3.length
 .have q1:(i:Int)<(a3.length:Int):=by omega
  have hir:i<b3.length:=Cd;have q2:(i:Int)<(b3.length:Int):=Cd;obtain⟨a,ha⟩:=gn (a3[i]);obtain⟨b,hb⟩:=gn (b3[i]);have eQ:a3.drop i=a::a3.drop (i+1):=Cp;have hc2:b3.drop i=b::b3.drop (i+1):=Dn;rw[eQ,hc2,tF]at hs;have ka:wH a:=hx.2 a (ha▸yAm hi);have kb:wH b:=hy.2 b (hb▸yAm hir);obtain⟨x0,x1,x2⟩:=a;obtain⟨y0,y1,y2⟩:=b;have hE:=λfl σ=>oC (a:=gK) (R:=yZ) (x:=x2) (y:=y2) ka kb fl σ
  simp only[bC]at hE;have j0:∀x y:aA,(σ1++[x,y])[σ1.length]?=some x:=λx y=>Ce
  have j1:∀x y:aA,(σ1++[x,y])[σ1.length+1]?=some y:=λx y=>Ce
  have hseg:∀D,decide (x2=y2)=D->decide ((⟨x0,x1,x2⟩:jE)=⟨y0,y1,y2⟩)=(decide (x0=y0)&&(decide (x1=y1)&&D)):=λD hD=>by
   rw[<-hD]
   by_cases e0:x0=y0<;>by_cases e1:x1=y1<;>by_cases e2:x2=y2<;>simp[e0,e1,e2]
  obtain⟨D,hD⟩:∃D,decide (x2=y2)=D:=⟨_,rfl⟩;rw[hseg D hD]at hs;rw[hD]at hE;refine aC (A6 q1 q2 hi hir ha @hb) ?_
  first|apply Wp.aO2 Cm [(41,6),(44,6)] Cj|apply tu Cm [(41,6),(44,6)] Cj
  refine oQ (A6 q1 q2 hi hir ha @hb) ?_;apply SQ.nil;refine⟨(by simp[MT,gS]<;>omega),?_⟩
  by_cases e0:x0=y0
  rotate_left
  .rw[yBc e0,yAY,yAY]at hs;have cM:B=false:=hs.symm
   first|refine Wp.seq ?_|skip
   apply Wp.oE;refine nL (A3 j0 j1 @e0) ?_;exact Ar
  rw[yAX e0,yBq]at hs
  by_cases e1:x1=y1
  rotate_left
  .rw[yBc e1,yAY,yAY]at hs;have cM:B=false:=hs.symm
   first|refine Wp.seq ?_|skip
   apply Wp.oE;refine nL (A4 j0 j1 @e0 e1) ?_;exact Ar
  rw[yAX e1,yBq]at hs;cases D with
  |false=>
   have cM:B=false:=hs.symm
   first|refine Wp.seq ?_|skip
   apply Wp.oE;refine nL (A6 j0 j1 @e0 e1 h1 hE) ?_;exact Ar
  |true=>
   rw[yBq]at hs
   first|refine Wp.seq ?_|skip
   apply Wp.oE;refine nL (A6 j0 j1 @e0 e1 h1 hE) ?_;apply SQ.nil;refine aC trivial ?_;refine bU.normal (m-1) Cd ⟨i+1,_,cL (⟨Cd,hs⟩)⟩
 .have q1:¬(i:Int)<(a3.length:Int):=by omega
  exact yo
theorem aMe(h0:E 38=none)(h1:E 57=some (fP Em.stop jT))(a b:bO)(hx:gV a)(hy:gV b):aI prog E 38 [Em.div.aB a,Em.div.aB b] (Em.bool.aB (decide (a=b))):=by
 obtain⟨a0,a1,a2,a3,a4⟩:=a;obtain⟨b0,b1,b2,b3,b4⟩:=b;simp only[nJ,bC];refine aI.aG 53 h0 func38 (h:=?_)
 by_cases e0:a0=b0
 rotate_left
 .have f0:(a0==b0)=false:=by simpa using e0
  refine aC (A2 @e0 @f0) ?_;exact vr
 by_cases e1:a1=b1
 rotate_left
 .have f1:(a1==b1)=false:=by simpa using e1
  refine aC (A3 @e0 e1 @f1) ?_;exact vu
 by_cases e2:a2=b2
 rotate_left
 .refine aC (A3 @e0 e1 e2) ?_;exact vw
 by_cases e3:a3=b3
 rotate_left
 .refine aC (A4 @e0 e1 e2 e3) ?_;exact vz
 by_cases hq:a4.length=b4.length
 rotate_left
 .have dN:¬(a4.length:Int)=(b4.length:Int):=by omega
  have hF:=tH hq;have hne:¬a4=b4:=by simpa using hF
  refine aC (A6 @e0 e1 e2 e3 @hq dN) ?_;simp(disch:=first|omega|(simp;done)|(simp;omega)) [yAu,bO.mk.injEq,hne]<;>try rfl
 have dN:(a4.length:Int)=(b4.length:Int):=Cd;obtain⟨B,hB⟩:∃B,decide (a4=b4)=B:=⟨_,rfl⟩;rw[show decide ((⟨a0,a1,a2,a3,a4⟩:bO)=⟨b0,b1,b2,b3,b4⟩)=B by rw[<-hB];simp[e0,e1,e2,e3]];have hx1:a4.length<=1000000:=hx.1;refine aC (A6 @e0 e1 e2 e3 @hq dN) ?_;refine Wp.dW (λm fr σ=>∃(i:Nat),∃gg:Nat->PD,(i+m=a4.length/\decide (a4.drop i=b4.drop i)=B)/\fr=[gg 0,gg 1,.ptr 0 0,.ptr 1 0,.bool false,.int .i64 i,gg 6,gg 7,gg 8,gg 9,gg 10,gg 11,gg 12,gg 13,gg 14,gg 15,gg 16,gg 17,gg 18,gg 19,gg 20,gg 21,gg 22,gg 23,gg 24,gg 25,gg 26,gg 27,gg 28,gg 29,gg 30,gg 31,gg 32,gg 33,gg 34,gg 35,gg 36,gg 37,gg 38,gg 39,gg 40,gg 41,gg 42,gg 43,gg 44,gg 45,gg 46,gg 47,gg 48,gg 49,gg 50,gg 51,gg 52]/\σ=[.box (.agg [.str a0,.bool a1,.int .i64 a2,.int .i64 a3,.slice (sz 4 a4) (a4.map Em.stop.aB) .any]),.box (.agg [.str b0,.bool b1,.int .i64 b2,.int .i64 b3,.slice (sz 4 b4) (b4.map Em.stop.aB) .any])]) ?_ (a4.length) (by refine⟨0,?_⟩;exact rF (⟨Cd,hB⟩) Cg Cg)
 rintro m fr σ ⟨i,gg,hI,rfl,rfl⟩
 obtain⟨hm,hs⟩:=hI
 by_cases hi:i<a4.length
 .have q1:(i:Int)<(a4.length:Int):=by omega
  have hir:i<b4.length:=Cd;have q2:(i:Int)<(b4.length:Int):=Cd;obtain⟨a,ha⟩:=gn (a4[i]);obtain⟨b,hb⟩:=gn (b4[i]);have eQ:a4.drop i=a::a4.drop (i+1):=Cp;have hc2:b4.drop i=b::b4.drop (i+1):=Dn;rw[eQ,hc2,tF]at hs;have ka:jT a:=hx.2 a (ha▸yAm hi);have kb:jT b:=hy.2 b (hb▸yAm hir);have hE:=λfl σ=>oC (a:=Em.stop) ka kb fl σ
  simp only[pZ,bC]at hE
  by_cases e:a=b
  .exact Ax
  .rw[yBc e,yAY]at hs;rw[yBc e]at hE;have cM:B=false:=hs.symm;refine aC (A8 q1 q2 hi hir ha @hb h1 hE) ?_;exact aq
 .have q1:¬(i:Int)<(a4.length:Int):=by omega
  exact yo
theorem aMg(h0:E 15=none)(h1:E 37=some (fP Em.aN gU))(h2:E 38=some (fP Em.div gV))(a b:aY)(hx:fX a)(hy:fX b) :
  aI prog E 15 [Em.bY.aB a,Em.bY.aB b] (Em.bool.aB (decide (a=b))):=by
 obtain⟨a0,a1,a2,a3⟩:=a;obtain⟨b0,b1,b2,b3⟩:=b;simp only[fE,bC];refine aI.aG 96 h0 func15 (h:=?_)
 by_cases e0:a0=b0
 rotate_left
 .have f0:(a0==b0)=false:=by simpa using e0
  refine aC (A2 @e0 @f0) ?_;exact wg
 by_cases l1:a1.length=b1.length
 rotate_left
 .have dN:¬(a1.length:Int)=(b1.length:Int):=by omega
  have hne:¬a1=b1:=by simpa using tH l1
  refine aC (A3 @e0 l1 dN) ?_;exact ku
 by_cases l2:a2.length=b2.length
 rotate_left
 .have dN:¬(a2.length:Int)=(b2.length:Int):=by omega
  have hne:¬a2=b2:=by simpa using tH l2
  refine aC (A4 @e0 l1 l2 dN) ?_;exact ku
 by_cases l3:a3.length=b3.length
 rotate_left
 .have dN:¬(a3.length:Int)=(b3.length:Int):=by omega
  have hne:¬a3=b3:=by simpa using tH l3
  refine aC (A5 @e0 l1 l2 l3 dN) ?_;exact ku
 obtain⟨B1,JP⟩:∃B,decide (a1=b1)=B:=⟨_,rfl⟩;obtain⟨B2,cM⟩:∃B,decide (a2=b2)=B:=⟨_,rfl⟩;obtain⟨B3,EE⟩:∃B,decide (a3=b3)=B:=⟨_,rfl⟩;rw[show decide ((⟨a0,a1,a2,a3⟩:aY)=⟨b0,b1,b2,b3⟩)=(B1&&(B2&&B3)) by
  rw[<-JP,<-cM,<-EE]
  by_cases f1:a1=b1<;>by_cases f2:a2=b2<;>by_cases f3:a3=b3<;>simp[e0,f1,f2,f3]]
 have hx1:a1.length<=1000000:=hx.1.1;have hx2:a2.length<=1000000:=hx.2.1.1;have hx3:a3.length<=1000000:=hx.2.2;refine aC (A4 @e0 l1 l2 l3) ?_;refine Wp.dW (λm fr σ=>∃(i:Nat),∃gg:Nat->PD,(i+m=a1.length/\decide (a1.drop i=b1.drop i)=B1)/\fr=gg 0::gg 1::.ptr 0 0::.ptr 1 0::.bool false::.int .i64 i::gg 6::gg 7::gg 8::gg 9::gg 10::gg 11::gg 12::gg 13::gg 14::gg 15::gg 16::gg 17::gg 18::gg 19::gg 20::gg 21::gg 22::gg 23::gg 24::gg 25::gg 26::gg 27::gg 28::gg 29::gg 30::gg 31::gg 32::gg 33::gg 34::gg 35::gg 36::gg 37::gg 38::gg 39::gg 40::gg 41::gg 42::gg 43::gg 44::gg 45::gg 46::gg 47::gg 48::gg 49::gg 50::gg 51::gg 52::gg 53::gg 54::gg 55::gg 56::gg 57::gg 58::gg 59::gg 60::gg 61::gg 62::gg 63::gg 64::gg 65::gg 66::gg 67::gg 68::gg 69::gg 70::gg 71::gg 72::gg 73::gg 74::gg 75::gg 76::gg 77::gg 78::gg 79::gg 80::gg 81::gg 82::gg 83::gg 84::gg 85::gg 86::gg 87::gg 88::gg 89::gg 90::gg 91::gg 92::gg 93::gg 94::gg 95::[]/\σ=[.box (.agg [.str a0,.slice (sz 6 a1) (a1.map Em.aN.aB) .any,.slice (sz 5 a2) (a2.map Em.div.aB) .any,.slice (sz 5 a3) (a3.map Em.bF.aB) .any]),.box (.agg [.str b0,.slice (sz 6 b1) (b1.map Em.aN.aB) .any,.slice (sz 5 b2) (b2.map Em.div.aB) .any,.slice (sz 5 b3) (b3.map Em.bF.aB) .any])]) ?_ (a1.length) (by refine⟨0,?_⟩;exact fU (⟨Cd,JP⟩) @l1)
 rintro m fr σ ⟨i,gg,hI,rfl,rfl⟩
 obtain⟨hm,hs⟩:=hI
 by_cases hi:i<a1.length
 .have q1:(i:Int)<(a1.length:Int):=by omega
  have hir:i<b1.length:=Cd;have q2:(i:Int)<(b1.length:Int):=Cd;obtain⟨a,ha⟩:=gn (a1[i]);obtain⟨b,hb⟩:=gn (b1[i]);have eQ:a1.drop i=a::a1.drop (i+1):=Cp;have hc2:b1.drop i=b::b1.drop (i+1):=Dn;rw[eQ,hc2,tF]at hs;have ka:gU a:=hx.1.2 a (ha▸yAm hi);have kb:gU b:=hy.1.2 b (hb▸yAm hir);have hE:=λfl σ=>oC (a:=Em.aN) ka kb fl σ
  simp only[oA,bC]at hE
  by_cases e:a=b
  .exact Ax
  .rw[yBc e,yAY]at hs;rw[yBc e]at hE;rw[<-hs];refine aC (A8 q1 q2 hi hir ha @hb h1 hE) ?_;exact ag
 .have q1:¬(i:Int)<(a1.length:Int):=by omega
  rw[yAs Cd,yAs Cd]at hs;have NK:B1=true:=hs.symm;subst NK;refine aC q1 ?_;refine Wp.dW (λm fr σ=>∃(i:Nat),∃gg:Nat->PD,(i+m=a2.length/\decide (a2.drop i=b2.drop i)=B2)/\fr=gg 0::gg 1::.ptr 0 0::.ptr 1 0::.bool false::gg 5::.int .i64 i::gg 7::gg 8::gg 9::gg 10::gg 11::gg 12::gg 13::gg 14::gg 15::gg 16::gg 17::gg 18::gg 19::gg 20::gg 21::gg 22::gg 23::gg 24::gg 25::gg 26::gg 27::gg 28::gg 29::gg 30::gg 31::gg 32::gg 33::gg 34::gg 35::gg 36::gg 37::gg 38::gg 39::gg 40::gg 41::gg 42::gg 43::gg 44::gg 45::gg 46::gg 47::gg 48::gg 49::gg 50::gg 51::gg 52::gg 53::gg 54::gg 55::gg 56::gg 57::gg 58::gg 59::gg 60::gg 61::gg 62::gg 63::gg 64::gg 65::gg 66::gg 67::gg 68::gg 69::gg 70::gg 71::gg 72::gg 73::gg 74::gg 75::gg 76::gg 77::gg 78::gg 79::gg 80::gg 81::gg 82::gg 83::gg 84::gg 85::gg 86::gg 87::gg 88::gg 89::gg 90::gg 91::gg 92::gg 93::gg 94::gg 95::[]/\σ=[.box (.agg [.str a0,.slice (sz 6 a1) (a1.map Em.aN.aB) .any,.slice (sz 5 a2) (a2.map Em.div.aB) .any,.slice (sz 5 a3) (a3.map Em.bF.aB) .any]),.box (.agg [.str b0,.slice (sz 6 b1) (b1.map Em.aN.aB) .any,.slice (sz 5 b2) (b2.map Em.div.aB) .any,.slice (sz 5 b3) (b3.map Em.bF.aB) .any])]) ?_ (a2.length) (by refine⟨0,?_⟩;exact fU (⟨Cd,cM⟩) @l2)
  rintro m fr σ ⟨i,gg,hI,rfl,rfl⟩
  obtain⟨hm,hs⟩:=hI
  by_cases hi:i<a2.length
  .have q1:(i:Int)<(a2.length:Int):=by omega
   have hir:i<b2.length:=Cd;have q2:(i:Int)<(b2.length:Int):=Cd;obtain⟨a,ha⟩:=gn (a2[i]);obtain⟨b,hb⟩:=gn (b2[i]);have eQ:a2.drop i=a::a2.drop (i+1):=Cp;have hc2:b2.drop i=b::b2.drop (i+1):=Dn;rw[eQ,hc2,tF]at hs;have ka:gV a:=hx.2.1.2 a (ha▸yAm hi);have kb:gV b:=hy.2.1.2 b (hb▸yAm hir);have hE:=λfl σ=>oC (a:=Em.div) ka kb fl σ
   simp only[nJ,bC]at hE
   by_cases e:a=b
   .rw[yAX e,yBq]at hs;rw[yAX e]at hE;refine aC (A8 q1 q2 hi hir ha @hb h2 hE) ?_;exact bp
   .rw[yBc e,yAY]at hs;rw[yBc e]at hE;rw[<-hs];refine aC (A8 q1 q2 hi hir ha @hb h2 hE) ?_;exact ag
  .have q1:¬(i:Int)<(a2.length:Int):=by omega
   rw[yAs Cd,yAs Cd]at hs;have NK:B2=true:=hs.symm;subst NK;refine aC q1 ?_;refine Wp.dW (λm fr σ=>∃(i:Nat),∃gg:Nat->PD,(i+m=a3.length/\decide (a3.drop i=b3.drop i)=B3)/\fr=gg 0::gg 1::.ptr 0 0::.ptr 1 0::.bool false::gg 5::gg 6::.int .i64 i::gg 8::gg 9::gg 10::gg 11::gg 12::gg 13::gg 14::gg 15::gg 16::gg 17::gg 18::gg 19::gg 20::gg 21::gg 22::gg 23::gg 24::gg 25::gg 26::gg 27::gg 28::gg 29::gg 30::gg 31::gg 32::gg 33::gg 34::gg 35::gg 36::gg 37::gg 38::gg 39::gg 40::gg 41::gg 42::gg 43::gg 44::gg 45::gg 46::gg 47::gg 48::gg 49::gg 50::gg 51::gg 52::gg 53::gg 54::gg 55::gg 56::gg 57::gg 58::gg 59::gg 60::gg 61::gg 62::gg 63::gg 64::gg 65::gg 66::gg 67::gg 68::gg 69::gg 70::gg 71::gg 72::gg 73::gg 74::gg 75::gg 76::gg 77::gg 78::gg 79::gg 80::gg 81::gg 82::gg 83::gg 84::gg 85::gg 86::gg 87::gg 88::gg 89::gg 90::gg 91::gg 92::gg 93::gg 94::gg 95::[]/\σ=[.box (.agg [.str a0,.slice (sz 6 a1) (a1.map Em.aN.aB) .any,.slice (sz 5 a2) (a2.map Em.div.aB) .any,.slice (sz 5 a3) (a3.map Em.bF.aB) .any]),.box (.agg [.str b0,.slice (sz 6 b1) (b1.map Em.aN.aB) .any,.slice (sz 5 b2) (b2.map Em.div.aB) .any,.slice (sz 5 b3) (b3.map Em.bF.aB) .any])]) ?_ (a3.length) (by refine⟨0,?_⟩;exact fU (⟨Cd,EE⟩) @l3)
   rintro m fr σ ⟨i,gg,hI,rfl,rfl⟩
   obtain⟨hm,hs⟩:=hI
   by_cases hi:i<a3.length
   .have q1:(i:Int)<(a3.length:Int):=by omega
    have hir:i<b3.length:=Cd;have q2:(i:Int)<(b3.length:Int):=Cd;obtain⟨a,ha⟩:=gn (a3[i]);obtain⟨b,hb⟩:=gn (b3[i]);have eQ:a3.drop i=a::a3.drop (i+1):=Cp;have hc2:b3.drop i=b::b3.drop (i+1):=Dn;rw[eQ,hc2,tF]at hs;obtain⟨c0,c1,c2,c3,c4⟩:=a;obtain⟨d0,d1,d2,d3,d4⟩:=b
    by_cases f0:c0=d0
    rotate_left
    .rw[show decide ((⟨c0,c1,c2,c3,c4⟩:cJ)=⟨d0,d1,d2,d3,d4⟩)=false by simp[f0],yAY]at hs;rw[<-hs];refine aC (A7 q1 q2 hi hir ha @hb @f0) ?_;exact ag
    by_cases f1:c1=d1
    rotate_left
    .rw[show decide ((⟨c0,c1,c2,c3,c4⟩:cJ)=⟨d0,d1,d2,d3,d4⟩)=false by simp[f1],yAY]at hs;rw[<-hs];refine aC (A8 q1 q2 hi hir ha @hb @f0 @f1) ?_;exact ag
    by_cases f2:c2=d2
    rotate_left
    .rw[show decide ((⟨c0,c1,c2,c3,c4⟩:cJ)=⟨d0,d1,d2,d3,d4⟩)=false by simp[f2],yAY]at hs;rw[<-hs];refine aC (A9 q1 q2 hi hir ha @hb @f0 @f1 @f2) ?_;exact ag
    by_cases f3:c3=d3
    rotate_left
    .rw[show decide ((⟨c0,c1,c2,c3,c4⟩:cJ)=⟨d0,d1,d2,d3,d4⟩)=false by simp[f3],yAY]at hs;rw[<-hs];refine aC (A10 q1 q2 hi hir ha @hb @f0 @f1 @f2 @f3) ?_;exact ag
    by_cases f4:c4=d4
    rotate_left
    .rw[show decide ((⟨c0,c1,c2,c3,c4⟩:cJ)=⟨d0,d1,d2,d3,d4⟩)=false by simp[f4],yAY]at hs;rw[<-hs];refine aC (A11 q1 q2 hi hir ha @hb @f0 @f1 @f2 @f3 @f4) ?_;exact ag
    rw[show decide ((⟨c0,c1,c2,c3,c4⟩:cJ)=⟨d0,d1,d2,d3,d4⟩)=true by simp[f0,f1,f2,f3,f4],yBq]at hs;refine aC (A11 q1 q2 hi hir ha @hb @f0 @f1 @f2 @f3 @f4) ?_;exact bp
   .have q1:¬(i:Int)<(a3.length:Int):=by omega
    rw[yAs Cd,yAs Cd]at hs;have NK:B3=true:=hs.symm;subst NK;refine aC q1 ?_;exact ag
end
section
def wA(n d:Int):Int:=if d<=0\/1000000<d\/n < -1000000\/1000000<n\/Nat.gcd n.natAbs d.toNat≠1 then 2 else 0
def s7(n d:Int):Int:=if wA n d≠0 then 2 else if n<=0\/128*d<n then 3 else if 128<d then 4 else 0
def EP(n:Int):Prop:=-9223372036854775808<=n/\n<=9223372036854775807
abbrev EA:Em Int:=Em.int .u64
def P9:Nat->List PD->List aA->Option (PD×List aA):=entry (fF EA EA EA λa b=>eL (0<=a/\a<=1000000/\0<=b/\b<=1000000) (some (Nat.gcd a.toNat b.toNat)))
theorem aPC{a b:Nat}(ha:a<=1000000)(hb:b<=1000000)(fl:Nat)(σ:List aA):P9 fl [.int .u64 a,.int .u64 b] σ=some (.int .u64 (Nat.gcd a b),σ):=by
 have e1:EA.dec (.int .u64 a)=some (a:Int):=Em.dC rfl;have e2:EA.dec (.int .u64 b)=some (b:Int):=Em.dC rfl;unfold P9 entry fF;simp only[e1,e2];rw[fY ⟨Cd,Cd,Cd,Cd⟩];rfl
variable{E:aE}(hU:aJ E)
include hU
theorem aLc(h0:E 145=none)(a b:Nat)(ha:a<=1000000)(hb:b<=1000000):aI prog E 145 [.int .u64 a,.int .u64 b] (EA.aB (Nat.gcd a b)):=by
 obtain⟨G,hG⟩:=gn (Nat.gcd a b);rw[hG];refine aI.aG 12 h0 func145 (h:=?_);refine aC trivial ?_;refine Wp.dW (λm fr σ=>∃(u v:Nat),∃gg:Nat->PD,(v<=m/\u<=1000000/\v<=1000000/\Nat.gcd u v=G)/\fr=[.int .u64 u,.int .u64 v,gg 2,gg 3,gg 4,gg 5,gg 6,gg 7,gg 8,gg 9,gg 10,gg 11]/\σ=[]) ?_ (b) (by refine⟨a,b,?_⟩;exact cL (⟨yAk _,ha,hb,hG⟩))
 rintro m fr σ ⟨u,v,gg,hI,rfl,rfl⟩
 obtain⟨hm,hu,hv,hg⟩:=hI
 by_cases q:v=0
 .subst q;rw[Nat.gcd_zero_right]at hg;subst hg;refine aC trivial ?_;exact ag
 .have q1:0<v:=by omega
  have q2:¬(v:Int)=0:=Cd;have hml:u%v<v:=yBC _ Cd;have hgr:Nat.gcd v (u%v)=G:=by rw[Nat.gcd_comm v (u%v),<-Nat.gcd_rec,Nat.gcd_comm,hg]
  obtain⟨r,hr⟩:=gn (u%v);have w1:((u:Int)).tmod (v:Int)=(r:Int):=by rw[<-hr];rfl
  rw[hr]at hml hgr;have w2:IntKind.u64.wrap (r:Int)=(r:Int):=Cn;refine aC (A5 @q q1 q2 w1 w2) ?_;refine bU.normal (m-1) Cd (by refine⟨v,r,?_⟩;exact cL (⟨Cd,hv,Cd,hgr⟩))
theorem aLe(h0:E 146=none)(n:Int)(h:-1000000<=n/\n<=1000000):aI prog E 146 [.int .i64 n] (EA.aB n.natAbs):=by
 refine aI.aG 10 h0 func146 (h:=?_)
 by_cases a:n<0
 .have w1:IntKind.u64.wrap n=n+18446744073709551616:=by simp only[IntKind.wrap,IntKind.bits,IntKind.signed];simp;omega
  have w2:IntKind.u64.wrap (-(n+18446744073709551616))=(n.natAbs:Int):=Cn;refine aC (A3 @a w1 w2) ?_;exact ag
 .have w1:IntKind.u64.wrap n=(n.natAbs:Int):=by simp only[IntKind.wrap,IntKind.bits,IntKind.signed];simp;omega
  refine aC (A2 @a w1) ?_;exact ag
def QA:Nat->List PD->List aA->Option (PD×List aA):=entry (cU i64 EA λn=>eL (-1000000<=n/\n<=1000000) (some (n.natAbs:Int)))
omit hU in
theorem aPD{n:Int}(h:-1000000<=n/\n<=1000000)(fl:Nat)(σ:List aA):QA fl [.int .i64 n] σ=some (.int .u64 n.natAbs,σ):=by
 have e1:i64.dec (.int .i64 n)=some n:=Em.dC rfl;unfold QA entry cU;exact mm
theorem aLg(h0:E 124=none)(h1:E 146=some QA)(h2:E 145=some P9)(n d:Int):aI prog E 124 [.agg [.int .i64 n,.int .i64 d]] (i64.aB (wA n d)):=by
 by_cases a:d<=0
 .skip
  refine aI.aG 31 h0 func124 (h:=?_);refine aC @a ?_;simp(disch:=first|omega|(simp;done)|(simp;omega)) [yAu,wA,a]<;>try rfl
 by_cases b:1000000<d
 .skip
  refine aI.aG 31 h0 func124 (h:=?_);refine aC (A2 @a @b) ?_;simp(disch:=first|omega|(simp;done)|(simp;omega)) [yAu,wA,a,b]<;>try rfl
 by_cases c:n < -1000000
 .skip
  refine aI.aG 31 h0 func124 (h:=?_);refine aC (A3 @a @b @c) ?_;simp(disch:=first|omega|(simp;done)|(simp;omega)) [yAu,wA,a,b,c]<;>try rfl
 by_cases e:1000000<n
 .skip
  refine aI.aG 31 h0 func124 (h:=?_);refine aC (A4 @a @b @c @e) ?_;simp(disch:=first|omega|(simp;done)|(simp;omega)) [yAu,wA,a,b,c,e]<;>try rfl
 have hM:=aPD (n:=n) Cd;obtain⟨D,rfl⟩:∃D:Nat,d=D:=⟨d.toNat,Cd⟩;obtain⟨N,hN⟩:=gn (n.natAbs);rw[hN]at hM;have hG:=aPC (a:=N) (b:=D) Cd Cd;have w:IntKind.u64.wrap (D:Int)=D:=Cn;obtain⟨g,hg⟩:=gn (Nat.gcd N D);have a2:¬D=0:=Cd;have b2:¬1000000<D:=Cd;have hE:wA n D=if g=1 then 0 else 2:=by
  unfold wA;rw[hN,yBj]
  by_cases q:g=1
  .rw[yAJ q,yAI Cd]
  .rw[yAI q,yAJ Cd]
 rw[hE];rw[hg]at hG
 by_cases q:g=1
 .have q1:(g:Int)=1:=by omega
  exact kr
 .have q1:¬(g:Int)=1:=by omega
  exact kr
def QB:Nat->List PD->List aA->Option (PD×List aA):=entry (cU Em.dI i64 λx=>some (wA x.1 x.2))
omit hU in
theorem aPE(n d:Int)(fl:Nat)(σ:List aA):QB fl [.agg [.int .i64 n,.int .i64 d]] σ=some (.int .i64 (wA n d),σ):=by
 have e1:Em.dI.dec (.agg [.int .i64 n,.int .i64 d])=some (n,d):=Em.dC rfl;unfold QB entry cU;simp only[e1];rfl
theorem aLi(h0:E 93=none)(h1:E 124=some QB)(n d:Int):aI prog E 93 [.agg [.int .i64 n,.int .i64 d]] (i64.aB (s7 n d)):=by
 have hF:=aPE n d
 by_cases a:wA n d=0
 .have hd:0<d/\d<=1000000:=by
   unfold wA at a;split at a
   .cases a
   .omega
  have w:IntKind.i64.wrap (128*d)=128*d:=Ci;rw[a]at hF;unfold s7;rw[a];refine aI.aG 23 h0 func93 (h:=?_)
  by_cases b:n<=0
  .refine aC (A3 h1 hF @b) ?_;simp(disch:=first|omega|(simp;done)|(simp;omega)) [yAu,b]<;>try rfl
  by_cases c:128*d<n
  .refine aC (A5 h1 hF @b @w @c) ?_;simp(disch:=first|omega|(simp;done)|(simp;omega)) [yAu,b,c]<;>try rfl
  by_cases e:128<d
  .exact ql
  .exact ql
 .unfold s7;rw[yAJ a];obtain⟨f,hf⟩:=gn (wA n d);rw[hf]at a hF;refine aI.aG 23 h0 func93 (h:=?_);refine aC (A3 h1 hF @a) ?_;exact ag
end
section
def eZ{α:Type}(p:α->Bool):List α->Nat->Int
 | [],_=>-1
 |x::r,i=>if p x=true then(i:Int)else eZ p r (i+1)
theorem RU{α:Type}(p:α->Bool):∀(l:List α) (i:Nat),decide (0<=eZ p l i)=l.any p
 | [],_=>rfl
 |x::r,i=>by
  unfold eZ;cases h:p x with
  |true=>rw[yAJ rfl,yDS,h];simp
  |false=>rw[yAI Ch,yDS,h,RU p r (i+1)];rfl
theorem aFk{α:Type}(p:α->Bool):∀(l:List α) (i:Nat),-1<=eZ p l i/\eZ p l i<i+l.length\/eZ p l i=-1
 | [],_=>.inr rfl
 |x::r,i=>by
  unfold eZ;split
  .refine .inl ⟨Cd,?_⟩;rw[yAT];omega
  .rcases aFk p r (i+1)with h|h
   .refine .inl ⟨h.1,?_⟩;rw[yAT];omega
   .exact .inr h
def mL(w:Int):Bool:=decide (w<0)||decide (1000000<w)
def QC:Nat->List PD->List aA->Option (PD×List aA):=entry (cU i64 Em.bool λn=>some (mL n))
theorem aPx(n:Int)(fl:Nat)(σ:List aA):QC fl [.int .i64 n] σ=some (.bool (mL n),σ):=by
 have e:i64.dec (.int .i64 n)=some n:=Em.dC rfl;unfold QC entry cU;simp only[e];rfl
variable{E:aE}(hU:aJ E)
include hU
theorem aLk(h0:E 126=none)(n:Int):aI prog E 126 [.int .i64 n] (Em.bool.aB (mL n)):=by
 refine aI.aG 9 h0 func126 (h:=?_)
 by_cases a:n<0
 .refine aC @a ?_;simp(disch:=first|omega|(simp;done)|(simp;omega)) [yAu,mL,a]<;>try rfl
 .by_cases b:1000000<n
  .exact sj
  .exact sj
theorem aLm(h0:E 147=none)(h1:E 126=some QC)(l:List Int)(hl:l.length<=1000000):aI prog E 147 [gJ.aB l,.func 126 []] (i64.aB (eZ mL l 0)):=by
 obtain⟨B,hB⟩:=gn (eZ mL l 0);rw[hB];refine aI.aG 19 h0 func147 (h:=?_);refine aC trivial ?_;refine Wp.dW (λm fr σ=>∃(i:Nat),∃gg:Nat->PD,(i+m=l.length/\eZ mL (l.drop i) i=B)/\fr=[gJ.aB l,.func 126 [],gg 2,gg 3,gg 4,gg 5,gJ.aB l,.int .i64 l.length,.int .i64 i,gg 9,gg 10,gg 11,gg 12,gg 13,gg 14,gg 15,gg 16,gg 17,gg 18]/\σ=[]) ?_ (l.length) (by refine⟨0,?_⟩;exact cL (⟨Cd,hB⟩))
 rintro m fr σ ⟨i,gg,hI,rfl,rfl⟩
 obtain⟨hm,hs⟩:=hI
 by_cases hi:i<l.length
 .have q1:(i:Int)<(l.length:Int):=by omega
  obtain⟨a,ha⟩:=gn (l[i]);have hc:l.drop i=a::l.drop (i+1):=Cp;have hE:=aPx a;rw[hc]at hs;unfold eZ at hs;cases hb:mL a with
  |true=>
   rw[hb]at hE;rw[yAJ hb]at hs;have cM:B=(i:Int):=hs.symm;clear hs;refine aC (A3 q1 hi ha) ?_
   first|refine Wp.seq ?_|skip
   apply Wp.oE;refine nL (A4 h1 hE hi ha) ?_;apply SQ.nil;exact yw
  |false=>
   rw[hb]at hE;rw[yAI (by rw[hb];decide)]at hs;refine aC (A3 q1 hi ha) ?_
   first|refine Wp.seq ?_|skip
   apply Wp.oE;refine nL (A4 h1 hE hi ha) ?_;apply SQ.nil;refine aC q1 ?_;exact bp
 .have q1:¬(i:Int)<(l.length:Int):=by omega
  rw[yAs Cd]at hs;have cM:B=-1:=hs.symm;exact yw
def QD:Nat->List PD->List aA->Option (PD×List aA):=entry (λargs=>match args with
 | [p,.func g []]=>if g=126 then cU gJ i64 (λl=>eL (l.length<=1000000) (some (eZ mL l 0))) [p]else none
 |_=>none)
omit hU in
theorem aPy{l:List Int}(hl:l.length<=1000000)(fl:Nat)(σ:List aA):QD fl [gJ.aB l,.func 126 []] σ=some (.int .i64 (eZ mL l 0),σ):=by
 have e1:=Em.dC (gJ.str l);unfold QD entry cU;simp only[e1,yAK];rw[fY hl];rfl
def QE:Nat->List PD->List aA->Option (PD×List aA):=entry (λargs=>match args with
 | [p,.func g []]=>if g=126 then cU gJ Em.bool (λl=>eL (l.length<=1000000) (some (l.any mL))) [p]else none
 |_=>none)
omit hU in
theorem aPz{l:List Int}(hl:l.length<=1000000)(fl:Nat)(σ:List aA):QE fl [gJ.aB l,.func 126 []] σ=some (.bool (l.any mL),σ):=by
 have e1:=Em.dC (gJ.str l);unfold QE entry cU;simp only[e1,yAK];rw[fY hl];rfl
theorem aLo(h0:E 125=none)(h1:E 147=some QD)(l:List Int)(hl:l.length<=1000000):aI prog E 125 [gJ.aB l,.func 126 []] (Em.bool.aB (l.any mL)):=by
 have hE:=aPy hl;rw[<-RU mL l 0];refine aI.aG 9 h0 func125 (h:=?_);simp only[bC]at hE;exact As
def pB(r:bP):Int:=
 if fO r.name=false\/fO r.j9=false then 8 else if s7 r.num r.den≠0 then s7 r.num r.den else if ¬(-256<=r.first/\r.first<=256)then 3 else if r.mC.length=0 then 13 else if 128<r.mC.length then 4 else if r.mC.any mL=true then 3 else 0
def F2:Nat->List PD->List aA->Option (PD×List aA):=entry (cU Em.text Em.bool λs=>eL (s.length<=100000) (some (fO s)))
omit hU in
theorem JG{s:Jl}(h:s.length<=100000)(fl:Nat)(σ:List aA):F2 fl [.str s] σ=some (.bool (fO s),σ):=by
 have e1:Em.text.dec (.str s)=some s:=Em.dC rfl;unfold F2 entry cU;exact mm
theorem aLq(h0:E 95=none)(h1:E 125=some QE)(l:List Int)(hl:l.length<=1000000):aI prog E 95 [gJ.aB l] (i64.aB (if l.any mL=true then 3 else 0)):=by
 have hE:=aPz hl;simp only[bC]at hE;cases hb:l.any mL with
 |true=>
  rw[hb]at hE;refine aI.aG 5 h0 func95 (h:=?_);exact As
 |false=>
  rw[hb]at hE;refine aI.aG 5 h0 func95 (h:=?_);exact As
def LV:Nat->List PD->List aA->Option (PD×List aA):=entry (cU Em.dI i64 λx=>some (s7 x.1 x.2))
omit hU in
theorem aFj(n d:Int)(fl:Nat)(σ:List aA):LV fl [.agg [.int .i64 n,.int .i64 d]] σ=some (.int .i64 (s7 n d),σ):=by
 have e1:Em.dI.dec (.agg [.int .i64 n,.int .i64 d])=some (n,d):=Em.dC rfl;unfold LV entry cU;simp only[e1];rfl
def QG:Nat->List PD->List aA->Option (PD×List aA):=entry (cU i64 Em.bool λn=>some (decide (-256<=n)&&decide (n<=256)))
omit hU in
theorem aPA(n:Int)(fl:Nat)(σ:List aA):QG fl [.int .i64 n] σ=some (.bool (decide (-256<=n)&&decide (n<=256)),σ):=by
 have e1:i64.dec (.int .i64 n)=some n:=Em.dC rfl;unfold QG entry cU;simp only[e1];rfl
def QF:Nat->List PD->List aA->Option (PD×List aA):=entry (cU gJ i64 λl=>eL (l.length<=1000000) (some (if l.any mL=true then 3 else 0)))
omit hU in
theorem aPB{l:List Int}(h:l.length<=1000000)(fl:Nat)(σ:List aA):QF fl [gJ.aB l] σ=some (.int .i64 (if l.any mL=true then 3 else 0),σ):=by
 have e1:=Em.dC (gJ.str l);unfold QF entry cU;exact mm
def lB(s:List UInt8):Prop:=s.length<=100000
theorem aLu(h0:E 61=none)(h1:E 60=some F2)(h2:E 93=some LV)(h3:E 94=some QG)(h4:E 95=some QF)(r:bP)(hr:gU r)(hn:lB r.name)(ht:lB r.j9):aI prog E 61 [Em.aN.aB r] (i64.aB (pB r)):=by
 obtain⟨n,t,a,b,f,w⟩:=r;have e1:=JG hn;have e2:=JG ht;have e3:=aFj a b;have e4:=aPA f;have e5:=aPB (show w.length<=1000000 from hr);have hw:w.length<=1000000:=hr;unfold pB;simp only[bC]at e1 e2 e5;simp only[oA,bC];cases c1:fO n with
 |false=>
  rw[c1]at e1;rw[yAJ (.inl rfl)];refine aI.aG 38 h0 func61 (h:=?_);refine aC (A2 h1 e1) ?_;exact ag
 |true=>
 rw[c1]at e1;cases c2:fO t with
 |false=>
  rw[c2]at e2;rw[yAJ (.inr rfl)];refine aI.aG 38 h0 func61 (h:=?_);refine aC (A3 h1 e1 e2) ?_;exact ag
 |true=>
 rw[c2]at e2;rw[yAI Ce];obtain⟨p,hp⟩:=gn (s7 a b);rw[hp]at e3 ⊢
 by_cases c3:p=0
 rotate_left
 .rw[yAJ c3];refine aI.aG 38 h0 func61 (h:=?_);refine aC (A6 h1 h2 e1 e2 e3 c3) ?_;exact ag
 subst c3;rw[yAI Ce]
 by_cases c4:-256<=f/\f<=256
 rotate_left
 .rw[yAJ c4];have uO:(decide (-256<=f)&&decide (f<=256))=false:=by simpa using λh=>Int.not_le.1 (λg=>c4 ⟨h,g⟩)
  rw[uO]at e4;exact AS
 rw[yAI (not_not_intro c4)];have uO:(decide (-256<=f)&&decide (f<=256))=true:=by simpa using c4
 rw[uO]at e4
 by_cases c5:w.length=0
 .rw[yAJ c5];have ZO:(w.length:Int)=0:=Cd;have c6:w=[]:=yAf c5;subst c6;exact AS
 rw[yAI c5];have ZO:¬w=[]:=λh=>c5 Ea
 by_cases c6:128<w.length
 .rw[yAJ c6];have c7:128<(w.length:Int):=Cd;refine aI.aG 38 h0 func61 (h:=?_);refine aC (A11 h1 h2 h3 e1 e2 e3 e4 c5 ZO c6 c7) ?_;exact ag
 rw[yAI c6];have c7:¬128<(w.length:Int):=Cd;obtain⟨q,hq⟩:∃q,(if w.any mL=true then(3:Int)else 0)=q:=⟨_,rfl⟩;rw[hq]at e5 ⊢;refine aI.aG 38 h0 func61 (h:=?_);refine aC (A13 h1 h2 h3 h4 e1 e2 e3 e4 e5 c5 ZO c6 c7) ?_;exact ag
end
end Go.Kz
end
