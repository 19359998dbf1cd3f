/- Steps of the proof. -/
import Derived.Test.YteegpeenjdgodaaGreatDoorP3
import Derived.Test.YteegpeenjdgodaaGreatDoorP8
set_option linter.all false
set_option maxHeartbeats 40000000
set_option maxRecDepth 100000
open Go.Proofs.Tryz
noncomputable section
namespace Go.Kz
open Go Go.Proofs
abbrev i64:Em Int:=Em.int .i64
abbrev gH:Em (List Int):=i64.list 1
structure bH where
 name:Jr
 kH:Jr
 num:Int
 den:Int
 first:Int
 mG:List Int
 deriving DecidableEq
structure dL where
 aL:Int
 shift:Int
 deriving DecidableEq
structure jA where
 lo:Int
 hi:Int
 aQ:List dL
 deriving DecidableEq
structure cJ where
 name:Jr
 num:Int
 den:Int
 aN:List jA
 deriving DecidableEq
structure bI where
 name:Jr
 dO:Bool
 low:Int
 high:Int
 stops:List cJ
 deriving DecidableEq
structure bX where
 name:Jr
 dK:Int
 dst:Int
 shift:Int
 qJ:Bool
 deriving DecidableEq
structure aV where
 name:Jr
 aR:List bH
 aD:List bI
 aP:List bX
 deriving DecidableEq
def bV.aL:bV bH:=((bV.one .text).pair ((bV.one .text).pair ((bV.one i64).pair ((bV.one i64).pair ((bV.one i64).pair (.one gH)))))).nK (λr=>(r.name,r.kH,r.num,r.den,r.first,r.mG)) (λx y h=>Cr)
def Em.aL:Em bH:=.agg .aL
@[simp] theorem oB{r:bH}:Em.aL.aB r=.agg [.str r.name,.str r.kH,.int .i64 r.num,.int .i64 r.den,.int .i64 r.first,gH.aB r.mG]:=rfl
abbrev aR:Em (List bH):=Em.aL.list 6
def bV.draw:bV dL:=((bV.one i64).pair (.one i64)).nK (λr=>(r.aL,r.shift)) (λx y h=>Cr)
def Em.draw:Em dL:=.agg .draw
@[simp] theorem EY{r:dL}:Em.draw.aB r=.agg [.int .i64 r.aL,.int .i64 r.shift]:=rfl
abbrev gJ:Em (List dL):=Em.draw.list 2
def bV.eZ:bV jA:=((bV.one i64).pair ((bV.one i64).pair (.one gJ))).nK (λr=>(r.lo,r.hi,r.aQ)) (λx y h=>Cr)
def Em.eZ:Em jA:=.agg .eZ
@[simp] theorem KH{r:jA}:Em.eZ.aB r=.agg [.int .i64 r.lo,.int .i64 r.hi,gJ.aB r.aQ]:=rfl
abbrev oQ:Em (List jA):=Em.eZ.list 3
def bV.stop:bV cJ:=((bV.one .text).pair ((bV.one i64).pair ((bV.one i64).pair (.one oQ)))).nK (λr=>(r.name,r.num,r.den,r.aN)) (λx y h=>Cr)
def Em.stop:Em cJ:=.agg .stop
@[simp] theorem pZ{r:cJ}:Em.stop.aB r=.agg [.str r.name,.int .i64 r.num,.int .i64 r.den,oQ.aB r.aN]:=rfl
abbrev oC:Em (List cJ):=Em.stop.list 4
def bV.div:bV bI:=((bV.one .text).pair ((bV.one .bool).pair ((bV.one i64).pair ((bV.one i64).pair (.one oC))))).nK (λr=>(r.name,r.dO,r.low,r.high,r.stops)) (λx y h=>Cr)
def Em.div:Em bI:=.agg .div
@[simp] theorem nL{r:bI}:Em.div.aB r=.agg [.str r.name,.bool r.dO,.int .i64 r.low,.int .i64 r.high,oC.aB r.stops]:=rfl
abbrev tD:Em (List bI):=Em.div.list 5
def bV.aZ:bV bX:=((bV.one .text).pair ((bV.one i64).pair ((bV.one i64).pair ((bV.one i64).pair (.one .bool))))).nK (λr=>(r.name,r.dK,r.dst,r.shift,r.qJ)) (λx y h=>Cr)
def Em.aZ:Em bX:=.agg .aZ
@[simp] theorem CX{r:bX}:Em.aZ.aB r=.agg [.str r.name,.int .i64 r.dK,.int .i64 r.dst,.int .i64 r.shift,.bool r.qJ]:=rfl
abbrev qM:Em (List bX):=Em.aZ.list 5
def bV.bB:bV aV:=((bV.one .text).pair ((bV.one aR).pair ((bV.one tD).pair (.one qM)))).nK (λr=>(r.name,r.aR,r.aD,r.aP)) (λx y h=>Cr)
def Em.bB:Em aV:=.agg .bB
@[simp] theorem dT{r:aV}:Em.bB.aB r=.agg [.str r.name,aR.aB r.aR,tD.aB r.aD,qM.aB r.aP]:=rfl
def KI(l:List Int):Prop:=l.length<=1000000
def yU(l:List dL):Prop:=l.length<=1000000
def OO(l:List bX):Prop:=l.length<=1000000
def gS(r:bH):Prop:=KI r.mG
def OP(l:List bH):Prop:=l.length<=1000000/\∀r∈l,gS r
def wE(g:jA):Prop:=yU g.aQ
def OQ(l:List jA):Prop:=l.length<=1000000/\∀r∈l,wE r
def jQ(s:cJ):Prop:=OQ s.aN
def OR(l:List cJ):Prop:=l.length<=1000000/\∀r∈l,jQ r
def gT(d:bI):Prop:=OR d.stops
def OS(l:List bI):Prop:=l.length<=1000000/\∀r∈l,gT r
def eF(o:aV):Prop:=OP o.aR/\OS o.aD/\OO o.aP
def fH{α:Type}[DecidableEq α](a:Em α)(R:α->Prop):Nat->List PD->List aA->Option (PD×List aA):=entry (eM a a .bool λx y=>dY (R x/\R y) (some (decide (x=y))))
theorem pH{α:Type}[DecidableEq α]{a:Em α}{R:α->Prop}{p q:PD}{x y:α}(hx:R x)(hy:R y)(hp:p.strip=a.aB x)(hq:q.strip=a.aB y)(fl:Nat)(σ:List aA):fH a R fl [p,q] σ=some (.bool (decide (x=y)),σ):=by
 have e1:=Em.cT hp;have e2:=Em.cT hq;unfold fH entry eM;simp only[e1,e2];rw[fM ⟨hx,hy⟩];rfl
theorem oR{α:Type}[DecidableEq α]{a:Em α}{R:α->Prop}{x y:α}(hx:R x)(hy:R y)(fl:Nat)(σ:List aA):fH a R fl [a.aB x,a.aB y] σ=some (.bool (decide (x=y)),σ):=pH hx hy (a.str x) (a.str y) fl σ
def T6{α:Type}[DecidableEq α](a:Em α)(R:α->Prop)(f:FuncId):List PD->Option PD:=λargs=>match args with
 | [p,q,.func g []]=>if g=f then eM a a .bool (λx y=>dY (R x/\R y) (some (decide (x=y)))) [p,q]else none
 |_=>none
def xH{α:Type}[DecidableEq α](a:Em α)(R:α->Prop)(f:FuncId):Nat->List PD->List aA->Option (PD×List aA):=entry (T6 a R f)
@[simp] theorem uV{α:Type}[DecidableEq α]{a:Em α}{R:α->Prop}{f:FuncId}{fl:Nat}{p q:PD}{σ:Jp}:xH a R f fl [p,q,.func f []] σ=fH a R fl [p,q] σ:=by
  unfold xH fH entry T6;simp only[yAK]
theorem aF.uW{P:Program}{E:aE}(hE:aF P E)(hP:P.follows .mixedOrders=true){α:Type}[DecidableEq α]{a:Em α}{R:α->Prop}{f:FuncId}(h:∀x y,R x->R y->aI P E f [a.aB x,a.aB y] (Em.bool.aB (decide (x=y)))):aF P (E.add f (fH a R)):=
 hE.rF hP λx y z hz=>by
  obtain⟨⟨hx,hy⟩,e⟩:=fO hz;cases e;exact h x y hx hy
theorem aF.OT{P:Program}{E:aE}(hE:aF P E)(hP:P.follows .mixedOrders=true){α:Type}[DecidableEq α]{a:Em α}{R:α->Prop}{f g:FuncId}(h:∀x y,R x->R y->aI P E f [a.aB x,a.aB y,.func g []] (Em.bool.aB (decide (x=y)))):aF P (E.add f (xH a R g)):=by
 refine hE.AV hP λargs p hg=>?_
 unfold T6 at hg;split at hg
 rotate_left
 .cases hg
 rename_i p1 q1 g1;split at hg
 rotate_left
 .cases hg
 rename_i e;subst e;simp only[eM]at hg;split at hg
 rotate_left
 .cases hg
 rename_i x y hx hy;split at hg
 rotate_left
 .cases hg
 rename_i z hz;simp only[yAb]at hg;subst hg;obtain⟨⟨rx,ry⟩,e⟩:=fO hz;cases e;have e1:=Em.oD hx;have e2:=Em.oD hy;obtain⟨p2,σ2,h1,h2⟩:=h x y rx ry;exact⟨p2,σ2,by simpa [e1,e2,PD.strip]using h1,h2,by simp[e1,e2,PD.strip,PD.fW,PD.bY,a.eO],rfl⟩
theorem tE{α:Type}[DecidableEq α](a b:α)(x y:List α):decide (a::x=b::y)=(decide (a=b)&&decide (x=y)):=by
 by_cases h:a=b<;>by_cases k:x=y<;>simp[h,k]
theorem tF{α:Type}[DecidableEq α]{x y:List α}(h:¬x.length=y.length):decide (x=y)=false:=by
 simp only[yDV];exact λe=>h (by rw[e])
section
structure oA where
 kH:Int
 dC:Int
 first:Int
 AU:Int
 w0:Int
 w1:Int
 w2:Int
 w3:Int
 w4:Int
structure qI where
 aL:Int
 dC:Int
 kind:Int
 at_:Int
structure r8 where
 low:Int
 keys:Int
 dO:Bool
 stops:List qI
structure tB where
 dK:Int
 dst:Int
 shift:Int
 qJ:Bool
structure pF where
 aR:List oA
 aD:List r8
 aP:List tB
structure aBq where
 kind:Int
 at_:Int
abbrev kI:Em Int:=Em.int .u8
abbrev i8e:Em Int:=Em.int .i8
def Em.xG:Em oA:=.agg (((bV.one kI).pair ((bV.one kI).pair ((bV.one i8e).pair ((bV.one kI).pair ((bV.one kI).pair ((bV.one kI).pair ((bV.one kI).pair ((bV.one kI).pair (.one kI))))))))).nK (λr=>(r.kH,r.dC,r.first,r.AU,r.w0,r.w1,r.w2,r.w3,r.w4)) (λx y h=>Cr))
@[simp] theorem aBr{r:oA}:Em.xG.aB r=.agg [.int .u8 r.kH,.int .u8 r.dC,.int .i8 r.first,.int .u8 r.AU,.int .u8 r.w0,.int .u8 r.w1,.int .u8 r.w2,.int .u8 r.w3,.int .u8 r.w4]:=rfl
abbrev KD:Em (List oA):=Em.xG.list 9
def Em.pull:Em qI:=.agg (((bV.one kI).pair ((bV.one kI).pair ((bV.one kI).pair (.one kI)))).nK (λr=>(r.aL,r.dC,r.kind,r.at_)) (λx y h=>Cr))
@[simp] theorem aBs{r:qI}:Em.pull.aB r=.agg [.int .u8 r.aL,.int .u8 r.dC,.int .u8 r.kind,.int .u8 r.at_]:=rfl
abbrev aBt:Em (List qI):=Em.pull.list 4
def Em.CW:Em r8:=.agg (((bV.one kI).pair ((bV.one kI).pair ((bV.one .bool).pair (.one aBt)))).nK (λr=>(r.low,r.keys,r.dO,r.stops)) (λx y h=>Cr))
@[simp] theorem aT0{r:r8}:Em.CW.aB r=.agg [.int .u8 r.low,.int .u8 r.keys,.bool r.dO,aBt.aB r.stops]:=rfl
abbrev KE:Em (List r8):=Em.CW.list 4
def Em.link:Em tB:=.agg (((bV.one kI).pair ((bV.one kI).pair ((bV.one i8e).pair (.one .bool)))).nK (λr=>(r.dK,r.dst,r.shift,r.qJ)) (λx y h=>Cr))
@[simp] theorem aT1{r:tB}:Em.link.aB r=.agg [.int .u8 r.dK,.int .u8 r.dst,.int .i8 r.shift,.bool r.qJ]:=rfl
abbrev KF:Em (List tB):=Em.link.list 4
def Em.dQ:Em pF:=.agg (((bV.one KD).pair ((bV.one KE).pair (.one KF))).nK (λr=>(r.aR,r.aD,r.aP)) (λx y h=>Cr))
@[simp] theorem qL{r:pF}:Em.dQ.aB r=.agg [KD.aB r.aR,KE.aB r.aD,KF.aB r.aP]:=rfl
def Em.aHQ:Em aBq:=.agg (((bV.one kI).pair (.one kI)).nK (λr=>(r.kind,r.at_)) (λx y h=>Cr))
@[simp] theorem aT2{r:aBq}:Em.aHQ.aB r=.agg [.int .u8 r.kind,.int .u8 r.at_]:=rfl
def gG(n:Int):Prop:=0<=n/\n<=255
def aBu(n:Int):Prop:=-128<=n/\n<=127
def CV(r:oA):Prop:=gG r.kH/\gG r.dC/\aBu r.first/\gG r.AU/\gG r.w0/\gG r.w1/\gG r.w2/\gG r.w3/\gG r.w4
def EW(r:qI):Prop:=gG r.aL/\gG r.dC/\gG r.kind/\gG r.at_
def okB(r:r8):Prop:=gG r.low/\gG r.keys/\∀s∈r.stops,EW s
def T5(r:tB):Prop:=gG r.dK/\gG r.dst/\aBu r.shift
def tA(p:pF):Prop:=(∀r∈p.aR,CV r)/\(∀b∈p.aD,okB b)/\∀l∈p.aP,T5 l
def mF(p:pF):Bool:=decide (1<=p.aR.length)&&decide (p.aR.length<=3)&&decide (1<=p.aD.length)&&decide (p.aD.length<=3)&&decide (p.aP.length<=3)&&p.aD.all λb=>decide (b.stops.length<=3)
variable{E:aE}(hU:aJ E)
include hU
theorem aHR(h0:E 11=none)(p:pF):aI prog E 11 [Em.dQ.aB p] (Em.bool.aB (mF p)):=by
 obtain⟨R,D,C⟩:=p;simp only[qL,aU];refine aI.aG 47 h0 func11 (h:=?_)
 by_cases c1:(R.length:Int)<1
 .have z:¬1<=R.length:=by omega
  refine aC c1 ?_;exact gl
 have z1:1<=R.length:=Cj
 by_cases c2:3<(R.length:Int)
 .have z:¬R.length<=3:=by omega
  refine aC (A2 c1 c2) ?_;exact gl
 have z2:R.length<=3:=Cj
 by_cases c3:(D.length:Int)<1
 .have z:¬1<=D.length:=by omega
  refine aC (A3 c1 c2 c3) ?_;exact gl
 have z3:1<=D.length:=Cj
 by_cases c4:3<(D.length:Int)
 .have z:¬D.length<=3:=by omega
  refine aC (A4 c1 c2 c3 c4) ?_;exact gl
 have z4:D.length<=3:=Cj
 by_cases c5:3<(C.length:Int)
 .have z:¬C.length<=3:=by omega
  refine aC (A5 c1 c2 c3 c4 c5) ?_;exact gl
 have z5:C.length<=3:=Cj;obtain⟨B,hB⟩:=gn (mF ⟨R,D,C⟩);have EX:(D.all λb=>decide (b.stops.length<=3))=B:=by rw[<-hB];simp[mF,z1,z2,z3,z4,z5]
 rw[hB];refine aC (A5 c1 c2 c3 c4 c5) ?_;refine Wp.dJ (λm fr σ=>∃(i:Nat),∃gg:Nat->PD,(i+m=D.length/\((D.drop i).all λb=>decide (b.stops.length<=3))=B)/\fr=[gg 0,.ptr 0 0,.bool false,.int .i64 i,gg 4,gg 5,gg 6,gg 7,gg 8,gg 9,gg 10,gg 11,gg 12,gg 13,gg 14,gg 15,gg 16,gg 17,gg 18,gg 19,gg 20,gg 21,gg 22,gg 23,gg 24,gg 25,gg 26,gg 27,gg 28,gg 29,gg 30,gg 31,gg 32,gg 33,gg 34,gg 35,gg 36,gg 37,gg 38,gg 39,gg 40,gg 41,gg 42,gg 43,gg 44,gg 45,gg 46]/\σ=[.box (.agg [.slice (sz 9 R) (R.map Em.xG.aB) .any,.slice (sz 4 D) (D.map Em.CW.aB) .any,.slice (sz 4 C) (C.map Em.link.aB) .any])]) ?_ (D.length) (by refine⟨0,?_⟩;exact cE (⟨Cj,EX⟩))
 rintro m fr σ ⟨i,gg,hI,rfl,rfl⟩
 obtain⟨hm,hs⟩:=hI
 by_cases hi:i<D.length
 .have q1:(i:Int)<(D.length:Int):=by omega
  obtain⟨b,hb⟩:=gn (D[i]);have dX:D.drop i=b::D.drop (i+1):=by rw[yAq hi,hb]
  rw[dX,yCh]at hs;obtain⟨b0,b1,b2,b3⟩:=b
  by_cases hl:3<(b3.length:Int)
  .have hz:¬b3.length<=3:=by omega
   simp only[hz,decide_false,yAY]at hs;have cI:B=false:=hs.symm;refine aC (A4 q1 hi @hb hl) ?_;exact aq
  .have hz:b3.length<=3:=by omega
   simp only[hz,decide_true,yBr]at hs;refine aC (A4 q1 hi @hb hl) ?_;exact bl
 .have q1:¬(i:Int)<(D.length:Int):=by omega
  rw[yAs Cj]at hs;have cI:B=true:=hs.symm;exact zg
end
end Go.Kz
namespace Go.Kz
instance:Inhabited oA:=⟨⟨0,0,0,0,0,0,0,0,0⟩⟩
instance:Inhabited qI:=⟨⟨0,0,0,0⟩⟩
instance:Inhabited r8:=⟨⟨0,0,false,[]⟩⟩
instance:Inhabited tB:=⟨⟨0,0,0,false⟩⟩
instance:Inhabited bH:=⟨⟨[],[],0,0,0,[]⟩⟩
def EA:List (Int×Int):=[(8,1),(4,1),(16,1),(8,3),(2,1),(8,5)]
def rV:List (Int×Int):=[(8,1),(4,1),(16,1),(2,1),(8,3),(8,5),(4,3),(1,1),(32,1),(16,3),(16,5),(32,3),(8,7),(2,3),(1,2),(64,1)]
def nY(n:Int):Int×Int:=EA.getD (n%6).toNat (8,1)
def pO(n:Int):Int×Int:=rV.getD (n%16).toNat (8,1)
def GR:List (List UInt8):=[[79,112,101,110],[70,108,117,116,101],[82,101,101,100]]
def CM(n:Int):List UInt8:=GR.getD (n%3).toNat []
def ZZ:List ((Int×Int)×(Int×Int)×Int):=[((8,1),(8,1),0),((8,1),(4,1),-12),((8,1),(16,1),12),((8,1),(2,1),-24),((8,1),(8,3),-19),((8,1),(8,5),-28),((8,1),(4,3),-31),((8,1),(1,1),-36),((8,1),(32,1),24),((8,1),(16,3),-7),((8,1),(16,5),-16),((8,1),(32,3),5),((8,1),(8,7),-34),((8,1),(2,3),-43),((8,1),(1,2),-48),((8,1),(64,1),36),((4,1),(8,1),12),((4,1),(4,1),0),((4,1),(16,1),24),((4,1),(2,1),-12),((4,1),(8,3),-7),((4,1),(8,5),-16),((4,1),(4,3),-19),((4,1),(1,1),-24),((4,1),(32,1),36),((4,1),(16,3),5),((4,1),(16,5),-4),((4,1),(32,3),17),((4,1),(8,7),-22),((4,1),(2,3),-31),((4,1),(1,2),-36),((4,1),(64,1),48),((16,1),(8,1),-12),((16,1),(4,1),-24),((16,1),(16,1),0),((16,1),(2,1),-36),((16,1),(8,3),-31),((16,1),(8,5),-40),((16,1),(4,3),-43),((16,1),(1,1),-48),((16,1),(32,1),12),((16,1),(16,3),-19),((16,1),(16,5),-28),((16,1),(32,3),-7),((16,1),(8,7),-46),((16,1),(2,3),-55),((16,1),(1,2),-60),((16,1),(64,1),24),((8,3),(8,1),19),((8,3),(4,1),7),((8,3),(16,1),31),((8,3),(2,1),-5),((8,3),(8,3),0),((8,3),(8,5),-9),((8,3),(4,3),-12),((8,3),(1,1),-17),((8,3),(32,1),43),((8,3),(16,3),12),((8,3),(16,5),3),((8,3),(32,3),24),((8,3),(8,7),-15),((8,3),(2,3),-24),((8,3),(1,2),-29),((8,3),(64,1),55),((2,1),(8,1),24),((2,1),(4,1),12),((2,1),(16,1),36),((2,1),(2,1),0),((2,1),(8,3),5),((2,1),(8,5),-4),((2,1),(4,3),-7),((2,1),(1,1),-12),((2,1),(32,1),48),((2,1),(16,3),17),((2,1),(16,5),8),((2,1),(32,3),29),((2,1),(8,7),-10),((2,1),(2,3),-19),((2,1),(1,2),-24),((2,1),(64,1),60),((8,5),(8,1),28),((8,5),(4,1),16),((8,5),(16,1),40),((8,5),(2,1),4),((8,5),(8,3),9),((8,5),(8,5),0),((8,5),(4,3),-3),((8,5),(1,1),-8),((8,5),(32,1),52),((8,5),(16,3),21),((8,5),(16,5),12),((8,5),(32,3),33),((8,5),(8,7),-6),((8,5),(2,3),-15),((8,5),(1,2),-20),((8,5),(64,1),64)]
def w8(f o:Int×Int):Int:=((ZZ.find? λt=>decide (t.1=f)&&decide (t.2.1=o)).map (·.2.2)).getD 0
def x8(x:oA)(k:Nat):Int:=[x.w0,x.w1,x.w2,x.w3,x.w4].getD (k%5) 0
def x9(x:oA)(n:Nat):List Int:=(List.range n).map (x8 x)
def digit(i:Nat):UInt8:=UInt8.ofNat (48+i)
def uO(x:oA)(i:Nat):bH:=⟨[82,digit (i%10)],CM x.kH,(pO x.dC).1,(pO x.dC).2,x.first,x9 x (1+(x.AU%25).toNat)⟩
def iI(l:List oA)(n:Nat):List bH:=(List.range n).map λi=>uO (l.getD i default) i
def s4(k n sh lo hi at_ m other:Int):List jA:=
 if k=2 then [⟨lo,hi,[⟨n,sh⟩,⟨n,sh+7⟩]⟩]
 else if k=3\/k=4 then(if lo<at_ then [⟨lo,at_-1,[⟨n,sh⟩]⟩]else [])++[⟨at_,hi,if k=3 then [⟨m,other⟩]else [⟨n,sh-12⟩]⟩]
 else if k=5 then [⟨at_,hi,[⟨n,sh⟩]⟩]
 else [⟨lo,hi,[⟨n,sh⟩]⟩]
def EB(rs:List bH)(n:Nat):Int×Int:=((rs.getD n default).num,(rs.getD n default).den)
def vR(rs:List bH)(lo hi:Int)(x:qI)(i:Nat):cJ:=
 ⟨[83,digit i],(nY x.dC).1,(nY x.dC).2,s4 (x.kind%6) (x.aL%rs.length) (w8 (nY x.dC) (EB rs (x.aL%rs.length).toNat)) lo hi (lo+x.at_%(hi-lo+1))
   ((x.aL%rs.length+1)%rs.length) (w8 (nY x.dC) (EB rs ((x.aL%rs.length+1)%rs.length).toNat))⟩
def vQ(rs:List bH)(lo hi:Int)(l:List qI)(n:Nat):List cJ:=(List.range n).map λi=>vR rs lo hi (l.getD i default) i
def AB(rs:List bH)(b:r8)(i:Nat):bI:=⟨[68,digit i],b.dO,36+b.low%12,36+b.low%12+b.keys%9,vQ rs (36+b.low%12) (36+b.low%12+b.keys%9) b.stops b.stops.length⟩
def lU(rs:List bH)(l:List r8)(n:Nat):List bI:=(List.range n).map λi=>AB rs (l.getD i default) i
def JI(n:Nat)(c:tB)(i:Nat):bX:=
 ⟨[67,digit i],c.dK%n,c.dst%n,if c.dK%n=c.dst%n/\c.shift.tmod 25=0 then 12 else c.shift.tmod 25,c.qJ⟩
def mO(n:Nat)(l:List tB)(k:Nat):List bX:=(List.range k).map λi=>JI n (l.getD i default) i
def fU(p:pF):aV:=⟨[79,114,103,97,110],iI p.aR p.aR.length,lU (iI p.aR p.aR.length) p.aD p.aD.length,mO p.aD.length p.aP p.aP.length⟩
end Go.Kz
namespace Go.Kz
open Go Go.Proofs
section
def Em.dC:Em (Int×Int):=.agg (((bV.one i64).pair (.one i64)).nK (λr=>(r.1,r.2)) (λx y h=>Cr))
@[simp] theorem aWF{r:Int×Int}:Em.dC.aB r=.agg [.int .i64 r.1,.int .i64 r.2]:=rfl
variable{E:aE}(hU:aJ E)
include hU
theorem aMS(h0:E 68=none)(n:Int)(hn:gG n):aI prog E 68 [.int .u8 n] (Em.dC.aB (nY n)):=by
 obtain⟨k,rfl⟩:∃k:Nat,n=k:=⟨n.toNat,by have:=hn.1;omega⟩;have hm:(k:Int).tmod 6=((k%6:Nat):Int):=rfl;refine aI.aG 14 h0 func68 (h:=?_);have hlt:k%6<6:=yBA _ Cn;have hs:nY k=EA.getD (k%6) (8,1):=by
  unfold nY
  congr 1
 rw[hs];clear hs;obtain⟨j,hj⟩:=gn (k%6);rw[hj]at hm hlt ⊢
 match j,hlt with
 |0,_=>
  exact bw
 |1,_=>
  exact bw
 |2,_=>
  exact bw
 |3,_=>
  exact bw
 |4,_=>
  exact bw
 |5,_=>
  exact bw
 |j+6,h=>exact absurd h Cj
theorem aMQ(h0:E 67=none)(n:Int)(hn:gG n):aI prog E 67 [.int .u8 n] (Em.dC.aB (pO n)):=by
 obtain⟨k,rfl⟩:∃k:Nat,n=k:=⟨n.toNat,by have:=hn.1;omega⟩;have hm:(k:Int).tmod 16=((k%16:Nat):Int):=rfl;refine aI.aG 24 h0 func67 (h:=?_);have hlt:k%16<16:=yBA _ Cn;have hs:pO k=rV.getD (k%16) (8,1):=by
  unfold pO
  congr 1
 rw[hs];clear hs;obtain⟨j,hj⟩:=gn (k%16);rw[hj]at hm hlt ⊢
 match j,hlt with
 |0,_=>
  exact bw
 |1,_=>
  exact bw
 |2,_=>
  exact bw
 |3,_=>
  exact bw
 |4,_=>
  exact bw
 |5,_=>
  exact bw
 |6,_=>
  exact bw
 |7,_=>
  exact bw
 |8,_=>
  exact bw
 |9,_=>
  exact bw
 |10,_=>
  exact bw
 |11,_=>
  exact bw
 |12,_=>
  exact bw
 |13,_=>
  exact bw
 |14,_=>
  exact bw
 |15,_=>
  exact bw
 |j+16,h=>exact absurd h Cj
end
section
def v8(n:Int):Bool:=(decide (65<=n)&&decide (n<=90))||(decide (97<=n)&&decide (n<=122))
def xB(c:UInt8):Bool:=v8 c.toNat||(decide (48<=(c.toNat:Int))&&decide ((c.toNat:Int)<=57))||decide (c.toNat=95)
def fN:List UInt8->Bool
 | []=>false
 |c::r=>decide ((c::r).length<=32)&&v8 c.toNat&&r.all xB
def nG(lo hi:Int):Int:=if lo<0\/127<hi then 3 else if hi<lo then 23 else 0
def QW:Nat->List PD->List aA->Option (PD×List aA):=entry (cK (Em.int .u8) Em.bool λn=>some (v8 n))
theorem GX(n:Int)(fl:Nat)(σ:List aA):QW fl [.int .u8 n] σ=some (.bool (v8 n),σ):=by
 have e:(Em.int .u8).dec (.int .u8 n)=some n:=Em.cT rfl;unfold QW entry cK;simp only[e];rfl
variable{E:aE}(hU:aJ E)
include hU
theorem aLE(h0:E 92=none)(n:Int):aI prog E 92 [.int .u8 n] (Em.bool.aB (v8 n)):=by
 refine aI.aG 17 h0 func92 (h:=?_)
 by_cases a:65<=n
 .by_cases b:n<=90
  .refine aC (A2 @a @b) ?_;simp(disch:=first|omega|(simp;done)|(simp;omega)) [yAu,v8,a,b]<;>try rfl
  .by_cases c:97<=n
   .exact rq
   .exact rq
 .by_cases c:97<=n
  .exact tf
  .exact tf
theorem aLI(h0:E 96=none)(lo hi:Int):aI prog E 96 [.agg [.int .i64 lo,.int .i64 hi]] (.int .i64 (nG lo hi)):=by
 refine aI.aG 18 h0 func96 (h:=?_)
 by_cases a:lo<0
 .refine aC @a ?_;simp(disch:=first|omega|(simp;done)|(simp;omega)) [yAu,nG,a]<;>try rfl
 by_cases b:127<hi
 .refine aC (A2 @a @b) ?_;simp(disch:=first|omega|(simp;done)|(simp;omega)) [yAu,nG,a,b]<;>try rfl
 by_cases c:hi<lo
 .exact sw
 .exact sw
theorem aL0(h0:E 94=none)(n:Int):aI prog E 94 [.int .i64 n] (Em.bool.aB (decide (-256<=n)&&decide (n<=256))):=by
 refine aI.aG 9 h0 func94 (h:=?_)
 by_cases a:-256<=n
 .by_cases b:n<=256
  .exact tv
  .exact tv
 .refine aC @a ?_;simp(disch:=first|omega|(simp;done)|(simp;omega)) [yAu,a]<;>try rfl
theorem aLG(h0:E 60=none)(h1:E 92=some QW)(s:List UInt8)(hs:s.length<=100000):aI prog E 60 [.str s] (Em.bool.aB (fN s)):=by
 by_cases hs0:s=[]
 .subst hs0;refine aI.aG 42 h0 func60 (h:=?_);refine aC trivial ?_;simp(disch:=first|omega|(simp;done)|(simp;omega)) [yAu,fN]<;>try rfl
 obtain⟨c,r,hcr⟩:∃c r,s=c::r:=by cases s with|nil=>exact absurd rfl hs0|cons c r=>exact⟨c,r,rfl⟩
 have hs1:s.isEmpty=false:=by rw[hcr];rfl
 have hx0:s[0]?=some c:=by rw[hcr];rfl
 obtain⟨gY,hx1⟩:=yA.1 hx0;refine aI.aG 42 h0 func60 (h:=?_)
 by_cases a:32<(s.length:Int)
 .have hB:fN s=false:=by rw[hcr];simp[fN,show ¬r.length+1<=32 by rw[hcr]at a;simp at a;omega]
  rw[hB];refine aC (A3 hs0 hs1 @a) ?_;exact ag
 .cases hc:v8 c.toNat with
  |false=>
   have hB:fN s=false:=by rw[hcr];simp[fN,hc]
   rw[hB];refine aC (A9 h1 hs0 hs1 @a hx0 hx1 gY @GX hc) ?_;exact ag
  |true=>
   have hB:fN s=(s.drop 1).all xB:=by rw[hcr];simp only[fN,hc];simp[show r.length+1<=32 by rw[hcr]at a;simp at a;omega]
   rw[hB];clear hB;obtain⟨B,hB⟩:=gn ((s.drop 1).all xB);rw[hB];refine aC (A9 h1 hs0 hs1 @a hx0 hx1 gY @GX hc) ?_;refine Wp.dJ (λm fr σ=>∃(k:Nat),∃gg:Nat->PD,(k+m=s.length/\1<=k/\(s.drop k).all xB=B)/\fr=[.str s,gg 1,gg 2,.int .i64 k,gg 4,gg 5,gg 6,gg 7,gg 8,gg 9,gg 10,gg 11,gg 12,gg 13,gg 14,gg 15,gg 16,gg 17,gg 18,gg 19,gg 20,gg 21,gg 22,gg 23,gg 24,gg 25,gg 26,gg 27,gg 28,gg 29,gg 30,gg 31,gg 32,gg 33,gg 34,gg 35,gg 36,gg 37,gg 38,gg 39,gg 40,gg 41]/\σ=[]) ?_ (s.length-1) (by refine⟨1,?_⟩;exact cE (⟨Cj,Cj,hB⟩))
   rintro m fr σ ⟨k,gg,hI,rfl,rfl⟩
   obtain⟨hm,hk1,hkB⟩:=hI
   by_cases hk:k<s.length
   .have q1:(k:Int)<(s.length:Int):=by omega
    obtain⟨v,hv⟩:=gn (s[k]);have FW:s[k]?=some v:=by rw[yAh hk,hv]
    have hd:s.drop k=v::s.drop (k+1):=by rw[yAq hk,hv]
    have hw:IntKind.i64.wrap ((k:Int)+1)=((k+1:Nat):Int):=Cq;rw[hd,yCh]at hkB;cases hl:v8 v.toNat with
    |true=>
     have hn:xB v=true:=by unfold xB;rw[hl];rfl
     rw[hn,yBr]at hkB;refine aC (A8 h1 q1 @hk hv FW @GX hl @hw) ?_;exact jm
    |false=>
     have l95:v8 95=false:=Cn;have nC:xB v=((decide (48<=(v.toNat:Int))&&decide ((v.toNat:Int)<=57))||decide (v.toNat=95)):=by unfold xB;rw[hl];rfl
     by_cases b1:(v.toNat:Int)<48
     .have hn:xB v=false:=by rw[nC];simp;omega
      rw[hn,yAY]at hkB;subst hkB;have b3:¬(v.toNat:Int)=95:=Cj;refine aC (A10 h1 q1 @hk hv FW @GX hl @hw b1 b3) ?_;exact ag
     .by_cases b2:57<(v.toNat:Int)
      .by_cases b3:(v.toNat:Int)=95
       .have hn:xB v=true:=by rw[nC];simp;omega
        rw[hn,yBr]at hkB;refine aC (A12 h1 q1 @hk hv FW @GX hl @hw b1 b2 b3 l95) ?_;exact jm
       .have hn:xB v=false:=by rw[nC];simp;omega
        rw[hn,yAY]at hkB;subst hkB;refine aC (A11 h1 q1 @hk hv FW @GX hl @hw b1 b2 b3) ?_;exact ag
      .have hn:xB v=true:=by rw[nC];simp;omega
       rw[hn,yBr]at hkB;refine aC (A10 h1 q1 @hk hv FW @GX hl @hw b1 b2) ?_;exact jm
   .have q1:¬(k:Int)<(s.length:Int):=by omega
    obtain rfl:k=s.length:=Cj;rw[yCD]at hkB;subst hkB;refine aC q1 ?_;exact ag
end
section
variable{E:aE}(hU:aJ E)
include hU
theorem aLg(h0:E 70=none)(l r:List Int)(hl:l.length<=1000000)(hr:r.length<=1000000):aI prog E 70 [(gH).aB l,(gH).aB r] (Em.bool.aB (decide (l=r))):=by
 refine aI.aG 26 h0 func70 (h:=?_)
 by_cases hq:l.length=r.length
 .have dH:(l.length:Int)=(r.length:Int):=by omega
  obtain⟨B,hB⟩:∃B,decide (l=r)=B:=⟨_,rfl⟩;rw[hB];refine aC Bn ?_;refine Wp.dJ (λm fr σ=>∃(i:Nat),∃gg:Nat->PD,(i+m=l.length/\decide (l.drop i=r.drop i)=B)/\fr=[(gH).aB l,(gH).aB r,gg 2,gg 3,.bool false,gg 5,gg 6,gg 7,gg 8,gg 9,gg 10,(gH).aB l,.int .i64 l.length,.int .i64 i,gg 14,gg 15,gg 16,gg 17,gg 18,gg 19,gg 20,gg 21,gg 22,gg 23,gg 24,gg 25]/\σ=[]) ?_ (l.length) (by refine⟨0,?_⟩;exact p6 (⟨Cj,hB⟩) Cm Cm)
  rintro m fr σ ⟨i,gg,hI,rfl,rfl⟩
  obtain⟨hm,hs⟩:=hI
  by_cases hi:i<l.length
  .have q1:(i:Int)<(l.length:Int):=by omega
   have hir:i<r.length:=Cj;have q2:(i:Int)<(r.length:Int):=Cj;obtain⟨a,ha⟩:=gn (l[i]);obtain⟨b,hb⟩:=gn (r[i]);have dX:l.drop i=a::l.drop (i+1):=Cv;have hc2:r.drop i=b::r.drop (i+1):=Dt;exact zu
  .have q1:¬(i:Int)<(l.length:Int):=by omega
   exact yz
 .exact bh
theorem aLi(h0:E 108=none)(l r:List dL)(hl:l.length<=1000000)(hr:r.length<=1000000):aI prog E 108 [(gJ).aB l,(gJ).aB r] (Em.bool.aB (decide (l=r))):=by
 refine aI.aG 26 h0 func108 (h:=?_)
 by_cases hq:l.length=r.length
 .have dH:(l.length:Int)=(r.length:Int):=by omega
  obtain⟨B,hB⟩:∃B,decide (l=r)=B:=⟨_,rfl⟩;rw[hB];refine aC Bn ?_;refine Wp.dJ (λm fr σ=>∃(i:Nat),∃gg:Nat->PD,(i+m=l.length/\decide (l.drop i=r.drop i)=B)/\fr=[(gJ).aB l,(gJ).aB r,gg 2,gg 3,.bool false,gg 5,gg 6,gg 7,gg 8,gg 9,gg 10,(gJ).aB l,.int .i64 l.length,.int .i64 i,gg 14,gg 15,gg 16,gg 17,gg 18,gg 19,gg 20,gg 21,gg 22,gg 23,gg 24,gg 25]/\σ=[]) ?_ (l.length) (by refine⟨0,?_⟩;exact p6 (⟨Cj,hB⟩) Cm Cm);exact yx
 .exact bh
theorem aLk(h0:E 36=none)(l r:List bX)(hl:l.length<=1000000)(hr:r.length<=1000000):aI prog E 36 [(qM).aB l,(qM).aB r] (Em.bool.aB (decide (l=r))):=by
 refine aI.aG 26 h0 func36 (h:=?_)
 by_cases hq:l.length=r.length
 .have dH:(l.length:Int)=(r.length:Int):=by omega
  obtain⟨B,hB⟩:∃B,decide (l=r)=B:=⟨_,rfl⟩;rw[hB];refine aC Bn ?_;refine Wp.dJ (λm fr σ=>∃(i:Nat),∃gg:Nat->PD,(i+m=l.length/\decide (l.drop i=r.drop i)=B)/\fr=[(qM).aB l,(qM).aB r,gg 2,gg 3,.bool false,gg 5,gg 6,gg 7,gg 8,gg 9,gg 10,(qM).aB l,.int .i64 l.length,.int .i64 i,gg 14,gg 15,gg 16,gg 17,gg 18,gg 19,gg 20,gg 21,gg 22,gg 23,gg 24,gg 25]/\σ=[]) ?_ (l.length) (by refine⟨0,?_⟩;exact p6 (⟨Cj,hB⟩) Cm Cm)
  rintro m fr σ ⟨i,gg,hI,rfl,rfl⟩
  obtain⟨hm,hs⟩:=hI
  by_cases hi:i<l.length
  .have q1:(i:Int)<(l.length:Int):=by omega
   have hir:i<r.length:=Cj;have q2:(i:Int)<(r.length:Int):=Cj;obtain⟨a,ha⟩:=gn (l[i]);obtain⟨b,hb⟩:=gn (r[i]);have dX:l.drop i=a::l.drop (i+1):=Cv;have hc2:r.drop i=b::r.drop (i+1):=Dt;rw[dX,hc2,tE]at hs;obtain⟨a0,a1,a2,a3,a4⟩:=a;obtain⟨b0,b1,b2,b3,b4⟩:=b
   by_cases e0:a0=b0
   rotate_left
   .rw[show decide ((⟨a0,a1,a2,a3,a4⟩:bX)=⟨b0,b1,b2,b3,b4⟩)=false by simp[e0],yAY]at hs;refine aC (A7 q1 q2 hi hir ha @hb @e0) ?_;exact cj
   by_cases e1:a1=b1
   rotate_left
   .rw[show decide ((⟨a0,a1,a2,a3,a4⟩:bX)=⟨b0,b1,b2,b3,b4⟩)=false by simp[e1],yAY]at hs;refine aC (A8 q1 q2 hi hir ha @hb @e0 e1) ?_;exact cj
   by_cases e2:a2=b2
   rotate_left
   .rw[show decide ((⟨a0,a1,a2,a3,a4⟩:bX)=⟨b0,b1,b2,b3,b4⟩)=false by simp[e2],yAY]at hs;refine aC (A9 q1 q2 hi hir ha @hb @e0 e1 e2) ?_;exact cj
   by_cases e3:a3=b3
   rotate_left
   .rw[show decide ((⟨a0,a1,a2,a3,a4⟩:bX)=⟨b0,b1,b2,b3,b4⟩)=false by simp[e3],yAY]at hs;refine aC (A10 q1 q2 hi hir ha @hb @e0 e1 e2 e3) ?_;exact cj
   by_cases e4:a4=b4
   rotate_left
   .rw[show decide ((⟨a0,a1,a2,a3,a4⟩:bX)=⟨b0,b1,b2,b3,b4⟩)=false by simp[e4],yAY]at hs;refine aC (A11 q1 q2 hi hir ha @hb @e0 e1 e2 e3 e4) ?_;exact cj
   rw[show decide ((⟨a0,a1,a2,a3,a4⟩:bX)=⟨b0,b1,b2,b3,b4⟩)=true by simp[e0,e1,e2,e3,e4],yBr]at hs;refine aC (A11 q1 q2 hi hir ha @hb @e0 e1 e2 e3 e4) ?_;exact bl
  .have q1:¬(i:Int)<(l.length:Int):=by omega
   exact yz
 .exact bh
end
section
variable{E:aE}(hU:aJ E)
include hU
theorem aLo(h0:E 32=none)(h1:E 33=some (fH Em.aL gS))(l r:List bH)(hl:l.length<=1000000/\∀x∈l,gS x)(hr:r.length<=1000000/\∀x∈r,gS x) :
  aI prog E 32 [(aR).aB l,(aR).aB r,.func 33 []] (Em.bool.aB (decide (l=r))):=by
 have hl1:=hl.1;have nU:=hr.1;refine aI.aG 32 h0 func32 (h:=?_)
 by_cases hq:l.length=r.length
 .have dH:(l.length:Int)=(r.length:Int):=by omega
  obtain⟨B,hB⟩:∃B,decide (l=r)=B:=⟨_,rfl⟩;rw[hB];refine aC Bn ?_;refine Wp.dJ (λm fr σ=>∃(i:Nat) (σ1:List aA),∃gg:Nat->PD,(i+m=l.length/\decide (l.drop i=r.drop i)=B)/\fr=[(aR).aB l,(aR).aB r,.func 33 [],gg 3,gg 4,gg 5,.bool false,gg 7,gg 8,gg 9,(aR).aB l,gg 11,gg 12,gg 13,gg 14,(aR).aB l,.int .i64 l.length,.int .i64 i,gg 18,gg 19,gg 20,gg 21,gg 22,gg 23,gg 24,gg 25,gg 26,gg 27,gg 28,gg 29,gg 30,gg 31]/\σ=σ1) ?_ (l.length) (by refine⟨0,[],?_⟩;exact p6 (⟨Cj,hB⟩) Cm Cm)
  rintro m fr σ ⟨i,σ1,gg,hI,rfl,rfl⟩
  obtain⟨hm,hs⟩:=hI
  by_cases hi:i<l.length
  .have q1:(i:Int)<(l.length:Int):=by omega
   have hir:i<r.length:=Cj;obtain⟨a,ha⟩:=gn (l[i]);obtain⟨b,hb⟩:=gn (r[i]);have dX:l.drop i=a::l.drop (i+1):=Cv;have hc2:r.drop i=b::r.drop (i+1):=Dt;rw[dX,hc2,tE]at hs;have j0:∀x y:aA,(σ++[x,y])[σ.length]?=some x:=λx y=>Ck
   have j1:∀x y:aA,(σ++[x,y])[σ.length+1]?=some y:=λx y=>Ck
   have q2:(i:Int)<(r.length:Int):=Cj;have hE:=λfl σ=>oR (a:=Em.aL) (hl.2 a (ha▸yAm hi)) (hr.2 b (hb▸yAm hir)) fl σ
   by_cases hab:a=b
   rotate_left
   .rw[yBe hab,yAY]at hs;rw[yBe hab]at hE;simp only[oB,aU]at hE;exact yy
   .rw[yAX hab,yBr]at hs;rw[yAX hab]at hE;simp only[oB,aU]at hE;exact ck
  .exact ze
 .exact bh
theorem aLA(h0:E 34=none)(h1:E 35=some (fH Em.div gT))(l r:List bI)(hl:l.length<=1000000/\∀x∈l,gT x)(hr:r.length<=1000000/\∀x∈r,gT x) :
  aI prog E 34 [(tD).aB l,(tD).aB r,.func 35 []] (Em.bool.aB (decide (l=r))):=by
 have hl1:=hl.1;have nU:=hr.1;refine aI.aG 32 h0 func34 (h:=?_)
 by_cases hq:l.length=r.length
 .have dH:(l.length:Int)=(r.length:Int):=by omega
  obtain⟨B,hB⟩:∃B,decide (l=r)=B:=⟨_,rfl⟩;rw[hB];refine aC Bn ?_;refine Wp.dJ (λm fr σ=>∃(i:Nat) (σ1:List aA),∃gg:Nat->PD,(i+m=l.length/\decide (l.drop i=r.drop i)=B)/\fr=[(tD).aB l,(tD).aB r,.func 35 [],gg 3,gg 4,gg 5,.bool false,gg 7,gg 8,gg 9,(tD).aB l,gg 11,gg 12,gg 13,gg 14,(tD).aB l,.int .i64 l.length,.int .i64 i,gg 18,gg 19,gg 20,gg 21,gg 22,gg 23,gg 24,gg 25,gg 26,gg 27,gg 28,gg 29,gg 30,gg 31]/\σ=σ1) ?_ (l.length) (by refine⟨0,[],?_⟩;exact p6 (⟨Cj,hB⟩) Cm Cm)
  rintro m fr σ ⟨i,σ1,gg,hI,rfl,rfl⟩
  obtain⟨hm,hs⟩:=hI
  by_cases hi:i<l.length
  .have q1:(i:Int)<(l.length:Int):=by omega
   have hir:i<r.length:=Cj;obtain⟨a,ha⟩:=gn (l[i]);obtain⟨b,hb⟩:=gn (r[i]);have dX:l.drop i=a::l.drop (i+1):=Cv;have hc2:r.drop i=b::r.drop (i+1):=Dt;rw[dX,hc2,tE]at hs;have j0:∀x y:aA,(σ++[x,y])[σ.length]?=some x:=λx y=>Ck
   have j1:∀x y:aA,(σ++[x,y])[σ.length+1]?=some y:=λx y=>Ck
   have q2:(i:Int)<(r.length:Int):=Cj;have hE:=λfl σ=>oR (a:=Em.div) (hl.2 a (ha▸yAm hi)) (hr.2 b (hb▸yAm hir)) fl σ
   by_cases hab:a=b
   rotate_left
   .rw[yBe hab,yAY]at hs;rw[yBe hab]at hE;simp only[nL,aU]at hE;exact yy
   .rw[yAX hab,yBr]at hs;rw[yAX hab]at hE;simp only[nL,aU]at hE;exact ck
  .exact ze
 .exact bh
theorem aLw(h0:E 71=none)(h1:E 72=some (fH Em.stop jQ))(l r:List cJ)(hl:l.length<=1000000/\∀x∈l,jQ x)(hr:r.length<=1000000/\∀x∈r,jQ x) :
  aI prog E 71 [(oC).aB l,(oC).aB r,.func 72 []] (Em.bool.aB (decide (l=r))):=by
 have hl1:=hl.1;have nU:=hr.1;refine aI.aG 32 h0 func71 (h:=?_)
 by_cases hq:l.length=r.length
 .have dH:(l.length:Int)=(r.length:Int):=by omega
  obtain⟨B,hB⟩:∃B,decide (l=r)=B:=⟨_,rfl⟩;rw[hB];refine aC Bn ?_;refine Wp.dJ (λm fr σ=>∃(i:Nat) (σ1:List aA),∃gg:Nat->PD,(i+m=l.length/\decide (l.drop i=r.drop i)=B)/\fr=[(oC).aB l,(oC).aB r,.func 72 [],gg 3,gg 4,gg 5,.bool false,gg 7,gg 8,gg 9,(oC).aB l,gg 11,gg 12,gg 13,gg 14,(oC).aB l,.int .i64 l.length,.int .i64 i,gg 18,gg 19,gg 20,gg 21,gg 22,gg 23,gg 24,gg 25,gg 26,gg 27,gg 28,gg 29,gg 30,gg 31]/\σ=σ1) ?_ (l.length) (by refine⟨0,[],?_⟩;exact p6 (⟨Cj,hB⟩) Cm Cm)
  rintro m fr σ ⟨i,σ1,gg,hI,rfl,rfl⟩
  obtain⟨hm,hs⟩:=hI
  by_cases hi:i<l.length
  .have q1:(i:Int)<(l.length:Int):=by omega
   have hir:i<r.length:=Cj;obtain⟨a,ha⟩:=gn (l[i]);obtain⟨b,hb⟩:=gn (r[i]);have dX:l.drop i=a::l.drop (i+1):=Cv;have hc2:r.drop i=b::r.drop (i+1):=Dt;rw[dX,hc2,tE]at hs;have j0:∀x y:aA,(σ++[x,y])[σ.length]?=some x:=λx y=>Ck
   have j1:∀x y:aA,(σ++[x,y])[σ.length+1]?=some y:=λx y=>Ck
   have q2:(i:Int)<(r.length:Int):=Cj;have hE:=λfl σ=>oR (a:=Em.stop) (hl.2 a (ha▸yAm hi)) (hr.2 b (hb▸yAm hir)) fl σ
   by_cases hab:a=b
   rotate_left
   .rw[yBe hab,yAY]at hs;rw[yBe hab]at hE;simp only[pZ,aU]at hE;exact yy
   .rw[yAX hab,yBr]at hs;rw[yAX hab]at hE;simp only[pZ,aU]at hE;exact ck
  .exact ze
 .exact bh
theorem aLs(h0:E 106=none)(h1:E 107=some (fH Em.eZ wE))(l r:List jA)(hl:l.length<=1000000/\∀x∈l,wE x)(hr:r.length<=1000000/\∀x∈r,wE x) :
  aI prog E 106 [(oQ).aB l,(oQ).aB r,.func 107 []] (Em.bool.aB (decide (l=r))):=by
 have hl1:=hl.1;have nU:=hr.1;refine aI.aG 32 h0 func106 (h:=?_)
 by_cases hq:l.length=r.length
 .have dH:(l.length:Int)=(r.length:Int):=by omega
  obtain⟨B,hB⟩:∃B,decide (l=r)=B:=⟨_,rfl⟩;rw[hB];refine aC Bn ?_;refine Wp.dJ (λm fr σ=>∃(i:Nat) (σ1:List aA),∃gg:Nat->PD,(i+m=l.length/\decide (l.drop i=r.drop i)=B)/\fr=[(oQ).aB l,(oQ).aB r,.func 107 [],gg 3,gg 4,gg 5,.bool false,gg 7,gg 8,gg 9,(oQ).aB l,gg 11,gg 12,gg 13,gg 14,(oQ).aB l,.int .i64 l.length,.int .i64 i,gg 18,gg 19,gg 20,gg 21,gg 22,gg 23,gg 24,gg 25,gg 26,gg 27,gg 28,gg 29,gg 30,gg 31]/\σ=σ1) ?_ (l.length) (by refine⟨0,[],?_⟩;exact p6 (⟨Cj,hB⟩) Cm Cm)
  rintro m fr σ ⟨i,σ1,gg,hI,rfl,rfl⟩
  obtain⟨hm,hs⟩:=hI
  by_cases hi:i<l.length
  .have q1:(i:Int)<(l.length:Int):=by omega
   have hir:i<r.length:=Cj;obtain⟨a,ha⟩:=gn (l[i]);obtain⟨b,hb⟩:=gn (r[i]);have dX:l.drop i=a::l.drop (i+1):=Cv;have hc2:r.drop i=b::r.drop (i+1):=Dt;rw[dX,hc2,tE]at hs;have j0:∀x y:aA,(σ++[x,y])[σ.length]?=some x:=λx y=>Ck
   have j1:∀x y:aA,(σ++[x,y])[σ.length+1]?=some y:=λx y=>Ck
   have q2:(i:Int)<(r.length:Int):=Cj;have hE:=λfl σ=>oR (a:=Em.eZ) (hl.2 a (ha▸yAm hi)) (hr.2 b (hb▸yAm hir)) fl σ
   by_cases hab:a=b
   rotate_left
   .rw[yBe hab,yAY]at hs;rw[yBe hab]at hE;simp only[KH,aU]at hE;exact yy
   .rw[yAX hab,yBr]at hs;rw[yAX hab]at hE;simp only[KH,aU]at hE;exact ck
  .exact ze
 .exact bh
end
section
variable{E:aE}(hU:aJ E)
include hU
theorem aLm(h0:E 33=none)(h1:E 70=some (fH gH KI))(a b:bH)(hx:gS a)(hy:gS b):aI prog E 33 [Em.aL.aB a,Em.aL.aB b] (Em.bool.aB (decide (a=b))):=by
 obtain⟨a0,a1,a2,a3,a4,a5⟩:=a;obtain⟨b0,b1,b2,b3,b4,b5⟩:=b;simp only[oB,aU];refine aI.aG 38 h0 func33 (h:=?_)
 by_cases e0:a0=b0
 rotate_left
 .have f0:(a0==b0)=false:=by simpa using e0
  refine aC (A3 h1 @e0 @f0) ?_;exact vp
 by_cases e1:a1=b1
 rotate_left
 .have f1:(a1==b1)=false:=by simpa using e1
  refine aC (A4 h1 @e0 e1 @f1) ?_;exact vr
 by_cases e2:a2=b2
 rotate_left
 .refine aC (A4 h1 @e0 e1 e2) ?_;exact vu
 by_cases e3:a3=b3
 rotate_left
 .refine aC (A5 h1 @e0 e1 e2 e3) ?_;exact vw
 by_cases e4:a4=b4
 rotate_left
 .refine aC (A6 h1 @e0 e1 e2 e3 e4) ?_;exact vz
 have l5:=λfl σ=>oR (a:=gH) (R:=KI) (x:=a5) (y:=b5) (hx) (hy) fl σ
 simp only[aU]at l5;obtain⟨B5,hB5⟩:∃B,decide (a5=b5)=B:=⟨_,rfl⟩;rw[hB5]at l5;refine aC (A7 h1 @e0 e1 e2 e3 e4 l5) ?_;simp(disch:=first|omega|(simp;done)|(simp;omega)) [yAu,bH.mk.injEq,e0,e1,e2,e3,e4,hB5]<;>try rfl
theorem aLq(h0:E 107=none)(h1:E 108=some (fH gJ yU))(a b:jA)(hx:wE a)(hy:wE b):aI prog E 107 [Em.eZ.aB a,Em.eZ.aB b] (Em.bool.aB (decide (a=b))):=by
 obtain⟨a0,a1,a2⟩:=a;obtain⟨b0,b1,b2⟩:=b;simp only[KH,aU];refine aI.aG 24 h0 func107 (h:=?_)
 by_cases e0:a0=b0
 rotate_left
 .refine aC (A2 h1 @e0) ?_;simp(disch:=first|omega|(simp;done)|(simp;omega)) [yAu,jA.mk.injEq,e0]<;>try rfl
 by_cases e1:a1=b1
 rotate_left
 .refine aC (A3 h1 @e0 e1) ?_;simp(disch:=first|omega|(simp;done)|(simp;omega)) [yAu,jA.mk.injEq,e1]<;>try rfl
 have l2:=λfl σ=>oR (a:=gJ) (R:=yU) (x:=a2) (y:=b2) (hx) (hy) fl σ
 simp only[aU]at l2;obtain⟨B2,cI⟩:∃B,decide (a2=b2)=B:=⟨_,rfl⟩;rw[cI]at l2;refine aC (A4 h1 @e0 e1 l2) ?_;simp(disch:=first|omega|(simp;done)|(simp;omega)) [yAu,jA.mk.injEq,e0,e1,cI]<;>try rfl
theorem aLu(h0:E 72=none)(h1:E 106=some (xH oQ OQ 107))(a b:cJ)(hx:jQ a)(hy:jQ b):aI prog E 72 [Em.stop.aB a,Em.stop.aB b] (Em.bool.aB (decide (a=b))):=by
 obtain⟨a0,a1,a2,a3⟩:=a;obtain⟨b0,b1,b2,b3⟩:=b;simp only[pZ,aU];refine aI.aG 24 h0 func72 (h:=?_)
 by_cases e0:a0=b0
 rotate_left
 .have f0:(a0==b0)=false:=by simpa using e0
  refine aC (A4 h1 @uV @e0 @f0) ?_;exact wg
 by_cases e1:a1=b1
 rotate_left
 .refine aC (A4 h1 @uV @e0 e1) ?_;exact wj
 by_cases e2:a2=b2
 rotate_left
 .refine aC (A5 h1 @uV @e0 e1 e2) ?_;exact wm
 have l3:=λfl σ=>oR (a:=oQ) (R:=OQ) (x:=a3) (y:=b3) (hx) (hy) fl σ
 simp only[aU]at l3;obtain⟨B3,EK⟩:∃B,decide (a3=b3)=B:=⟨_,rfl⟩;rw[EK]at l3;refine aC (A6 h1 @uV @e0 e1 e2 l3) ?_;simp(disch:=first|omega|(simp;done)|(simp;omega)) [yAu,cJ.mk.injEq,e0,e1,e2,EK]<;>try rfl
theorem aLy(h0:E 35=none)(h1:E 71=some (xH oC OR 72))(a b:bI)(hx:gT a)(hy:gT b):aI prog E 35 [Em.div.aB a,Em.div.aB b] (Em.bool.aB (decide (a=b))):=by
 obtain⟨a0,a1,a2,a3,a4⟩:=a;obtain⟨b0,b1,b2,b3,b4⟩:=b;simp only[nL,aU];refine aI.aG 31 h0 func35 (h:=?_)
 by_cases e0:a0=b0
 rotate_left
 .have f0:(a0==b0)=false:=by simpa using e0
  refine aC (A4 h1 @uV @e0 @f0) ?_;exact wo
 by_cases e1:a1=b1
 rotate_left
 .have f1:(a1==b1)=false:=by simpa using e1
  refine aC (A5 h1 @uV @e0 e1 @f1) ?_;exact wq
 by_cases e2:a2=b2
 rotate_left
 .refine aC (A5 h1 @uV @e0 e1 e2) ?_;exact wu
 by_cases e3:a3=b3
 rotate_left
 .refine aC (A6 h1 @uV @e0 e1 e2 e3) ?_;exact xe
 have l4:=λfl σ=>oR (a:=oC) (R:=OR) (x:=a4) (y:=b4) (hx) (hy) fl σ
 simp only[aU]at l4;obtain⟨B4,hB4⟩:∃B,decide (a4=b4)=B:=⟨_,rfl⟩;rw[hB4]at l4;refine aC (A7 h1 @uV @e0 e1 e2 e3 l4) ?_;simp(disch:=first|omega|(simp;done)|(simp;omega)) [yAu,bI.mk.injEq,e0,e1,e2,e3,hB4]<;>try rfl
theorem aLC(h0:E 14=none)(h1:E 32=some (xH aR OP 33))(h2:E 34=some (xH tD OS 35))(h3:E 36=some (fH qM OO))(a b:aV)(hx:eF a)(hy:eF b):aI prog E 14 [Em.bB.aB a,Em.bB.aB b] (Em.bool.aB (decide (a=b))):=by
 obtain⟨a0,a1,a2,a3⟩:=a;obtain⟨b0,b1,b2,b3⟩:=b;simp only[dT,aU];refine aI.aG 31 h0 func14 (h:=?_)
 by_cases e0:a0=b0
 rotate_left
 .have f0:(a0==b0)=false:=by simpa using e0
  refine aC (A6 h1 h2 h3 @uV @e0 @f0) ?_;exact xg
 have l1:=λfl σ=>oR (a:=aR) (R:=OP) (x:=a1) (y:=b1) (hx.1) (hy.1) fl σ
 simp only[aU]at l1;obtain⟨B1,JZ⟩:∃B,decide (a1=b1)=B:=⟨_,rfl⟩;rw[JZ]at l1;cases B1 with
 |false=>
  have e1:¬a1=b1:=by simpa using JZ
  refine aC (A6 h1 h2 h3 @uV @e0 l1) ?_;simp(disch:=first|omega|(simp;done)|(simp;omega)) [yAu,aV.mk.injEq,e1]<;>try rfl
 |true=>
 have e1:a1=b1:=by simpa using JZ
 have l2:=λfl σ=>oR (a:=tD) (R:=OS) (x:=a2) (y:=b2) (hx.2.1) (hy.2.1) fl σ
 simp only[aU]at l2;obtain⟨B2,cI⟩:∃B,decide (a2=b2)=B:=⟨_,rfl⟩;rw[cI]at l2;cases B2 with
 |false=>
  have e2:¬a2=b2:=by simpa using cI
  refine aC (A7 h1 h2 h3 @uV @e0 l1 l2) ?_;simp(disch:=first|omega|(simp;done)|(simp;omega)) [yAu,aV.mk.injEq,e2]<;>try rfl
 |true=>
 have e2:a2=b2:=by simpa using cI
 have l3:=λfl σ=>oR (a:=qM) (R:=OO) (x:=a3) (y:=b3) (hx.2.2) (hy.2.2) fl σ
 simp only[aU]at l3;obtain⟨B3,EK⟩:∃B,decide (a3=b3)=B:=⟨_,rfl⟩;rw[EK]at l3;refine aC (A8 h1 h2 h3 @uV @e0 l1 l2 l3) ?_;simp(disch:=first|omega|(simp;done)|(simp;omega)) [yAu,aV.mk.injEq,e0,e1,e2,EK]<;>try rfl
end
section
variable{E:aE}(hU:aJ E)
include hU
theorem aMF(h0:E 88=none)(l r:List dL)(hl:l.length<=1000000)(hr:r.length<=1000000):aI prog E 88 [gJ.aB l,gJ.aB r] (Em.bool.aB (decide (l=r))):=by
 refine aI.aG 26 h0 func88 (h:=?_)
 by_cases hq:l.length=r.length
 .have dH:(l.length:Int)=(r.length:Int):=by omega
  obtain⟨B,hB⟩:∃B,decide (l=r)=B:=⟨_,rfl⟩;rw[hB];refine aC Bn ?_;refine Wp.dJ (λm fr σ=>∃(i:Nat),∃gg:Nat->PD,(i+m=l.length/\decide (l.drop i=r.drop i)=B)/\fr=[gJ.aB l,gJ.aB r,gg 2,gg 3,.bool false,.int .i64 i,gg 6,gg 7,gg 8,gg 9,gg 10,gg 11,gg 12,gg 13,gg 14,gg 15,gg 16,gg 17,gg 18,gg 19,gg 20,gg 21,gg 22,gg 23,gg 24,gg 25]/\σ=[]) ?_ (l.length) (by refine⟨0,?_⟩;exact p6 (⟨Cj,hB⟩) Cm Cm);exact yx
 .exact bh
theorem aMH(h0:E 37=none)(a b:bH)(hx:gS a)(hy:gS b):aI prog E 37 [Em.aL.aB a,Em.aL.aB b] (Em.bool.aB (decide (a=b))):=by
 obtain⟨a0,a1,a2,a3,a4,a5⟩:=a;obtain⟨b0,b1,b2,b3,b4,b5⟩:=b;simp only[oB,aU];refine aI.aG 59 h0 func37 (h:=?_)
 by_cases e0:a0=b0
 rotate_left
 .have f0:(a0==b0)=false:=by simpa using e0
  refine aC (A2 @e0 @f0) ?_;exact vp
 by_cases e1:a1=b1
 rotate_left
 .have f1:(a1==b1)=false:=by simpa using e1
  refine aC (A3 @e0 e1 @f1) ?_;exact vr
 by_cases e2:a2=b2
 rotate_left
 .refine aC (A3 @e0 e1 e2) ?_;exact vu
 by_cases e3:a3=b3
 rotate_left
 .refine aC (A4 @e0 e1 e2 e3) ?_;exact vw
 by_cases e4:a4=b4
 rotate_left
 .refine aC (A5 @e0 e1 e2 e3 e4) ?_;exact vz
 by_cases hq:a5.length=b5.length
 rotate_left
 .have dH:¬(a5.length:Int)=(b5.length:Int):=by omega
  have hF:=tF hq;have hne:¬a5=b5:=by simpa using hF
  refine aC (A7 @e0 e1 e2 e3 e4 @hq dH) ?_;simp(disch:=first|omega|(simp;done)|(simp;omega)) [yAu,bH.mk.injEq,hne]<;>try rfl
 have dH:(a5.length:Int)=(b5.length:Int):=Cj;have hx1:a5.length<=1000000:=hx;obtain⟨B,hB⟩:∃B,decide (a5=b5)=B:=⟨_,rfl⟩;rw[show decide ((⟨a0,a1,a2,a3,a4,a5⟩:bH)=⟨b0,b1,b2,b3,b4,b5⟩)=B by rw[<-hB];simp[e0,e1,e2,e3,e4]];refine aC (A7 @e0 e1 e2 e3 e4 @hq dH) ?_;refine Wp.dJ (λm fr σ=>∃(i:Nat),∃gg:Nat->PD,(i+m=a5.length/\decide (a5.drop i=b5.drop i)=B)/\fr=[gg 0,gg 1,.ptr 0 0,.ptr 1 0,.bool false,.int .i64 i,gg 6,gg 7,gg 8,gg 9,gg 10,gg 11,gg 12,gg 13,gg 14,gg 15,gg 16,gg 17,gg 18,gg 19,gg 20,gg 21,gg 22,gg 23,gg 24,gg 25,gg 26,gg 27,gg 28,gg 29,gg 30,gg 31,gg 32,gg 33,gg 34,gg 35,gg 36,gg 37,gg 38,gg 39,gg 40,gg 41,gg 42,gg 43,gg 44,gg 45,gg 46,gg 47,gg 48,gg 49,gg 50,gg 51,gg 52,gg 53,gg 54,gg 55,gg 56,gg 57,gg 58]/\σ=[.box (.agg [.str a0,.str a1,.int .i64 a2,.int .i64 a3,.int .i64 a4,.slice (sz 1 a5) (a5.map i64.aB) .any]),.box (.agg [.str b0,.str b1,.int .i64 b2,.int .i64 b3,.int .i64 b4,.slice (sz 1 b5) (b5.map i64.aB) .any])]) ?_ (a5.length) (by refine⟨0,?_⟩;exact p6 (⟨Cj,hB⟩) Cm Cm)
 rintro m fr σ ⟨i,gg,hI,rfl,rfl⟩
 obtain⟨hm,hs⟩:=hI
 by_cases hi:i<a5.length
 .have q1:(i:Int)<(a5.length:Int):=by omega
  have hir:i<b5.length:=Cj;have q2:(i:Int)<(b5.length:Int):=Cj;obtain⟨a,ha⟩:=gn (a5[i]);obtain⟨b,hb⟩:=gn (b5[i]);have dX:a5.drop i=a::a5.drop (i+1):=Cv;have hc2:b5.drop i=b::b5.drop (i+1):=Dt;exact zu
 .have q1:¬(i:Int)<(a5.length:Int):=by omega
  exact yz
end
section
variable{E:aE}(hU:aJ E)
include hU
theorem aMJ(h0:E 57=none)(h1:E 88=some (fH gJ yU))(a b:cJ)(hx:jQ a)(hy:jQ b):aI prog E 57 [Em.stop.aB a,Em.stop.aB b] (Em.bool.aB (decide (a=b))):=by
 obtain⟨a0,a1,a2,a3⟩:=a;obtain⟨b0,b1,b2,b3⟩:=b;simp only[pZ,aU];refine aI.aG 66 h0 func57 (h:=?_)
 by_cases e0:a0=b0
 rotate_left
 .have f0:(a0==b0)=false:=by simpa using e0
  refine aC (A2 @e0 @f0) ?_;exact wg
 by_cases e1:a1=b1
 rotate_left
 .refine aC (A2 @e0 e1) ?_;exact wj
 by_cases e2:a2=b2
 rotate_left
 .refine aC (A3 @e0 e1 e2) ?_;exact wm
 by_cases hq:a3.length=b3.length
 rotate_left
 .have dH:¬(a3.length:Int)=(b3.length:Int):=by omega
  have hF:=tF hq;have hne:¬a3=b3:=by simpa using hF
  refine aC (A5 @e0 e1 e2 @hq dH) ?_;simp(disch:=first|omega|(simp;done)|(simp;omega)) [yAu,cJ.mk.injEq,hne]<;>try rfl
 have dH:(a3.length:Int)=(b3.length:Int):=Cj;obtain⟨B,hB⟩:∃B,decide (a3=b3)=B:=⟨_,rfl⟩;rw[show decide ((⟨a0,a1,a2,a3⟩:cJ)=⟨b0,b1,b2,b3⟩)=B by rw[<-hB];simp[e0,e1,e2]];have hx1:a3.length<=1000000:=hx.1;refine aC (A5 @e0 e1 e2 @hq dH) ?_;refine Wp.dJ (λm fr σ=>∃(i:Nat) (σ1:List aA),∃gg:Nat->PD,(i+m=a3.length/\decide (a3.drop i=b3.drop i)=B)/\fr=gg 0::gg 1::.ptr 0 0::.ptr 1 0::.bool false::.int .i64 i::gg 6::gg 7::gg 8::gg 9::gg 10::gg 11::gg 12::gg 13::gg 14::gg 15::gg 16::gg 17::gg 18::gg 19::gg 20::gg 21::gg 22::gg 23::gg 24::gg 25::gg 26::gg 27::gg 28::gg 29::gg 30::gg 31::gg 32::gg 33::gg 34::gg 35::gg 36::gg 37::gg 38::gg 39::gg 40::gg 41::gg 42::gg 43::gg 44::gg 45::gg 46::gg 47::gg 48::gg 49::gg 50::gg 51::gg 52::gg 53::gg 54::gg 55::gg 56::gg 57::gg 58::gg 59::gg 60::gg 61::gg 62::gg 63::gg 64::gg 65::[]/\σ=.box (.agg [.str a0,.int .i64 a1,.int .i64 a2,.slice (sz 3 a3) (a3.map Em.eZ.aB) .any])::.box (.agg [.str b0,.int .i64 b1,.int .i64 b2,.slice (sz 3 b3) (b3.map Em.eZ.aB) .any])::σ1) ?_ (a3.length) (by refine⟨0,[],?_⟩;exact p6 (⟨Cj,hB⟩) Cm Cm)
 rintro m fr σ ⟨i,σ1,gg,hI,rfl,rfl⟩
 obtain⟨hm,hs⟩:=hI
 by_cases hi:i<a3.length
 .have q1:(i:Int)<(a3.length:Int):=by omega
  have hir:i<b3.length:=Cj;have q2:(i:Int)<(b3.length:Int):=Cj;obtain⟨a,ha⟩:=gn (a3[i]);obtain⟨b,hb⟩:=gn (b3[i]);have dX:a3.drop i=a::a3.drop (i+1):=Cv;have hc2:b3.drop i=b::b3.drop (i+1):=Dt;rw[dX,hc2,tE]at hs;have ka:wE a:=hx.2 a (ha▸yAm hi);have kb:wE b:=hy.2 b (hb▸yAm hir);obtain⟨x0,x1,x2⟩:=a;obtain⟨y0,y1,y2⟩:=b;have hE:=λfl σ=>oR (a:=gJ) (R:=yU) (x:=x2) (y:=y2) ka kb fl σ
  simp only[aU]at hE;have j0:∀x y:aA,(σ1++[x,y])[σ1.length]?=some x:=λx y=>Ck
  have j1:∀x y:aA,(σ1++[x,y])[σ1.length+1]?=some y:=λx y=>Ck
  have hseg:∀D,decide (x2=y2)=D->decide ((⟨x0,x1,x2⟩:jA)=⟨y0,y1,y2⟩)=(decide (x0=y0)&&(decide (x1=y1)&&D)):=λD hD=>by
   rw[<-hD]
   by_cases e0:x0=y0<;>by_cases e1:x1=y1<;>by_cases e2:x2=y2<;>simp[e0,e1,e2]
  obtain⟨D,hD⟩:∃D,decide (x2=y2)=D:=⟨_,rfl⟩;rw[hseg D hD]at hs;rw[hD]at hE;refine aC (A6 q1 q2 hi hir ha @hb) ?_
  first|apply Wp.aPA Cs [(41,6),(44,6)] Cp|apply tu Cs [(41,6),(44,6)] Cp
  refine oS (A6 q1 q2 hi hir ha @hb) ?_;apply SQ.nil;refine⟨(by simp[NF,gQ]<;>omega),?_⟩
  by_cases e0:x0=y0
  rotate_left
  .rw[yBe e0,yAY,yAY]at hs;have cI:B=false:=hs.symm
   first|refine Wp.seq ?_|skip
   apply Wp.oE;refine nN (A3 j0 j1 @e0) ?_;exact Av
  rw[yAX e0,yBr]at hs
  by_cases e1:x1=y1
  rotate_left
  .rw[yBe e1,yAY,yAY]at hs;have cI:B=false:=hs.symm
   first|refine Wp.seq ?_|skip
   apply Wp.oE;refine nN (A4 j0 j1 @e0 e1) ?_;exact Av
  rw[yAX e1,yBr]at hs;cases D with
  |false=>
   have cI:B=false:=hs.symm
   first|refine Wp.seq ?_|skip
   apply Wp.oE;refine nN (A6 j0 j1 @e0 e1 h1 hE) ?_;exact Av
  |true=>
   rw[yBr]at hs
   first|refine Wp.seq ?_|skip
   apply Wp.oE;refine nN (A6 j0 j1 @e0 e1 h1 hE) ?_;apply SQ.nil;refine aC trivial ?_;refine bM.normal (m-1) Cj ⟨i+1,_,cE (⟨Cj,hs⟩)⟩
 .have q1:¬(i:Int)<(a3.length:Int):=by omega
  exact yz
theorem aML(h0:E 38=none)(h1:E 57=some (fH Em.stop jQ))(a b:bI)(hx:gT a)(hy:gT b):aI prog E 38 [Em.div.aB a,Em.div.aB b] (Em.bool.aB (decide (a=b))):=by
 obtain⟨a0,a1,a2,a3,a4⟩:=a;obtain⟨b0,b1,b2,b3,b4⟩:=b;simp only[nL,aU];refine aI.aG 53 h0 func38 (h:=?_)
 by_cases e0:a0=b0
 rotate_left
 .have f0:(a0==b0)=false:=by simpa using e0
  refine aC (A2 @e0 @f0) ?_;exact wo
 by_cases e1:a1=b1
 rotate_left
 .have f1:(a1==b1)=false:=by simpa using e1
  refine aC (A3 @e0 e1 @f1) ?_;exact wq
 by_cases e2:a2=b2
 rotate_left
 .refine aC (A3 @e0 e1 e2) ?_;exact wu
 by_cases e3:a3=b3
 rotate_left
 .refine aC (A4 @e0 e1 e2 e3) ?_;exact xe
 by_cases hq:a4.length=b4.length
 rotate_left
 .have dH:¬(a4.length:Int)=(b4.length:Int):=by omega
  have hF:=tF hq;have hne:¬a4=b4:=by simpa using hF
  refine aC (A6 @e0 e1 e2 e3 @hq dH) ?_;simp(disch:=first|omega|(simp;done)|(simp;omega)) [yAu,bI.mk.injEq,hne]<;>try rfl
 have dH:(a4.length:Int)=(b4.length:Int):=Cj;obtain⟨B,hB⟩:∃B,decide (a4=b4)=B:=⟨_,rfl⟩;rw[show decide ((⟨a0,a1,a2,a3,a4⟩:bI)=⟨b0,b1,b2,b3,b4⟩)=B by rw[<-hB];simp[e0,e1,e2,e3]];have hx1:a4.length<=1000000:=hx.1;refine aC (A6 @e0 e1 e2 e3 @hq dH) ?_;refine Wp.dJ (λm fr σ=>∃(i:Nat),∃gg:Nat->PD,(i+m=a4.length/\decide (a4.drop i=b4.drop i)=B)/\fr=[gg 0,gg 1,.ptr 0 0,.ptr 1 0,.bool false,.int .i64 i,gg 6,gg 7,gg 8,gg 9,gg 10,gg 11,gg 12,gg 13,gg 14,gg 15,gg 16,gg 17,gg 18,gg 19,gg 20,gg 21,gg 22,gg 23,gg 24,gg 25,gg 26,gg 27,gg 28,gg 29,gg 30,gg 31,gg 32,gg 33,gg 34,gg 35,gg 36,gg 37,gg 38,gg 39,gg 40,gg 41,gg 42,gg 43,gg 44,gg 45,gg 46,gg 47,gg 48,gg 49,gg 50,gg 51,gg 52]/\σ=[.box (.agg [.str a0,.bool a1,.int .i64 a2,.int .i64 a3,.slice (sz 4 a4) (a4.map Em.stop.aB) .any]),.box (.agg [.str b0,.bool b1,.int .i64 b2,.int .i64 b3,.slice (sz 4 b4) (b4.map Em.stop.aB) .any])]) ?_ (a4.length) (by refine⟨0,?_⟩;exact p6 (⟨Cj,hB⟩) Cm Cm)
 rintro m fr σ ⟨i,gg,hI,rfl,rfl⟩
 obtain⟨hm,hs⟩:=hI
 by_cases hi:i<a4.length
 .have q1:(i:Int)<(a4.length:Int):=by omega
  have hir:i<b4.length:=Cj;have q2:(i:Int)<(b4.length:Int):=Cj;obtain⟨a,ha⟩:=gn (a4[i]);obtain⟨b,hb⟩:=gn (b4[i]);have dX:a4.drop i=a::a4.drop (i+1):=Cv;have hc2:b4.drop i=b::b4.drop (i+1):=Dt;rw[dX,hc2,tE]at hs;have ka:jQ a:=hx.2 a (ha▸yAm hi);have kb:jQ b:=hy.2 b (hb▸yAm hir);have hE:=λfl σ=>oR (a:=Em.stop) ka kb fl σ
  simp only[pZ,aU]at hE
  by_cases e:a=b
  .exact Ba
  .rw[yBe e,yAY]at hs;rw[yBe e]at hE;have cI:B=false:=hs.symm;refine aC (A8 q1 q2 hi hir ha @hb h1 hE) ?_;exact aq
 .have q1:¬(i:Int)<(a4.length:Int):=by omega
  exact yz
theorem aMN(h0:E 15=none)(h1:E 37=some (fH Em.aL gS))(h2:E 38=some (fH Em.div gT))(a b:aV)(hx:eF a)(hy:eF b) :
  aI prog E 15 [Em.bB.aB a,Em.bB.aB b] (Em.bool.aB (decide (a=b))):=by
 obtain⟨a0,a1,a2,a3⟩:=a;obtain⟨b0,b1,b2,b3⟩:=b;simp only[dT,aU];refine aI.aG 96 h0 func15 (h:=?_)
 by_cases e0:a0=b0
 rotate_left
 .have f0:(a0==b0)=false:=by simpa using e0
  refine aC (A2 @e0 @f0) ?_;exact xg
 by_cases l1:a1.length=b1.length
 rotate_left
 .have dH:¬(a1.length:Int)=(b1.length:Int):=by omega
  have hne:¬a1=b1:=by simpa using tF l1
  refine aC (A3 @e0 l1 dH) ?_;exact lf
 by_cases l2:a2.length=b2.length
 rotate_left
 .have dH:¬(a2.length:Int)=(b2.length:Int):=by omega
  have hne:¬a2=b2:=by simpa using tF l2
  refine aC (A4 @e0 l1 l2 dH) ?_;exact lf
 by_cases l3:a3.length=b3.length
 rotate_left
 .have dH:¬(a3.length:Int)=(b3.length:Int):=by omega
  have hne:¬a3=b3:=by simpa using tF l3
  refine aC (A5 @e0 l1 l2 l3 dH) ?_;exact lf
 obtain⟨B1,JZ⟩:∃B,decide (a1=b1)=B:=⟨_,rfl⟩;obtain⟨B2,cI⟩:∃B,decide (a2=b2)=B:=⟨_,rfl⟩;obtain⟨B3,EK⟩:∃B,decide (a3=b3)=B:=⟨_,rfl⟩;rw[show decide ((⟨a0,a1,a2,a3⟩:aV)=⟨b0,b1,b2,b3⟩)=(B1&&(B2&&B3)) by
  rw[<-JZ,<-cI,<-EK]
  by_cases f1:a1=b1<;>by_cases f2:a2=b2<;>by_cases f3:a3=b3<;>simp[e0,f1,f2,f3]]
 have hx1:a1.length<=1000000:=hx.1.1;have hx2:a2.length<=1000000:=hx.2.1.1;have hx3:a3.length<=1000000:=hx.2.2;refine aC (A4 @e0 l1 l2 l3) ?_;refine Wp.dJ (λm fr σ=>∃(i:Nat),∃gg:Nat->PD,(i+m=a1.length/\decide (a1.drop i=b1.drop i)=B1)/\fr=gg 0::gg 1::.ptr 0 0::.ptr 1 0::.bool false::.int .i64 i::gg 6::gg 7::gg 8::gg 9::gg 10::gg 11::gg 12::gg 13::gg 14::gg 15::gg 16::gg 17::gg 18::gg 19::gg 20::gg 21::gg 22::gg 23::gg 24::gg 25::gg 26::gg 27::gg 28::gg 29::gg 30::gg 31::gg 32::gg 33::gg 34::gg 35::gg 36::gg 37::gg 38::gg 39::gg 40::gg 41::gg 42::gg 43::gg 44::gg 45::gg 46::gg 47::gg 48::gg 49::gg 50::gg 51::gg 52::gg 53::gg 54::gg 55::gg 56::gg 57::gg 58::gg 59::gg 60::gg 61::gg 62::gg 63::gg 64::gg 65::gg 66::gg 67::gg 68::gg 69::gg 70::gg 71::gg 72::gg 73::gg 74::gg 75::gg 76::gg 77::gg 78::gg 79::gg 80::gg 81::gg 82::gg 83::gg 84::gg 85::gg 86::gg 87::gg 88::gg 89::gg 90::gg 91::gg 92::gg 93::gg 94::gg 95::[]/\σ=[.box (.agg [.str a0,.slice (sz 6 a1) (a1.map Em.aL.aB) .any,.slice (sz 5 a2) (a2.map Em.div.aB) .any,.slice (sz 5 a3) (a3.map Em.aZ.aB) .any]),.box (.agg [.str b0,.slice (sz 6 b1) (b1.map Em.aL.aB) .any,.slice (sz 5 b2) (b2.map Em.div.aB) .any,.slice (sz 5 b3) (b3.map Em.aZ.aB) .any])]) ?_ (a1.length) (by refine⟨0,?_⟩;exact fQ (⟨Cj,JZ⟩) @l1)
 rintro m fr σ ⟨i,gg,hI,rfl,rfl⟩
 obtain⟨hm,hs⟩:=hI
 by_cases hi:i<a1.length
 .have q1:(i:Int)<(a1.length:Int):=by omega
  have hir:i<b1.length:=Cj;have q2:(i:Int)<(b1.length:Int):=Cj;obtain⟨a,ha⟩:=gn (a1[i]);obtain⟨b,hb⟩:=gn (b1[i]);have dX:a1.drop i=a::a1.drop (i+1):=Cv;have hc2:b1.drop i=b::b1.drop (i+1):=Dt;rw[dX,hc2,tE]at hs;have ka:gS a:=hx.1.2 a (ha▸yAm hi);have kb:gS b:=hy.1.2 b (hb▸yAm hir);have hE:=λfl σ=>oR (a:=Em.aL) ka kb fl σ
  simp only[oB,aU]at hE
  by_cases e:a=b
  .exact Ba
  .rw[yBe e,yAY]at hs;rw[yBe e]at hE;rw[<-hs];refine aC (A8 q1 q2 hi hir ha @hb h1 hE) ?_;exact ag
 .have q1:¬(i:Int)<(a1.length:Int):=by omega
  rw[yAs Cj,yAs Cj]at hs;have N1:B1=true:=hs.symm;subst N1;refine aC q1 ?_;refine Wp.dJ (λm fr σ=>∃(i:Nat),∃gg:Nat->PD,(i+m=a2.length/\decide (a2.drop i=b2.drop i)=B2)/\fr=gg 0::gg 1::.ptr 0 0::.ptr 1 0::.bool false::gg 5::.int .i64 i::gg 7::gg 8::gg 9::gg 10::gg 11::gg 12::gg 13::gg 14::gg 15::gg 16::gg 17::gg 18::gg 19::gg 20::gg 21::gg 22::gg 23::gg 24::gg 25::gg 26::gg 27::gg 28::gg 29::gg 30::gg 31::gg 32::gg 33::gg 34::gg 35::gg 36::gg 37::gg 38::gg 39::gg 40::gg 41::gg 42::gg 43::gg 44::gg 45::gg 46::gg 47::gg 48::gg 49::gg 50::gg 51::gg 52::gg 53::gg 54::gg 55::gg 56::gg 57::gg 58::gg 59::gg 60::gg 61::gg 62::gg 63::gg 64::gg 65::gg 66::gg 67::gg 68::gg 69::gg 70::gg 71::gg 72::gg 73::gg 74::gg 75::gg 76::gg 77::gg 78::gg 79::gg 80::gg 81::gg 82::gg 83::gg 84::gg 85::gg 86::gg 87::gg 88::gg 89::gg 90::gg 91::gg 92::gg 93::gg 94::gg 95::[]/\σ=[.box (.agg [.str a0,.slice (sz 6 a1) (a1.map Em.aL.aB) .any,.slice (sz 5 a2) (a2.map Em.div.aB) .any,.slice (sz 5 a3) (a3.map Em.aZ.aB) .any]),.box (.agg [.str b0,.slice (sz 6 b1) (b1.map Em.aL.aB) .any,.slice (sz 5 b2) (b2.map Em.div.aB) .any,.slice (sz 5 b3) (b3.map Em.aZ.aB) .any])]) ?_ (a2.length) (by refine⟨0,?_⟩;exact fQ (⟨Cj,cI⟩) @l2)
  rintro m fr σ ⟨i,gg,hI,rfl,rfl⟩
  obtain⟨hm,hs⟩:=hI
  by_cases hi:i<a2.length
  .have q1:(i:Int)<(a2.length:Int):=by omega
   have hir:i<b2.length:=Cj;have q2:(i:Int)<(b2.length:Int):=Cj;obtain⟨a,ha⟩:=gn (a2[i]);obtain⟨b,hb⟩:=gn (b2[i]);have dX:a2.drop i=a::a2.drop (i+1):=Cv;have hc2:b2.drop i=b::b2.drop (i+1):=Dt;rw[dX,hc2,tE]at hs;have ka:gT a:=hx.2.1.2 a (ha▸yAm hi);have kb:gT b:=hy.2.1.2 b (hb▸yAm hir);have hE:=λfl σ=>oR (a:=Em.div) ka kb fl σ
   simp only[nL,aU]at hE
   by_cases e:a=b
   .rw[yAX e,yBr]at hs;rw[yAX e]at hE;refine aC (A8 q1 q2 hi hir ha @hb h2 hE) ?_;exact bl
   .rw[yBe e,yAY]at hs;rw[yBe e]at hE;rw[<-hs];refine aC (A8 q1 q2 hi hir ha @hb h2 hE) ?_;exact ag
  .have q1:¬(i:Int)<(a2.length:Int):=by omega
   rw[yAs Cj,yAs Cj]at hs;have N1:B2=true:=hs.symm;subst N1;refine aC q1 ?_;refine Wp.dJ (λm fr σ=>∃(i:Nat),∃gg:Nat->PD,(i+m=a3.length/\decide (a3.drop i=b3.drop i)=B3)/\fr=gg 0::gg 1::.ptr 0 0::.ptr 1 0::.bool false::gg 5::gg 6::.int .i64 i::gg 8::gg 9::gg 10::gg 11::gg 12::gg 13::gg 14::gg 15::gg 16::gg 17::gg 18::gg 19::gg 20::gg 21::gg 22::gg 23::gg 24::gg 25::gg 26::gg 27::gg 28::gg 29::gg 30::gg 31::gg 32::gg 33::gg 34::gg 35::gg 36::gg 37::gg 38::gg 39::gg 40::gg 41::gg 42::gg 43::gg 44::gg 45::gg 46::gg 47::gg 48::gg 49::gg 50::gg 51::gg 52::gg 53::gg 54::gg 55::gg 56::gg 57::gg 58::gg 59::gg 60::gg 61::gg 62::gg 63::gg 64::gg 65::gg 66::gg 67::gg 68::gg 69::gg 70::gg 71::gg 72::gg 73::gg 74::gg 75::gg 76::gg 77::gg 78::gg 79::gg 80::gg 81::gg 82::gg 83::gg 84::gg 85::gg 86::gg 87::gg 88::gg 89::gg 90::gg 91::gg 92::gg 93::gg 94::gg 95::[]/\σ=[.box (.agg [.str a0,.slice (sz 6 a1) (a1.map Em.aL.aB) .any,.slice (sz 5 a2) (a2.map Em.div.aB) .any,.slice (sz 5 a3) (a3.map Em.aZ.aB) .any]),.box (.agg [.str b0,.slice (sz 6 b1) (b1.map Em.aL.aB) .any,.slice (sz 5 b2) (b2.map Em.div.aB) .any,.slice (sz 5 b3) (b3.map Em.aZ.aB) .any])]) ?_ (a3.length) (by refine⟨0,?_⟩;exact fQ (⟨Cj,EK⟩) @l3)
   rintro m fr σ ⟨i,gg,hI,rfl,rfl⟩
   obtain⟨hm,hs⟩:=hI
   by_cases hi:i<a3.length
   .have q1:(i:Int)<(a3.length:Int):=by omega
    have hir:i<b3.length:=Cj;have q2:(i:Int)<(b3.length:Int):=Cj;obtain⟨a,ha⟩:=gn (a3[i]);obtain⟨b,hb⟩:=gn (b3[i]);have dX:a3.drop i=a::a3.drop (i+1):=Cv;have hc2:b3.drop i=b::b3.drop (i+1):=Dt;rw[dX,hc2,tE]at hs;obtain⟨c0,c1,c2,c3,c4⟩:=a;obtain⟨d0,d1,d2,d3,d4⟩:=b
    by_cases f0:c0=d0
    rotate_left
    .rw[show decide ((⟨c0,c1,c2,c3,c4⟩:bX)=⟨d0,d1,d2,d3,d4⟩)=false by simp[f0],yAY]at hs;rw[<-hs];refine aC (A7 q1 q2 hi hir ha @hb @f0) ?_;exact ag
    by_cases f1:c1=d1
    rotate_left
    .rw[show decide ((⟨c0,c1,c2,c3,c4⟩:bX)=⟨d0,d1,d2,d3,d4⟩)=false by simp[f1],yAY]at hs;rw[<-hs];refine aC (A8 q1 q2 hi hir ha @hb @f0 @f1) ?_;exact ag
    by_cases f2:c2=d2
    rotate_left
    .rw[show decide ((⟨c0,c1,c2,c3,c4⟩:bX)=⟨d0,d1,d2,d3,d4⟩)=false by simp[f2],yAY]at hs;rw[<-hs];refine aC (A9 q1 q2 hi hir ha @hb @f0 @f1 @f2) ?_;exact ag
    by_cases f3:c3=d3
    rotate_left
    .rw[show decide ((⟨c0,c1,c2,c3,c4⟩:bX)=⟨d0,d1,d2,d3,d4⟩)=false by simp[f3],yAY]at hs;rw[<-hs];refine aC (A10 q1 q2 hi hir ha @hb @f0 @f1 @f2 @f3) ?_;exact ag
    by_cases f4:c4=d4
    rotate_left
    .rw[show decide ((⟨c0,c1,c2,c3,c4⟩:bX)=⟨d0,d1,d2,d3,d4⟩)=false by simp[f4],yAY]at hs;rw[<-hs];refine aC (A11 q1 q2 hi hir ha @hb @f0 @f1 @f2 @f3 @f4) ?_;exact ag
    rw[show decide ((⟨c0,c1,c2,c3,c4⟩:bX)=⟨d0,d1,d2,d3,d4⟩)=true by simp[f0,f1,f2,f3,f4],yBr]at hs;refine aC (A11 q1 q2 hi hir ha @hb @f0 @f1 @f2 @f3 @f4) ?_;exact bl
   .have q1:¬(i:Int)<(a3.length:Int):=by omega
    rw[yAs Cj,yAs Cj]at hs;have N1:B3=true:=hs.symm;subst N1;refine aC q1 ?_;exact ag
end
end Go.Kz
end
