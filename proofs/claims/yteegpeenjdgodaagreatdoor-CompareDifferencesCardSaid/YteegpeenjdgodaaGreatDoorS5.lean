/- Steps of the proof. -/
import Derived.Test.YteegpeenjdgodaaGreatDoorS3
import Derived.Test.YteegpeenjdgodaaGreatDoorS8
set_option linter.all false
set_option maxHeartbeats 40000000
set_option maxRecDepth 100000
open Go.Proofs.Tryz
noncomputable section
namespace Go.Kz
open Go Go.Proofs
abbrev i64:Em Int:=Em.int .i64
abbrev eS:Em (List Int):=i64.list 1
structure bB where
 name:Ez
 jQ:Ez
 num:Int
 den:Int
 first:Int
 nM:List Int
 deriving DecidableEq
structure cT where
 aG:Int
 shift:Int
 deriving DecidableEq
structure gL where
 lo:Int
 hi:Int
 aT:List cT
 deriving DecidableEq
structure bU where
 name:Ez
 num:Int
 den:Int
 aO:List gL
 deriving DecidableEq
structure bD where
 name:Ez
 eG:Bool
 low:Int
 high:Int
 stops:List bU
 deriving DecidableEq
structure bR where
 name:Ez
 dS:Int
 dst:Int
 shift:Int
 qD:Bool
 deriving DecidableEq
structure aM where
 name:Ez
 aK:List bB
 aD:List bD
 aR:List bR
 deriving DecidableEq
def bE.aG:bE bB:=((bE.one .text).pair ((bE.one .text).pair ((bE.one i64).pair ((bE.one i64).pair ((bE.one i64).pair (.one eS)))))).lM (λr=>(r.name,r.jQ,r.num,r.den,r.first,r.nM)) (λx y h=>yo)
def Em.aG:Em bB:=.agg .aG
@[simp] theorem oD{r:bB}:Em.aG.aA r=.agg [.str r.name,.str r.jQ,.int .i64 r.num,.int .i64 r.den,.int .i64 r.first,eS.aA r.nM]:=rfl
abbrev aK:Em (List bB):=Em.aG.list 6
def bE.draw:bE cT:=((bE.one i64).pair (.one i64)).lM (λr=>(r.aG,r.shift)) (λx y h=>yo)
def Em.draw:Em cT:=.agg .draw
@[simp] theorem CC{r:cT}:Em.draw.aA r=.agg [.int .i64 r.aG,.int .i64 r.shift]:=rfl
abbrev eT:Em (List cT):=Em.draw.list 2
def bE.eU:bE gL:=((bE.one i64).pair ((bE.one i64).pair (.one eT))).lM (λr=>(r.lo,r.hi,r.aT)) (λx y h=>yo)
def Em.eU:Em gL:=.agg .eU
@[simp] theorem G8{r:gL}:Em.eU.aA r=.agg [.int .i64 r.lo,.int .i64 r.hi,eT.aA r.aT]:=rfl
abbrev mS:Em (List gL):=Em.eU.list 3
def bE.stop:bE bU:=((bE.one .text).pair ((bE.one i64).pair ((bE.one i64).pair (.one mS)))).lM (λr=>(r.name,r.num,r.den,r.aO)) (λx y h=>yo)
def Em.stop:Em bU:=.agg .stop
@[simp] theorem qE{r:bU}:Em.stop.aA r=.agg [.str r.name,.int .i64 r.num,.int .i64 r.den,mS.aA r.aO]:=rfl
abbrev l8:Em (List bU):=Em.stop.list 4
def bE.div:bE bD:=((bE.one .text).pair ((bE.one .bool).pair ((bE.one i64).pair ((bE.one i64).pair (.one l8))))).lM (λr=>(r.name,r.eG,r.low,r.high,r.stops)) (λx y h=>yo)
def Em.div:Em bD:=.agg .div
@[simp] theorem nN{r:bD}:Em.div.aA r=.agg [.str r.name,.bool r.eG,.int .i64 r.low,.int .i64 r.high,l8.aA r.stops]:=rfl
abbrev pE:Em (List bD):=Em.div.list 5
def bE.aJ:bE bR:=((bE.one .text).pair ((bE.one i64).pair ((bE.one i64).pair ((bE.one i64).pair (.one .bool))))).lM (λr=>(r.name,r.dS,r.dst,r.shift,r.qD)) (λx y h=>yo)
def Em.aJ:Em bR:=.agg .aJ
@[simp] theorem G9{r:bR}:Em.aJ.aA r=.agg [.str r.name,.int .i64 r.dS,.int .i64 r.dst,.int .i64 r.shift,.bool r.qD]:=rfl
abbrev nO:Em (List bR):=Em.aJ.list 5
def bE.bH:bE aM:=((bE.one .text).pair ((bE.one aK).pair ((bE.one pE).pair (.one nO)))).lM (λr=>(r.name,r.aK,r.aD,r.aR)) (λx y h=>yo)
def Em.bH:Em aM:=.agg .bH
@[simp] theorem iA{r:aM}:Em.bH.aA r=.agg [.str r.name,aK.aA r.aK,pE.aA r.aD,nO.aA r.aR]:=rfl
def HA(l:List Int):Prop:=l.length<=1000000
def wG(l:List cT):Prop:=l.length<=1000000
def EC(l:List bR):Prop:=l.length<=1000000
def kG(r:bB):Prop:=HA r.nM
def ED(l:List bB):Prop:=l.length<=1000000/\∀r∈l,kG r
def tN(g:gL):Prop:=wG g.aT
def K7(l:List gL):Prop:=l.length<=1000000/\∀r∈l,tN r
def mA(s:bU):Prop:=K7 s.aO
def K8(l:List bU):Prop:=l.length<=1000000/\∀r∈l,mA r
def mB(d:bD):Prop:=K8 d.stops
def EE(l:List bD):Prop:=l.length<=1000000/\∀r∈l,mB r
def eV(o:aM):Prop:=ED o.aK/\EE o.aD/\EC o.aR
def eZ{α:Type}[DecidableEq α](a:Em α)(R:α->Prop):Nat->List PD->List aB->Option (PD×List aB):=entry (eD a a .bool λx y=>dY (R x/\R y) (some (decide (x=y))))
theorem rA{α:Type}[DecidableEq α]{a:Em α}{R:α->Prop}{p q:PD}{x y:α}(hx:R x)(hy:R y)(hp:p.strip=a.aA x)(hq:q.strip=a.aA y)(fl:Nat)(σ:List aB):eZ a R fl [p,q] σ=some (.bool (decide (x=y)),σ):=by
 have e1:=Em.cO hp;have e2:=Em.cO hq;unfold eZ entry eD;simp only[e1,e2];rw[gO ⟨hx,hy⟩];rfl
theorem kW{α:Type}[DecidableEq α]{a:Em α}{R:α->Prop}{x y:α}(hx:R x)(hy:R y)(fl:Nat)(σ:List aB):eZ a R fl [a.aA x,a.aA y] σ=some (.bool (decide (x=y)),σ):=rA hx hy (a.str x) (a.str y) fl σ
def QA{α:Type}[DecidableEq α](a:Em α)(R:α->Prop)(f:FuncId):List PD->Option PD:=λargs=>match args with
 | [p,q,.func g []]=>if g=f then eD a a .bool (λx y=>dY (R x/\R y) (some (decide (x=y)))) [p,q]else none
 |_=>none
def rZ{α:Type}[DecidableEq α](a:Em α)(R:α->Prop)(f:FuncId):Nat->List PD->List aB->Option (PD×List aB):=entry (QA a R f)
@[simp] theorem pF{α:Type}[DecidableEq α]{a:Em α}{R:α->Prop}{f:FuncId}{fl:Nat}{p q:PD}{σ:Ex}:rZ a R f fl [p,q,.func f []] σ=eZ a R fl [p,q] σ:=by
  unfold rZ eZ entry QA;simp only[yAK]
theorem aF.r6{P:Program}{E:aE}(hE:aF P E)(hP:P.follows .mixedOrders=true){α:Type}[DecidableEq α]{a:Em α}{R:α->Prop}{f:FuncId}(h:∀x y,R x->R y->aI P E f [a.aA x,a.aA y] (Em.bool.aA (decide (x=y)))):aF P (E.add f (eZ a R)):=
 hE.r8 hP λx y z hz=>by
  obtain⟨⟨hx,hy⟩,e⟩:=gA hz;cases e;exact h x y hx hy
theorem aF.K9{P:Program}{E:aE}(hE:aF P E)(hP:P.follows .mixedOrders=true){α:Type}[DecidableEq α]{a:Em α}{R:α->Prop}{f g:FuncId}(h:∀x y,R x->R y->aI P E f [a.aA x,a.aA y,.func g []] (Em.bool.aA (decide (x=y)))):aF P (E.add f (rZ a R g)):=by
 refine hE.x7 hP λargs p hg=>?_
 unfold QA at hg;split at hg
 rotate_left
 .cases hg
 rename_i p1 q1 g1;split at hg
 rotate_left
 .cases hg
 rename_i e;subst e;simp only[eD]at hg;split at hg
 rotate_left
 .cases hg
 rename_i x y hx hy;split at hg
 rotate_left
 .cases hg
 rename_i z hz;simp only[yAb]at hg;subst hg;obtain⟨⟨rx,ry⟩,e⟩:=gA hz;cases e;have e1:=Em.mC hx;have e2:=Em.mC hy;obtain⟨p2,σ2,h1,h2⟩:=h x y rx ry;exact⟨p2,σ2,by simpa [e1,e2,PD.strip]using h1,h2,by simp[e1,e2,PD.strip,PD.eJ,PD.bI,a.dJ],rfl⟩
theorem rB{α:Type}[DecidableEq α](a b:α)(x y:List α):decide (a::x=b::y)=(decide (a=b)&&decide (x=y)):=by
 by_cases h:a=b<;>by_cases k:x=y<;>simp[h,k]
theorem rC{α:Type}[DecidableEq α]{x y:List α}(h:¬x.length=y.length):decide (x=y)=false:=by
 simp only[yDW];exact λe=>h Cc
section
structure lZ where
 jQ:Int
 cH:Int
 first:Int
 x6:Int
 w0:Int
 w1:Int
 w2:Int
 w3:Int
 w4:Int
structure oK where
 aG:Int
 cH:Int
 kind:Int
 at_:Int
structure qC where
 low:Int
 keys:Int
 eG:Bool
 stops:List oK
structure q9 where
 dS:Int
 dst:Int
 shift:Int
 qD:Bool
structure oC where
 aK:List lZ
 aD:List qC
 aR:List q9
structure YN where
 kind:Int
 at_:Int
abbrev iO:Em Int:=Em.int .u8
abbrev YO:Em Int:=Em.int .i8
def Em.tM:Em lZ:=.agg (((bE.one iO).pair ((bE.one iO).pair ((bE.one YO).pair ((bE.one iO).pair ((bE.one iO).pair ((bE.one iO).pair ((bE.one iO).pair ((bE.one iO).pair (.one iO))))))))).lM (λr=>(r.jQ,r.cH,r.first,r.x6,r.w0,r.w1,r.w2,r.w3,r.w4)) (λx y h=>yo))
@[simp] theorem YP{r:lZ}:Em.tM.aA r=.agg [.int .u8 r.jQ,.int .u8 r.cH,.int .i8 r.first,.int .u8 r.x6,.int .u8 r.w0,.int .u8 r.w1,.int .u8 r.w2,.int .u8 r.w3,.int .u8 r.w4]:=rfl
abbrev P6:Em (List lZ):=Em.tM.list 9
def Em.pull:Em oK:=.agg (((bE.one iO).pair ((bE.one iO).pair ((bE.one iO).pair (.one iO)))).lM (λr=>(r.aG,r.cH,r.kind,r.at_)) (λx y h=>yo))
@[simp] theorem YR{r:oK}:Em.pull.aA r=.agg [.int .u8 r.aG,.int .u8 r.cH,.int .u8 r.kind,.int .u8 r.at_]:=rfl
abbrev YS:Em (List oK):=Em.pull.list 4
def Em.xZ:Em qC:=.agg (((bE.one iO).pair ((bE.one iO).pair ((bE.one .bool).pair (.one YS)))).lM (λr=>(r.low,r.keys,r.eG,r.stops)) (λx y h=>yo))
@[simp] theorem aRl{r:qC}:Em.xZ.aA r=.agg [.int .u8 r.low,.int .u8 r.keys,.bool r.eG,YS.aA r.stops]:=rfl
abbrev P7:Em (List qC):=Em.xZ.list 4
def Em.link:Em q9:=.agg (((bE.one iO).pair ((bE.one iO).pair ((bE.one YO).pair (.one .bool)))).lM (λr=>(r.dS,r.dst,r.shift,r.qD)) (λx y h=>yo))
@[simp] theorem aRm{r:q9}:Em.link.aA r=.agg [.int .u8 r.dS,.int .u8 r.dst,.int .i8 r.shift,.bool r.qD]:=rfl
abbrev P8:Em (List q9):=Em.link.list 4
def Em.pB:Em oC:=.agg (((bE.one P6).pair ((bE.one P7).pair (.one P8))).lM (λr=>(r.aK,r.aD,r.aR)) (λx y h=>yo))
@[simp] theorem EB{r:oC}:Em.pB.aA r=.agg [P6.aA r.aK,P7.aA r.aD,P8.aA r.aR]:=rfl
def Em.aFG:Em YN:=.agg (((bE.one iO).pair (.one iO)).lM (λr=>(r.kind,r.at_)) (λx y h=>yo))
@[simp] theorem aRn{r:YN}:Em.aFG.aA r=.agg [.int .u8 r.kind,.int .u8 r.at_]:=rfl
def gF(n:Int):Prop:=0<=n/\n<=255
def YT(n:Int):Prop:=-128<=n/\n<=127
def AA(r:lZ):Prop:=gF r.jQ/\gF r.cH/\YT r.first/\gF r.x6/\gF r.w0/\gF r.w1/\gF r.w2/\gF r.w3/\gF r.w4
def CB(r:oK):Prop:=gF r.aG/\gF r.cH/\gF r.kind/\gF r.at_
def okB(r:qC):Prop:=gF r.low/\gF r.keys/\∀s∈r.stops,CB s
def P5(r:q9):Prop:=gF r.dS/\gF r.dst/\YT r.shift
def AB(p:oC):Prop:=(∀r∈p.aK,AA r)/\(∀b∈p.aD,okB b)/\∀l∈p.aR,P5 l
def l7(p:oC):Bool:=decide (1<=p.aK.length)&&decide (p.aK.length<=3)&&decide (1<=p.aD.length)&&decide (p.aD.length<=3)&&decide (p.aR.length<=3)&&p.aD.all λb=>decide (b.stops.length<=3)
variable{E:aE}(hU:aH E)
include hU
theorem aFH(h0:E 11=none)(p:oC):aI prog E 11 [Em.pB.aA p] (Em.bool.aA (l7 p)):=by
 obtain⟨R,D,C⟩:=p;simp only[EB,aV];refine aI.aN 47 h0 func11 (h:=?_)
 by_cases c1:(R.length:Int)<1
 .have z:¬1<=R.length:=by omega
  refine aC c1 ?_;exact dj
 have z1:1<=R.length:=ye
 by_cases c2:3<(R.length:Int)
 .have z:¬R.length<=3:=by omega
  refine aC (A2 c1 c2) ?_;exact dj
 have z2:R.length<=3:=ye
 by_cases c3:(D.length:Int)<1
 .have z:¬1<=D.length:=by omega
  refine aC (A3 c1 c2 c3) ?_;exact dj
 have z3:1<=D.length:=ye
 by_cases c4:3<(D.length:Int)
 .have z:¬D.length<=3:=by omega
  refine aC (A4 c1 c2 c3 c4) ?_;exact dj
 have z4:D.length<=3:=ye
 by_cases c5:3<(C.length:Int)
 .have z:¬C.length<=3:=by omega
  refine aC (A5 c1 c2 c3 c4 c5) ?_;exact dj
 have z5:C.length<=3:=ye;obtain⟨B,hB⟩:=gn (l7 ⟨R,D,C⟩);have P9:(D.all λb=>decide (b.stops.length<=3))=B:=by rw[<-hB];simp[l7,z1,z2,z3,z4,z5]
 rw[hB];refine aC (A5 c1 c2 c3 c4 c5) ?_;refine Wp.cI (λm fr σ=>∃(i:Nat),∃gg:Nat->PD,(i+m=D.length/\((D.drop i).all λb=>decide (b.stops.length<=3))=B)/\fr=[gg 0,.ptr 0 0,.bool false,.int .i64 i,gg 4,gg 5,gg 6,gg 7,gg 8,gg 9,gg 10,gg 11,gg 12,gg 13,gg 14,gg 15,gg 16,gg 17,gg 18,gg 19,gg 20,gg 21,gg 22,gg 23,gg 24,gg 25,gg 26,gg 27,gg 28,gg 29,gg 30,gg 31,gg 32,gg 33,gg 34,gg 35,gg 36,gg 37,gg 38,gg 39,gg 40,gg 41,gg 42,gg 43,gg 44,gg 45,gg 46]/\σ=[.box (.agg [.slice (sz 9 R) (R.map Em.tM.aA) .any,.slice (sz 4 D) (D.map Em.xZ.aA) .any,.slice (sz 4 C) (C.map Em.link.aA) .any])]) ?_ (D.length) (by refine⟨0,?_⟩;exact bG (⟨ye,P9⟩))
 rintro m fr σ ⟨i,gg,hI,rfl,rfl⟩
 obtain⟨hm,hs⟩:=hI
 by_cases hi:i<D.length
 .have q1:(i:Int)<(D.length:Int):=by omega
  obtain⟨b,hb⟩:=gn (D[i]);have dI:D.drop i=b::D.drop (i+1):=by rw[yAq hi,hb]
  rw[dI,yCl]at hs;obtain⟨b0,b1,b2,b3⟩:=b
  by_cases hl:3<(b3.length:Int)
  .have hz:¬b3.length<=3:=by omega
   simp only[hz,decide_false,yAX]at hs;have bQ:B=false:=hs.symm;refine aC (A4 q1 hi @hb hl) ?_;exact ag
  .have hz:b3.length<=3:=by omega
   simp only[hz,decide_true,yBm]at hs;refine aC (A4 q1 hi @hb hl) ?_;exact ai
 .have q1:¬(i:Int)<(D.length:Int):=by omega
  rw[yAs ye]at hs;have bQ:B=true:=hs.symm;exact uu
end
end Go.Kz
namespace Go.Kz
instance:Inhabited lZ:=⟨⟨0,0,0,0,0,0,0,0,0⟩⟩
instance:Inhabited oK:=⟨⟨0,0,0,0⟩⟩
instance:Inhabited qC:=⟨⟨0,0,false,[]⟩⟩
instance:Inhabited q9:=⟨⟨0,0,0,false⟩⟩
instance:Inhabited bB:=⟨⟨[],[],0,0,0,[]⟩⟩
def BL:List (Int×Int):=[(8,1),(4,1),(16,1),(8,3),(2,1),(8,5)]
def pT:List (Int×Int):=[(8,1),(4,1),(16,1),(2,1),(8,3),(8,5),(4,3),(1,1),(32,1),(16,3),(16,5),(32,3),(8,7),(2,3),(1,2),(64,1)]
def lV(n:Int):Int×Int:=BL.getD (n%6).toNat (8,1)
def nU(n:Int):Int×Int:=pT.getD (n%16).toNat (8,1)
def DJ:List (List UInt8):=[[79,112,101,110],[70,108,117,116,101],[82,101,101,100]]
def zM(n:Int):List UInt8:=DJ.getD (n%3).toNat []
def VE:List ((Int×Int)×(Int×Int)×Int):=[((8,1),(8,1),0),((8,1),(4,1),-12),((8,1),(16,1),12),((8,1),(2,1),-24),((8,1),(8,3),-19),((8,1),(8,5),-28),((8,1),(4,3),-31),((8,1),(1,1),-36),((8,1),(32,1),24),((8,1),(16,3),-7),((8,1),(16,5),-16),((8,1),(32,3),5),((8,1),(8,7),-34),((8,1),(2,3),-43),((8,1),(1,2),-48),((8,1),(64,1),36),((4,1),(8,1),12),((4,1),(4,1),0),((4,1),(16,1),24),((4,1),(2,1),-12),((4,1),(8,3),-7),((4,1),(8,5),-16),((4,1),(4,3),-19),((4,1),(1,1),-24),((4,1),(32,1),36),((4,1),(16,3),5),((4,1),(16,5),-4),((4,1),(32,3),17),((4,1),(8,7),-22),((4,1),(2,3),-31),((4,1),(1,2),-36),((4,1),(64,1),48),((16,1),(8,1),-12),((16,1),(4,1),-24),((16,1),(16,1),0),((16,1),(2,1),-36),((16,1),(8,3),-31),((16,1),(8,5),-40),((16,1),(4,3),-43),((16,1),(1,1),-48),((16,1),(32,1),12),((16,1),(16,3),-19),((16,1),(16,5),-28),((16,1),(32,3),-7),((16,1),(8,7),-46),((16,1),(2,3),-55),((16,1),(1,2),-60),((16,1),(64,1),24),((8,3),(8,1),19),((8,3),(4,1),7),((8,3),(16,1),31),((8,3),(2,1),-5),((8,3),(8,3),0),((8,3),(8,5),-9),((8,3),(4,3),-12),((8,3),(1,1),-17),((8,3),(32,1),43),((8,3),(16,3),12),((8,3),(16,5),3),((8,3),(32,3),24),((8,3),(8,7),-15),((8,3),(2,3),-24),((8,3),(1,2),-29),((8,3),(64,1),55),((2,1),(8,1),24),((2,1),(4,1),12),((2,1),(16,1),36),((2,1),(2,1),0),((2,1),(8,3),5),((2,1),(8,5),-4),((2,1),(4,3),-7),((2,1),(1,1),-12),((2,1),(32,1),48),((2,1),(16,3),17),((2,1),(16,5),8),((2,1),(32,3),29),((2,1),(8,7),-10),((2,1),(2,3),-19),((2,1),(1,2),-24),((2,1),(64,1),60),((8,5),(8,1),28),((8,5),(4,1),16),((8,5),(16,1),40),((8,5),(2,1),4),((8,5),(8,3),9),((8,5),(8,5),0),((8,5),(4,3),-3),((8,5),(1,1),-8),((8,5),(32,1),52),((8,5),(16,3),21),((8,5),(16,5),12),((8,5),(32,3),33),((8,5),(8,7),-6),((8,5),(2,3),-15),((8,5),(1,2),-20),((8,5),(64,1),64)]
def uN(f o:Int×Int):Int:=((VE.find? λt=>decide (t.1=f)&&decide (t.2.1=o)).map (·.2.2)).getD 0
def vM(x:lZ)(k:Nat):Int:=[x.w0,x.w1,x.w2,x.w3,x.w4].getD (k%5) 0
def vN(x:lZ)(n:Nat):List Int:=(List.range n).map (vM x)
def digit(i:Nat):UInt8:=UInt8.ofNat (48+i)
def rS(x:lZ)(i:Nat):bB:=⟨[82,digit (i%10)],zM x.jQ,(nU x.cH).1,(nU x.cH).2,x.first,vN x (1+(x.x6%25).toNat)⟩
def fS(l:List lZ)(n:Nat):List bB:=(List.range n).map λi=>rS (l.getD i default) i
def qV(k n sh lo hi at_ m other:Int):List gL:=
 if k=2 then [⟨lo,hi,[⟨n,sh⟩,⟨n,sh+7⟩]⟩]
 else if k=3\/k=4 then(if lo<at_ then [⟨lo,at_-1,[⟨n,sh⟩]⟩]else [])++[⟨at_,hi,if k=3 then [⟨m,other⟩]else [⟨n,sh-12⟩]⟩]
 else if k=5 then [⟨at_,hi,[⟨n,sh⟩]⟩]
 else [⟨lo,hi,[⟨n,sh⟩]⟩]
def BM(rs:List bB)(n:Nat):Int×Int:=((rs.getD n default).num,(rs.getD n default).den)
def s8(rs:List bB)(lo hi:Int)(x:oK)(i:Nat):bU:=
 ⟨[83,digit i],(lV x.cH).1,(lV x.cH).2,qV (x.kind%6) (x.aG%rs.length) (uN (lV x.cH) (BM rs (x.aG%rs.length).toNat)) lo hi (lo+x.at_%(hi-lo+1))
   ((x.aG%rs.length+1)%rs.length) (uN (lV x.cH) (BM rs ((x.aG%rs.length+1)%rs.length).toNat))⟩
def s7(rs:List bB)(lo hi:Int)(l:List oK)(n:Nat):List bU:=(List.range n).map λi=>s8 rs lo hi (l.getD i default) i
def xC(rs:List bB)(b:qC)(i:Nat):bD:=⟨[68,digit i],b.eG,36+b.low%12,36+b.low%12+b.keys%9,s7 rs (36+b.low%12) (36+b.low%12+b.keys%9) b.stops b.stops.length⟩
def jV(rs:List bB)(l:List qC)(n:Nat):List bD:=(List.range n).map λi=>xC rs (l.getD i default) i
def GA(n:Nat)(c:q9)(i:Nat):bR:=
 ⟨[67,digit i],c.dS%n,c.dst%n,if c.dS%n=c.dst%n/\c.shift.tmod 25=0 then 12 else c.shift.tmod 25,c.qD⟩
def kT(n:Nat)(l:List q9)(k:Nat):List bR:=(List.range k).map λi=>GA n (l.getD i default) i
def uH(p:oC):aM:=⟨[79,114,103,97,110],fS p.aK p.aK.length,jV (fS p.aK p.aK.length) p.aD p.aD.length,kT p.aD.length p.aR p.aR.length⟩
end Go.Kz
namespace Go.Kz
open Go Go.Proofs
section
def Em.cH:Em (Int×Int):=.agg (((bE.one i64).pair (.one i64)).lM (λr=>(r.1,r.2)) (λx y h=>yo))
@[simp] theorem aTW{r:Int×Int}:Em.cH.aA r=.agg [.int .i64 r.1,.int .i64 r.2]:=rfl
variable{E:aE}(hU:aH E)
include hU
theorem aKT(h0:E 68=none)(n:Int)(hn:gF n):aI prog E 68 [.int .u8 n] (Em.cH.aA (lV n)):=by
 obtain⟨k,rfl⟩:∃k:Nat,n=k:=⟨n.toNat,by have:=hn.1;omega⟩;have hm:(k:Int).tmod 6=((k%6:Nat):Int):=rfl;refine aI.aN 14 h0 func68 (h:=?_);have hlt:k%6<6:=yBw _ yj;have hs:lV k=BL.getD (k%6) (8,1):=by
  unfold lV
  congr 1
 rw[hs];clear hs;obtain⟨j,hj⟩:=gn (k%6);rw[hj]at hm hlt ⊢
 match j,hlt with
 |0,_=>
  exact au
 |1,_=>
  exact au
 |2,_=>
  exact au
 |3,_=>
  exact au
 |4,_=>
  exact au
 |5,_=>
  exact au
 |j+6,h=>exact absurd h ye
theorem aKR(h0:E 67=none)(n:Int)(hn:gF n):aI prog E 67 [.int .u8 n] (Em.cH.aA (nU n)):=by
 obtain⟨k,rfl⟩:∃k:Nat,n=k:=⟨n.toNat,by have:=hn.1;omega⟩;have hm:(k:Int).tmod 16=((k%16:Nat):Int):=rfl;refine aI.aN 24 h0 func67 (h:=?_);have hlt:k%16<16:=yBw _ yj;have hs:nU k=pT.getD (k%16) (8,1):=by
  unfold nU
  congr 1
 rw[hs];clear hs;obtain⟨j,hj⟩:=gn (k%16);rw[hj]at hm hlt ⊢
 match j,hlt with
 |0,_=>
  exact au
 |1,_=>
  exact au
 |2,_=>
  exact au
 |3,_=>
  exact au
 |4,_=>
  exact au
 |5,_=>
  exact au
 |6,_=>
  exact au
 |7,_=>
  exact au
 |8,_=>
  exact au
 |9,_=>
  exact au
 |10,_=>
  exact au
 |11,_=>
  exact au
 |12,_=>
  exact au
 |13,_=>
  exact au
 |14,_=>
  exact au
 |15,_=>
  exact au
 |j+16,h=>exact absurd h ye
end
section
def tF(n:Int):Bool:=(decide (65<=n)&&decide (n<=90))||(decide (97<=n)&&decide (n<=122))
def uQ(c:UInt8):Bool:=tF c.toNat||(decide (48<=(c.toNat:Int))&&decide ((c.toNat:Int)<=57))||decide (c.toNat=95)
def dV:List UInt8->Bool
 | []=>false
 |c::r=>decide ((c::r).length<=32)&&tF c.toNat&&r.all uQ
def lK(lo hi:Int):Int:=if lo<0\/127<hi then 3 else if hi<lo then 23 else 0
def NH:Nat->List PD->List aB->Option (PD×List aB):=entry (bZ (Em.int .u8) Em.bool λn=>some (tF n))
theorem DS(n:Int)(fl:Nat)(σ:List aB):NH fl [.int .u8 n] σ=some (.bool (tF n),σ):=by
 have e:(Em.int .u8).dec (.int .u8 n)=some n:=Em.cO rfl;unfold NH entry bZ;simp only[e];rfl
variable{E:aE}(hU:aH E)
include hU
theorem aJE(h0:E 92=none)(n:Int):aI prog E 92 [.int .u8 n] (Em.bool.aA (tF n)):=by
 refine aI.aN 17 h0 func92 (h:=?_)
 by_cases a:65<=n
 .by_cases b:n<=90
  .refine aC (A2 @a @b) ?_;simp(disch:=first|omega|(simp;done)|(simp;omega)) [yAu,tF,a,b]<;>try rfl
  .by_cases c:97<=n
   .exact ng
   .exact ng
 .by_cases c:97<=n
  .exact nr
  .exact nr
theorem aJI(h0:E 96=none)(lo hi:Int):aI prog E 96 [.agg [.int .i64 lo,.int .i64 hi]] (.int .i64 (lK lo hi)):=by
 refine aI.aN 18 h0 func96 (h:=?_)
 by_cases a:lo<0
 .refine aC @a ?_;simp(disch:=first|omega|(simp;done)|(simp;omega)) [yAu,lK,a]<;>try rfl
 by_cases b:127<hi
 .refine aC (A2 @a @b) ?_;simp(disch:=first|omega|(simp;done)|(simp;omega)) [yAu,lK,a,b]<;>try rfl
 by_cases c:hi<lo
 .exact nq
 .exact nq
theorem aJ0(h0:E 94=none)(n:Int):aI prog E 94 [.int .i64 n] (Em.bool.aA (decide (-256<=n)&&decide (n<=256))):=by
 refine aI.aN 9 h0 func94 (h:=?_)
 by_cases a:-256<=n
 .by_cases b:n<=256
  .exact oa
  .exact oa
 .refine aC @a ?_;simp(disch:=first|omega|(simp;done)|(simp;omega)) [yAu,a]<;>try rfl
theorem aJG(h0:E 60=none)(h1:E 92=some NH)(s:List UInt8)(hs:s.length<=100000):aI prog E 60 [.str s] (Em.bool.aA (dV s)):=by
 by_cases hs0:s=[]
 .subst hs0;refine aI.aN 42 h0 func60 (h:=?_);refine aC trivial ?_;simp(disch:=first|omega|(simp;done)|(simp;omega)) [yAu,dV]<;>try rfl
 obtain⟨c,r,hcr⟩:∃c r,s=c::r:=by cases s with|nil=>exact absurd rfl hs0|cons c r=>exact⟨c,r,rfl⟩
 have hs1:s.isEmpty=false:=by rw[hcr];rfl
 have hx0:s[0]?=some c:=by rw[hcr];rfl
 obtain⟨fI,hx1⟩:=yA.1 hx0;refine aI.aN 42 h0 func60 (h:=?_)
 by_cases a:32<(s.length:Int)
 .have hB:dV s=false:=by rw[hcr];simp[dV,show ¬r.length+1<=32 by rw[hcr]at a;simp at a;omega]
  rw[hB];refine aC (A3 hs0 hs1 @a) ?_;exact aa
 .cases hc:tF c.toNat with
  |false=>
   have hB:dV s=false:=by rw[hcr];simp[dV,hc]
   rw[hB];refine aC (A9 h1 hs0 hs1 @a hx0 hx1 fI @DS hc) ?_;exact aa
  |true=>
   have hB:dV s=(s.drop 1).all uQ:=by rw[hcr];simp only[dV,hc];simp[show r.length+1<=32 by rw[hcr]at a;simp at a;omega]
   rw[hB];clear hB;obtain⟨B,hB⟩:=gn ((s.drop 1).all uQ);rw[hB];refine aC (A9 h1 hs0 hs1 @a hx0 hx1 fI @DS hc) ?_;refine Wp.cI (λm fr σ=>∃(k:Nat),∃gg:Nat->PD,(k+m=s.length/\1<=k/\(s.drop k).all uQ=B)/\fr=[.str s,gg 1,gg 2,.int .i64 k,gg 4,gg 5,gg 6,gg 7,gg 8,gg 9,gg 10,gg 11,gg 12,gg 13,gg 14,gg 15,gg 16,gg 17,gg 18,gg 19,gg 20,gg 21,gg 22,gg 23,gg 24,gg 25,gg 26,gg 27,gg 28,gg 29,gg 30,gg 31,gg 32,gg 33,gg 34,gg 35,gg 36,gg 37,gg 38,gg 39,gg 40,gg 41]/\σ=[]) ?_ (s.length-1) (by refine⟨1,?_⟩;exact bG (⟨ye,ye,hB⟩))
   rintro m fr σ ⟨k,gg,hI,rfl,rfl⟩
   obtain⟨hm,hk1,hkB⟩:=hI
   by_cases hk:k<s.length
   .have q1:(k:Int)<(s.length:Int):=by omega
    obtain⟨v,hv⟩:=gn (s[k]);have C3:s[k]?=some v:=by rw[yAh hk,hv]
    have hd:s.drop k=v::s.drop (k+1):=by rw[yAq hk,hv]
    have hw:IntKind.i64.wrap ((k:Int)+1)=((k+1:Nat):Int):=ym;rw[hd,yCl]at hkB;cases hl:tF v.toNat with
    |true=>
     have hn:uQ v=true:=by unfold uQ;rw[hl];rfl
     rw[hn,yBm]at hkB;refine aC (A8 h1 q1 @hk hv C3 @DS hl @hw) ?_;exact fu
    |false=>
     have l95:tF 95=false:=yj;have nC:uQ v=((decide (48<=(v.toNat:Int))&&decide ((v.toNat:Int)<=57))||decide (v.toNat=95)):=by unfold uQ;rw[hl];rfl
     by_cases b1:(v.toNat:Int)<48
     .have hn:uQ v=false:=by rw[nC];simp;omega
      rw[hn,yAX]at hkB;subst hkB;have b3:¬(v.toNat:Int)=95:=ye;refine aC (A10 h1 q1 @hk hv C3 @DS hl @hw b1 b3) ?_;exact aa
     .by_cases b2:57<(v.toNat:Int)
      .by_cases b3:(v.toNat:Int)=95
       .have hn:uQ v=true:=by rw[nC];simp;omega
        rw[hn,yBm]at hkB;refine aC (A12 h1 q1 @hk hv C3 @DS hl @hw b1 b2 b3 l95) ?_;exact fu
       .have hn:uQ v=false:=by rw[nC];simp;omega
        rw[hn,yAX]at hkB;subst hkB;refine aC (A11 h1 q1 @hk hv C3 @DS hl @hw b1 b2 b3) ?_;exact aa
      .have hn:uQ v=true:=by rw[nC];simp;omega
       rw[hn,yBm]at hkB;refine aC (A10 h1 q1 @hk hv C3 @DS hl @hw b1 b2) ?_;exact fu
   .have q1:¬(k:Int)<(s.length:Int):=by omega
    obtain rfl:k=s.length:=ye;rw[yCm]at hkB;subst hkB;refine aC q1 ?_;exact aa
end
section
variable{E:aE}(hU:aH E)
include hU
theorem aJg(h0:E 70=none)(l r:List Int)(hl:l.length<=1000000)(hr:r.length<=1000000):aI prog E 70 [(eS).aA l,(eS).aA r] (Em.bool.aA (decide (l=r))):=by
 refine aI.aN 26 h0 func70 (h:=?_)
 by_cases hq:l.length=r.length
 .have cK:(l.length:Int)=(r.length:Int):=by omega
  obtain⟨B,hB⟩:∃B,decide (l=r)=B:=⟨_,rfl⟩;rw[hB];refine aC xp ?_;refine Wp.cI (λm fr σ=>∃(i:Nat),∃gg:Nat->PD,(i+m=l.length/\decide (l.drop i=r.drop i)=B)/\fr=[(eS).aA l,(eS).aA r,gg 2,gg 3,.bool false,gg 5,gg 6,gg 7,gg 8,gg 9,gg 10,(eS).aA l,.int .i64 l.length,.int .i64 i,gg 14,gg 15,gg 16,gg 17,gg 18,gg 19,gg 20,gg 21,gg 22,gg 23,gg 24,gg 25]/\σ=[]) ?_ (l.length) (by refine⟨0,?_⟩;exact jZ (⟨ye,hB⟩) yh yh)
  rintro m fr σ ⟨i,gg,hI,rfl,rfl⟩
  obtain⟨hm,hs⟩:=hI
  by_cases hi:i<l.length
  .have q1:(i:Int)<(l.length:Int):=by omega
   have hir:i<r.length:=ye;have q2:(i:Int)<(r.length:Int):=ye;obtain⟨a,ha⟩:=gn (l[i]);obtain⟨b,hb⟩:=gn (r[i]);have dI:l.drop i=a::l.drop (i+1):=yy;have hc2:r.drop i=b::r.drop (i+1):=Ac;exact vf
  .have q1:¬(i:Int)<(l.length:Int):=by omega
   exact uo
 .exact ah
theorem aJi(h0:E 108=none)(l r:List cT)(hl:l.length<=1000000)(hr:r.length<=1000000):aI prog E 108 [(eT).aA l,(eT).aA r] (Em.bool.aA (decide (l=r))):=by
 refine aI.aN 26 h0 func108 (h:=?_)
 by_cases hq:l.length=r.length
 .have cK:(l.length:Int)=(r.length:Int):=by omega
  obtain⟨B,hB⟩:∃B,decide (l=r)=B:=⟨_,rfl⟩;rw[hB];refine aC xp ?_;refine Wp.cI (λm fr σ=>∃(i:Nat),∃gg:Nat->PD,(i+m=l.length/\decide (l.drop i=r.drop i)=B)/\fr=[(eT).aA l,(eT).aA r,gg 2,gg 3,.bool false,gg 5,gg 6,gg 7,gg 8,gg 9,gg 10,(eT).aA l,.int .i64 l.length,.int .i64 i,gg 14,gg 15,gg 16,gg 17,gg 18,gg 19,gg 20,gg 21,gg 22,gg 23,gg 24,gg 25]/\σ=[]) ?_ (l.length) (by refine⟨0,?_⟩;exact jZ (⟨ye,hB⟩) yh yh);exact uk
 .exact ah
theorem aJk(h0:E 36=none)(l r:List bR)(hl:l.length<=1000000)(hr:r.length<=1000000):aI prog E 36 [(nO).aA l,(nO).aA r] (Em.bool.aA (decide (l=r))):=by
 refine aI.aN 26 h0 func36 (h:=?_)
 by_cases hq:l.length=r.length
 .have cK:(l.length:Int)=(r.length:Int):=by omega
  obtain⟨B,hB⟩:∃B,decide (l=r)=B:=⟨_,rfl⟩;rw[hB];refine aC xp ?_;refine Wp.cI (λm fr σ=>∃(i:Nat),∃gg:Nat->PD,(i+m=l.length/\decide (l.drop i=r.drop i)=B)/\fr=[(nO).aA l,(nO).aA r,gg 2,gg 3,.bool false,gg 5,gg 6,gg 7,gg 8,gg 9,gg 10,(nO).aA l,.int .i64 l.length,.int .i64 i,gg 14,gg 15,gg 16,gg 17,gg 18,gg 19,gg 20,gg 21,gg 22,gg 23,gg 24,gg 25]/\σ=[]) ?_ (l.length) (by refine⟨0,?_⟩;exact jZ (⟨ye,hB⟩) yh yh)
  rintro m fr σ ⟨i,gg,hI,rfl,rfl⟩
  obtain⟨hm,hs⟩:=hI
  by_cases hi:i<l.length
  .have q1:(i:Int)<(l.length:Int):=by omega
   have hir:i<r.length:=ye;have q2:(i:Int)<(r.length:Int):=ye;obtain⟨a,ha⟩:=gn (l[i]);obtain⟨b,hb⟩:=gn (r[i]);have dI:l.drop i=a::l.drop (i+1):=yy;have hc2:r.drop i=b::r.drop (i+1):=Ac;rw[dI,hc2,rB]at hs;obtain⟨a0,a1,a2,a3,a4⟩:=a;obtain⟨b0,b1,b2,b3,b4⟩:=b
   by_cases e0:a0=b0
   rotate_left
   .rw[show decide ((⟨a0,a1,a2,a3,a4⟩:bR)=⟨b0,b1,b2,b3,b4⟩)=false by simp[e0],yAX]at hs;refine aC (A7 q1 q2 hi hir ha @hb @e0) ?_;exact ay
   by_cases e1:a1=b1
   rotate_left
   .rw[show decide ((⟨a0,a1,a2,a3,a4⟩:bR)=⟨b0,b1,b2,b3,b4⟩)=false by simp[e1],yAX]at hs;refine aC (A8 q1 q2 hi hir ha @hb @e0 e1) ?_;exact ay
   by_cases e2:a2=b2
   rotate_left
   .rw[show decide ((⟨a0,a1,a2,a3,a4⟩:bR)=⟨b0,b1,b2,b3,b4⟩)=false by simp[e2],yAX]at hs;refine aC (A9 q1 q2 hi hir ha @hb @e0 e1 e2) ?_;exact ay
   by_cases e3:a3=b3
   rotate_left
   .rw[show decide ((⟨a0,a1,a2,a3,a4⟩:bR)=⟨b0,b1,b2,b3,b4⟩)=false by simp[e3],yAX]at hs;refine aC (A10 q1 q2 hi hir ha @hb @e0 e1 e2 e3) ?_;exact ay
   by_cases e4:a4=b4
   rotate_left
   .rw[show decide ((⟨a0,a1,a2,a3,a4⟩:bR)=⟨b0,b1,b2,b3,b4⟩)=false by simp[e4],yAX]at hs;refine aC (A11 q1 q2 hi hir ha @hb @e0 e1 e2 e3 e4) ?_;exact ay
   rw[show decide ((⟨a0,a1,a2,a3,a4⟩:bR)=⟨b0,b1,b2,b3,b4⟩)=true by simp[e0,e1,e2,e3,e4],yBm]at hs;refine aC (A11 q1 q2 hi hir ha @hb @e0 e1 e2 e3 e4) ?_;exact ai
  .have q1:¬(i:Int)<(l.length:Int):=by omega
   exact uo
 .exact ah
end
section
variable{E:aE}(hU:aH E)
include hU
theorem aJo(h0:E 32=none)(h1:E 33=some (eZ Em.aG kG))(l r:List bB)(hl:l.length<=1000000/\∀x∈l,kG x)(hr:r.length<=1000000/\∀x∈r,kG x) :
  aI prog E 32 [(aK).aA l,(aK).aA r,.func 33 []] (Em.bool.aA (decide (l=r))):=by
 have hl1:=hl.1;have lP:=hr.1;refine aI.aN 32 h0 func32 (h:=?_)
 by_cases hq:l.length=r.length
 .have cK:(l.length:Int)=(r.length:Int):=by omega
  obtain⟨B,hB⟩:∃B,decide (l=r)=B:=⟨_,rfl⟩;rw[hB];refine aC xp ?_;refine Wp.cI (λm fr σ=>∃(i:Nat) (σ1:List aB),∃gg:Nat->PD,(i+m=l.length/\decide (l.drop i=r.drop i)=B)/\fr=[(aK).aA l,(aK).aA r,.func 33 [],gg 3,gg 4,gg 5,.bool false,gg 7,gg 8,gg 9,(aK).aA l,gg 11,gg 12,gg 13,gg 14,(aK).aA l,.int .i64 l.length,.int .i64 i,gg 18,gg 19,gg 20,gg 21,gg 22,gg 23,gg 24,gg 25,gg 26,gg 27,gg 28,gg 29,gg 30,gg 31]/\σ=σ1) ?_ (l.length) (by refine⟨0,[],?_⟩;exact jZ (⟨ye,hB⟩) yh yh)
  rintro m fr σ ⟨i,σ1,gg,hI,rfl,rfl⟩
  obtain⟨hm,hs⟩:=hI
  by_cases hi:i<l.length
  .have q1:(i:Int)<(l.length:Int):=by omega
   have hir:i<r.length:=ye;obtain⟨a,ha⟩:=gn (l[i]);obtain⟨b,hb⟩:=gn (r[i]);have dI:l.drop i=a::l.drop (i+1):=yy;have hc2:r.drop i=b::r.drop (i+1):=Ac;rw[dI,hc2,rB]at hs;have j0:∀x y:aB,(σ++[x,y])[σ.length]?=some x:=λx y=>yg
   have j1:∀x y:aB,(σ++[x,y])[σ.length+1]?=some y:=λx y=>yg
   have q2:(i:Int)<(r.length:Int):=ye;have hE:=λfl σ=>kW (a:=Em.aG) (hl.2 a (ha▸yAm hi)) (hr.2 b (hb▸yAm hir)) fl σ
   by_cases hab:a=b
   rotate_left
   .rw[yBc hab,yAX]at hs;rw[yBc hab]at hE;simp only[oD,aV]at hE;exact um
   .rw[yAV hab,yBm]at hs;rw[yAV hab]at hE;simp only[oD,aV]at hE;exact az
  .exact uq
 .exact ah
theorem aJA(h0:E 34=none)(h1:E 35=some (eZ Em.div mB))(l r:List bD)(hl:l.length<=1000000/\∀x∈l,mB x)(hr:r.length<=1000000/\∀x∈r,mB x) :
  aI prog E 34 [(pE).aA l,(pE).aA r,.func 35 []] (Em.bool.aA (decide (l=r))):=by
 have hl1:=hl.1;have lP:=hr.1;refine aI.aN 32 h0 func34 (h:=?_)
 by_cases hq:l.length=r.length
 .have cK:(l.length:Int)=(r.length:Int):=by omega
  obtain⟨B,hB⟩:∃B,decide (l=r)=B:=⟨_,rfl⟩;rw[hB];refine aC xp ?_;refine Wp.cI (λm fr σ=>∃(i:Nat) (σ1:List aB),∃gg:Nat->PD,(i+m=l.length/\decide (l.drop i=r.drop i)=B)/\fr=[(pE).aA l,(pE).aA r,.func 35 [],gg 3,gg 4,gg 5,.bool false,gg 7,gg 8,gg 9,(pE).aA l,gg 11,gg 12,gg 13,gg 14,(pE).aA l,.int .i64 l.length,.int .i64 i,gg 18,gg 19,gg 20,gg 21,gg 22,gg 23,gg 24,gg 25,gg 26,gg 27,gg 28,gg 29,gg 30,gg 31]/\σ=σ1) ?_ (l.length) (by refine⟨0,[],?_⟩;exact jZ (⟨ye,hB⟩) yh yh)
  rintro m fr σ ⟨i,σ1,gg,hI,rfl,rfl⟩
  obtain⟨hm,hs⟩:=hI
  by_cases hi:i<l.length
  .have q1:(i:Int)<(l.length:Int):=by omega
   have hir:i<r.length:=ye;obtain⟨a,ha⟩:=gn (l[i]);obtain⟨b,hb⟩:=gn (r[i]);have dI:l.drop i=a::l.drop (i+1):=yy;have hc2:r.drop i=b::r.drop (i+1):=Ac;rw[dI,hc2,rB]at hs;have j0:∀x y:aB,(σ++[x,y])[σ.length]?=some x:=λx y=>yg
   have j1:∀x y:aB,(σ++[x,y])[σ.length+1]?=some y:=λx y=>yg
   have q2:(i:Int)<(r.length:Int):=ye;have hE:=λfl σ=>kW (a:=Em.div) (hl.2 a (ha▸yAm hi)) (hr.2 b (hb▸yAm hir)) fl σ
   by_cases hab:a=b
   rotate_left
   .rw[yBc hab,yAX]at hs;rw[yBc hab]at hE;simp only[nN,aV]at hE;exact um
   .rw[yAV hab,yBm]at hs;rw[yAV hab]at hE;simp only[nN,aV]at hE;exact az
  .exact uq
 .exact ah
theorem aJw(h0:E 71=none)(h1:E 72=some (eZ Em.stop mA))(l r:List bU)(hl:l.length<=1000000/\∀x∈l,mA x)(hr:r.length<=1000000/\∀x∈r,mA x) :
  aI prog E 71 [(l8).aA l,(l8).aA r,.func 72 []] (Em.bool.aA (decide (l=r))):=by
 have hl1:=hl.1;have lP:=hr.1;refine aI.aN 32 h0 func71 (h:=?_)
 by_cases hq:l.length=r.length
 .have cK:(l.length:Int)=(r.length:Int):=by omega
  obtain⟨B,hB⟩:∃B,decide (l=r)=B:=⟨_,rfl⟩;rw[hB];refine aC xp ?_;refine Wp.cI (λm fr σ=>∃(i:Nat) (σ1:List aB),∃gg:Nat->PD,(i+m=l.length/\decide (l.drop i=r.drop i)=B)/\fr=[(l8).aA l,(l8).aA r,.func 72 [],gg 3,gg 4,gg 5,.bool false,gg 7,gg 8,gg 9,(l8).aA l,gg 11,gg 12,gg 13,gg 14,(l8).aA l,.int .i64 l.length,.int .i64 i,gg 18,gg 19,gg 20,gg 21,gg 22,gg 23,gg 24,gg 25,gg 26,gg 27,gg 28,gg 29,gg 30,gg 31]/\σ=σ1) ?_ (l.length) (by refine⟨0,[],?_⟩;exact jZ (⟨ye,hB⟩) yh yh)
  rintro m fr σ ⟨i,σ1,gg,hI,rfl,rfl⟩
  obtain⟨hm,hs⟩:=hI
  by_cases hi:i<l.length
  .have q1:(i:Int)<(l.length:Int):=by omega
   have hir:i<r.length:=ye;obtain⟨a,ha⟩:=gn (l[i]);obtain⟨b,hb⟩:=gn (r[i]);have dI:l.drop i=a::l.drop (i+1):=yy;have hc2:r.drop i=b::r.drop (i+1):=Ac;rw[dI,hc2,rB]at hs;have j0:∀x y:aB,(σ++[x,y])[σ.length]?=some x:=λx y=>yg
   have j1:∀x y:aB,(σ++[x,y])[σ.length+1]?=some y:=λx y=>yg
   have q2:(i:Int)<(r.length:Int):=ye;have hE:=λfl σ=>kW (a:=Em.stop) (hl.2 a (ha▸yAm hi)) (hr.2 b (hb▸yAm hir)) fl σ
   by_cases hab:a=b
   rotate_left
   .rw[yBc hab,yAX]at hs;rw[yBc hab]at hE;simp only[qE,aV]at hE;exact um
   .rw[yAV hab,yBm]at hs;rw[yAV hab]at hE;simp only[qE,aV]at hE;exact az
  .exact uq
 .exact ah
theorem aJs(h0:E 106=none)(h1:E 107=some (eZ Em.eU tN))(l r:List gL)(hl:l.length<=1000000/\∀x∈l,tN x)(hr:r.length<=1000000/\∀x∈r,tN x) :
  aI prog E 106 [(mS).aA l,(mS).aA r,.func 107 []] (Em.bool.aA (decide (l=r))):=by
 have hl1:=hl.1;have lP:=hr.1;refine aI.aN 32 h0 func106 (h:=?_)
 by_cases hq:l.length=r.length
 .have cK:(l.length:Int)=(r.length:Int):=by omega
  obtain⟨B,hB⟩:∃B,decide (l=r)=B:=⟨_,rfl⟩;rw[hB];refine aC xp ?_;refine Wp.cI (λm fr σ=>∃(i:Nat) (σ1:List aB),∃gg:Nat->PD,(i+m=l.length/\decide (l.drop i=r.drop i)=B)/\fr=[(mS).aA l,(mS).aA r,.func 107 [],gg 3,gg 4,gg 5,.bool false,gg 7,gg 8,gg 9,(mS).aA l,gg 11,gg 12,gg 13,gg 14,(mS).aA l,.int .i64 l.length,.int .i64 i,gg 18,gg 19,gg 20,gg 21,gg 22,gg 23,gg 24,gg 25,gg 26,gg 27,gg 28,gg 29,gg 30,gg 31]/\σ=σ1) ?_ (l.length) (by refine⟨0,[],?_⟩;exact jZ (⟨ye,hB⟩) yh yh)
  rintro m fr σ ⟨i,σ1,gg,hI,rfl,rfl⟩
  obtain⟨hm,hs⟩:=hI
  by_cases hi:i<l.length
  .have q1:(i:Int)<(l.length:Int):=by omega
   have hir:i<r.length:=ye;obtain⟨a,ha⟩:=gn (l[i]);obtain⟨b,hb⟩:=gn (r[i]);have dI:l.drop i=a::l.drop (i+1):=yy;have hc2:r.drop i=b::r.drop (i+1):=Ac;rw[dI,hc2,rB]at hs;have j0:∀x y:aB,(σ++[x,y])[σ.length]?=some x:=λx y=>yg
   have j1:∀x y:aB,(σ++[x,y])[σ.length+1]?=some y:=λx y=>yg
   have q2:(i:Int)<(r.length:Int):=ye;have hE:=λfl σ=>kW (a:=Em.eU) (hl.2 a (ha▸yAm hi)) (hr.2 b (hb▸yAm hir)) fl σ
   by_cases hab:a=b
   rotate_left
   .rw[yBc hab,yAX]at hs;rw[yBc hab]at hE;simp only[G8,aV]at hE;exact um
   .rw[yAV hab,yBm]at hs;rw[yAV hab]at hE;simp only[G8,aV]at hE;exact az
  .exact uq
 .exact ah
end
section
variable{E:aE}(hU:aH E)
include hU
theorem aJm(h0:E 33=none)(h1:E 70=some (eZ eS HA))(a b:bB)(hx:kG a)(hy:kG b):aI prog E 33 [Em.aG.aA a,Em.aG.aA b] (Em.bool.aA (decide (a=b))):=by
 obtain⟨a0,a1,a2,a3,a4,a5⟩:=a;obtain⟨b0,b1,b2,b3,b4,b5⟩:=b;simp only[oD,aV];refine aI.aN 38 h0 func33 (h:=?_)
 by_cases e0:a0=b0
 rotate_left
 .have f0:(a0==b0)=false:=by simpa using e0
  refine aC (A3 h1 @e0 @f0) ?_;exact qo
 by_cases e1:a1=b1
 rotate_left
 .have f1:(a1==b1)=false:=by simpa using e1
  refine aC (A4 h1 @e0 e1 @f1) ?_;exact qp
 by_cases e2:a2=b2
 rotate_left
 .refine aC (A4 h1 @e0 e1 e2) ?_;exact qq
 by_cases e3:a3=b3
 rotate_left
 .refine aC (A5 h1 @e0 e1 e2 e3) ?_;exact qt
 by_cases e4:a4=b4
 rotate_left
 .refine aC (A6 h1 @e0 e1 e2 e3 e4) ?_;exact qu
 have l5:=λfl σ=>kW (a:=eS) (R:=HA) (x:=a5) (y:=b5) (hx) (hy) fl σ
 simp only[aV]at l5;obtain⟨B5,hB5⟩:∃B,decide (a5=b5)=B:=⟨_,rfl⟩;rw[hB5]at l5;refine aC (A7 h1 @e0 e1 e2 e3 e4 l5) ?_;simp(disch:=first|omega|(simp;done)|(simp;omega)) [yAu,bB.mk.injEq,e0,e1,e2,e3,e4,hB5]<;>try rfl
theorem aJq(h0:E 107=none)(h1:E 108=some (eZ eT wG))(a b:gL)(hx:tN a)(hy:tN b):aI prog E 107 [Em.eU.aA a,Em.eU.aA b] (Em.bool.aA (decide (a=b))):=by
 obtain⟨a0,a1,a2⟩:=a;obtain⟨b0,b1,b2⟩:=b;simp only[G8,aV];refine aI.aN 24 h0 func107 (h:=?_)
 by_cases e0:a0=b0
 rotate_left
 .refine aC (A2 h1 @e0) ?_;simp(disch:=first|omega|(simp;done)|(simp;omega)) [yAu,gL.mk.injEq,e0]<;>try rfl
 by_cases e1:a1=b1
 rotate_left
 .refine aC (A3 h1 @e0 e1) ?_;simp(disch:=first|omega|(simp;done)|(simp;omega)) [yAu,gL.mk.injEq,e1]<;>try rfl
 have l2:=λfl σ=>kW (a:=eT) (R:=wG) (x:=a2) (y:=b2) (hx) (hy) fl σ
 simp only[aV]at l2;obtain⟨B2,bQ⟩:∃B,decide (a2=b2)=B:=⟨_,rfl⟩;rw[bQ]at l2;refine aC (A4 h1 @e0 e1 l2) ?_;simp(disch:=first|omega|(simp;done)|(simp;omega)) [yAu,gL.mk.injEq,e0,e1,bQ]<;>try rfl
theorem aJu(h0:E 72=none)(h1:E 106=some (rZ mS K7 107))(a b:bU)(hx:mA a)(hy:mA b):aI prog E 72 [Em.stop.aA a,Em.stop.aA b] (Em.bool.aA (decide (a=b))):=by
 obtain⟨a0,a1,a2,a3⟩:=a;obtain⟨b0,b1,b2,b3⟩:=b;simp only[qE,aV];refine aI.aN 24 h0 func72 (h:=?_)
 by_cases e0:a0=b0
 rotate_left
 .have f0:(a0==b0)=false:=by simpa using e0
  refine aC (A4 h1 @pF @e0 @f0) ?_;exact qv
 by_cases e1:a1=b1
 rotate_left
 .refine aC (A4 h1 @pF @e0 e1) ?_;exact qw
 by_cases e2:a2=b2
 rotate_left
 .refine aC (A5 h1 @pF @e0 e1 e2) ?_;exact qx
 have l3:=λfl σ=>kW (a:=mS) (R:=K7) (x:=a3) (y:=b3) (hx) (hy) fl σ
 simp only[aV]at l3;obtain⟨B3,BT⟩:∃B,decide (a3=b3)=B:=⟨_,rfl⟩;rw[BT]at l3;refine aC (A6 h1 @pF @e0 e1 e2 l3) ?_;simp(disch:=first|omega|(simp;done)|(simp;omega)) [yAu,bU.mk.injEq,e0,e1,e2,BT]<;>try rfl
theorem aJy(h0:E 35=none)(h1:E 71=some (rZ l8 K8 72))(a b:bD)(hx:mB a)(hy:mB b):aI prog E 35 [Em.div.aA a,Em.div.aA b] (Em.bool.aA (decide (a=b))):=by
 obtain⟨a0,a1,a2,a3,a4⟩:=a;obtain⟨b0,b1,b2,b3,b4⟩:=b;simp only[nN,aV];refine aI.aN 31 h0 func35 (h:=?_)
 by_cases e0:a0=b0
 rotate_left
 .have f0:(a0==b0)=false:=by simpa using e0
  refine aC (A4 h1 @pF @e0 @f0) ?_;exact qy
 by_cases e1:a1=b1
 rotate_left
 .have f1:(a1==b1)=false:=by simpa using e1
  refine aC (A5 h1 @pF @e0 e1 @f1) ?_;exact qz
 by_cases e2:a2=b2
 rotate_left
 .refine aC (A5 h1 @pF @e0 e1 e2) ?_;exact ri
 by_cases e3:a3=b3
 rotate_left
 .refine aC (A6 h1 @pF @e0 e1 e2 e3) ?_;exact rj
 have l4:=λfl σ=>kW (a:=l8) (R:=K8) (x:=a4) (y:=b4) (hx) (hy) fl σ
 simp only[aV]at l4;obtain⟨B4,hB4⟩:∃B,decide (a4=b4)=B:=⟨_,rfl⟩;rw[hB4]at l4;refine aC (A7 h1 @pF @e0 e1 e2 e3 l4) ?_;simp(disch:=first|omega|(simp;done)|(simp;omega)) [yAu,bD.mk.injEq,e0,e1,e2,e3,hB4]<;>try rfl
theorem aJC(h0:E 14=none)(h1:E 32=some (rZ aK ED 33))(h2:E 34=some (rZ pE EE 35))(h3:E 36=some (eZ nO EC))(a b:aM)(hx:eV a)(hy:eV b):aI prog E 14 [Em.bH.aA a,Em.bH.aA b] (Em.bool.aA (decide (a=b))):=by
 obtain⟨a0,a1,a2,a3⟩:=a;obtain⟨b0,b1,b2,b3⟩:=b;simp only[iA,aV];refine aI.aN 31 h0 func14 (h:=?_)
 by_cases e0:a0=b0
 rotate_left
 .have f0:(a0==b0)=false:=by simpa using e0
  refine aC (A6 h1 h2 h3 @pF @e0 @f0) ?_;exact rm
 have l1:=λfl σ=>kW (a:=aK) (R:=ED) (x:=a1) (y:=b1) (hx.1) (hy.1) fl σ
 simp only[aV]at l1;obtain⟨B1,GN⟩:∃B,decide (a1=b1)=B:=⟨_,rfl⟩;rw[GN]at l1;cases B1 with
 |false=>
  have e1:¬a1=b1:=by simpa using GN
  refine aC (A6 h1 h2 h3 @pF @e0 l1) ?_;simp(disch:=first|omega|(simp;done)|(simp;omega)) [yAu,aM.mk.injEq,e1]<;>try rfl
 |true=>
 have e1:a1=b1:=by simpa using GN
 have l2:=λfl σ=>kW (a:=pE) (R:=EE) (x:=a2) (y:=b2) (hx.2.1) (hy.2.1) fl σ
 simp only[aV]at l2;obtain⟨B2,bQ⟩:∃B,decide (a2=b2)=B:=⟨_,rfl⟩;rw[bQ]at l2;cases B2 with
 |false=>
  have e2:¬a2=b2:=by simpa using bQ
  refine aC (A7 h1 h2 h3 @pF @e0 l1 l2) ?_;simp(disch:=first|omega|(simp;done)|(simp;omega)) [yAu,aM.mk.injEq,e2]<;>try rfl
 |true=>
 have e2:a2=b2:=by simpa using bQ
 have l3:=λfl σ=>kW (a:=nO) (R:=EC) (x:=a3) (y:=b3) (hx.2.2) (hy.2.2) fl σ
 simp only[aV]at l3;obtain⟨B3,BT⟩:∃B,decide (a3=b3)=B:=⟨_,rfl⟩;rw[BT]at l3;refine aC (A8 h1 h2 h3 @pF @e0 l1 l2 l3) ?_;simp(disch:=first|omega|(simp;done)|(simp;omega)) [yAu,aM.mk.injEq,e0,e1,e2,BT]<;>try rfl
end
section
variable{E:aE}(hU:aH E)
include hU
theorem aKG(h0:E 88=none)(l r:List cT)(hl:l.length<=1000000)(hr:r.length<=1000000):aI prog E 88 [eT.aA l,eT.aA r] (Em.bool.aA (decide (l=r))):=by
 refine aI.aN 26 h0 func88 (h:=?_)
 by_cases hq:l.length=r.length
 .have cK:(l.length:Int)=(r.length:Int):=by omega
  obtain⟨B,hB⟩:∃B,decide (l=r)=B:=⟨_,rfl⟩;rw[hB];refine aC xp ?_;refine Wp.cI (λm fr σ=>∃(i:Nat),∃gg:Nat->PD,(i+m=l.length/\decide (l.drop i=r.drop i)=B)/\fr=[eT.aA l,eT.aA r,gg 2,gg 3,.bool false,.int .i64 i,gg 6,gg 7,gg 8,gg 9,gg 10,gg 11,gg 12,gg 13,gg 14,gg 15,gg 16,gg 17,gg 18,gg 19,gg 20,gg 21,gg 22,gg 23,gg 24,gg 25]/\σ=[]) ?_ (l.length) (by refine⟨0,?_⟩;exact jZ (⟨ye,hB⟩) yh yh);exact uk
 .exact ah
theorem aKI(h0:E 37=none)(a b:bB)(hx:kG a)(hy:kG b):aI prog E 37 [Em.aG.aA a,Em.aG.aA b] (Em.bool.aA (decide (a=b))):=by
 obtain⟨a0,a1,a2,a3,a4,a5⟩:=a;obtain⟨b0,b1,b2,b3,b4,b5⟩:=b;simp only[oD,aV];refine aI.aN 59 h0 func37 (h:=?_)
 by_cases e0:a0=b0
 rotate_left
 .have f0:(a0==b0)=false:=by simpa using e0
  refine aC (A2 @e0 @f0) ?_;exact qo
 by_cases e1:a1=b1
 rotate_left
 .have f1:(a1==b1)=false:=by simpa using e1
  refine aC (A3 @e0 e1 @f1) ?_;exact qp
 by_cases e2:a2=b2
 rotate_left
 .refine aC (A3 @e0 e1 e2) ?_;exact qq
 by_cases e3:a3=b3
 rotate_left
 .refine aC (A4 @e0 e1 e2 e3) ?_;exact qt
 by_cases e4:a4=b4
 rotate_left
 .refine aC (A5 @e0 e1 e2 e3 e4) ?_;exact qu
 by_cases hq:a5.length=b5.length
 rotate_left
 .have cK:¬(a5.length:Int)=(b5.length:Int):=by omega
  have hF:=rC hq;have hne:¬a5=b5:=by simpa using hF
  refine aC (A7 @e0 e1 e2 e3 e4 @hq cK) ?_;simp(disch:=first|omega|(simp;done)|(simp;omega)) [yAu,bB.mk.injEq,hne]<;>try rfl
 have cK:(a5.length:Int)=(b5.length:Int):=ye;have hx1:a5.length<=1000000:=hx;obtain⟨B,hB⟩:∃B,decide (a5=b5)=B:=⟨_,rfl⟩;rw[show decide ((⟨a0,a1,a2,a3,a4,a5⟩:bB)=⟨b0,b1,b2,b3,b4,b5⟩)=B by rw[<-hB];simp[e0,e1,e2,e3,e4]];refine aC (A7 @e0 e1 e2 e3 e4 @hq cK) ?_;refine Wp.cI (λm fr σ=>∃(i:Nat),∃gg:Nat->PD,(i+m=a5.length/\decide (a5.drop i=b5.drop i)=B)/\fr=[gg 0,gg 1,.ptr 0 0,.ptr 1 0,.bool false,.int .i64 i,gg 6,gg 7,gg 8,gg 9,gg 10,gg 11,gg 12,gg 13,gg 14,gg 15,gg 16,gg 17,gg 18,gg 19,gg 20,gg 21,gg 22,gg 23,gg 24,gg 25,gg 26,gg 27,gg 28,gg 29,gg 30,gg 31,gg 32,gg 33,gg 34,gg 35,gg 36,gg 37,gg 38,gg 39,gg 40,gg 41,gg 42,gg 43,gg 44,gg 45,gg 46,gg 47,gg 48,gg 49,gg 50,gg 51,gg 52,gg 53,gg 54,gg 55,gg 56,gg 57,gg 58]/\σ=[.box (.agg [.str a0,.str a1,.int .i64 a2,.int .i64 a3,.int .i64 a4,.slice (sz 1 a5) (a5.map i64.aA) .any]),.box (.agg [.str b0,.str b1,.int .i64 b2,.int .i64 b3,.int .i64 b4,.slice (sz 1 b5) (b5.map i64.aA) .any])]) ?_ (a5.length) (by refine⟨0,?_⟩;exact jZ (⟨ye,hB⟩) yh yh)
 rintro m fr σ ⟨i,gg,hI,rfl,rfl⟩
 obtain⟨hm,hs⟩:=hI
 by_cases hi:i<a5.length
 .have q1:(i:Int)<(a5.length:Int):=by omega
  have hir:i<b5.length:=ye;have q2:(i:Int)<(b5.length:Int):=ye;obtain⟨a,ha⟩:=gn (a5[i]);obtain⟨b,hb⟩:=gn (b5[i]);have dI:a5.drop i=a::a5.drop (i+1):=yy;have hc2:b5.drop i=b::b5.drop (i+1):=Ac;exact vf
 .have q1:¬(i:Int)<(a5.length:Int):=by omega
  exact uo
end
end Go.Kz
end
