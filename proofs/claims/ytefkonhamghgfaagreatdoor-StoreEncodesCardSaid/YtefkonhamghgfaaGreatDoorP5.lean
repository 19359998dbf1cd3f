/-
  Part P5 of the way: an interpreter over pure data, its soundness, walks through functions.
-/
import Derived.Test.YtefkonhamghgfaaGreatDoorP4
set_option linter.all false

set_option maxHeartbeats 40000000
open Go.Proofs.Tryz
noncomputable section
namespace Go.Kz
open Go Go.Proofs
abbrev i64:Em Int:=Em.int .i64
abbrev eD:Em (List Int):=i64.list 1
structure bM where
 name:List UInt8
 jN:List UInt8
 num:Int
 den:Int
 first:Int
 fJ:List Int
 deriving DecidableEq
structure fA where
 aR:Int
 shift:Int
 deriving DecidableEq
structure fY where
 lo:Int
 hi:Int
 nO:List fA
 deriving DecidableEq
structure dG where
 name:List UInt8
 num:Int
 den:Int
 fK:List fY
 deriving DecidableEq
structure cU where
 name:List UInt8
 oL:Bool
 low:Int
 high:Int
 stops:List dG
 deriving DecidableEq
structure cF where
 name:List UInt8
 nN:Int
 dst:Int
 shift:Int
 vQ:Bool
 deriving DecidableEq
structure bY where
 name:List UInt8
 aX:List bM
 cM:List cU
 iM:List cF
 deriving DecidableEq
def cA.aR:cA bM:=((cA.one .text).pair ((cA.one .text).pair ((cA.one i64).pair ((cA.one i64).pair ((cA.one i64).pair (.one eD)))))).mA (fun r=>(r.name,r.jN,r.num,r.den,r.first,r.fJ)) (fun x y h=>by cases x;cases y;simpa using h)
def Em.aR:Em bM:=.agg .aR
@[simp] theorem vT{r:bM}:Em.aR.U r=.agg [.str r.name,.str r.jN,.int .i64 r.num,.int .i64 r.den,.int .i64 r.first,eD.U r.fJ]:=rfl
abbrev aX:Em (List bM):=Em.aR.list 6
def cA.draw:cA fA:=((cA.one i64).pair (.one i64)).mA (fun r=>(r.aR,r.shift)) (fun x y h=>by cases x;cases y;simpa using h)
def Em.draw:Em fA:=.agg .draw
@[simp] theorem GX{r:fA}:Em.draw.U r=.agg [.int .i64 r.aR,.int .i64 r.shift]:=rfl
abbrev iE:Em (List fA):=Em.draw.list 2
def cA.bL:cA fY:=((cA.one i64).pair ((cA.one i64).pair (.one iE))).mA (fun r=>(r.lo,r.hi,r.nO)) (fun x y h=>by cases x;cases y;simpa using h)
def Em.bL:Em fY:=.agg .bL
@[simp] theorem GY{r:fY}:Em.bL.U r=.agg [.int .i64 r.lo,.int .i64 r.hi,iE.U r.nO]:=rfl
abbrev jA:Em (List fY):=Em.bL.list 3
def cA.stop:cA dG:=((cA.one .text).pair ((cA.one i64).pair ((cA.one i64).pair (.one jA)))).mA (fun r=>(r.name,r.num,r.den,r.fK)) (fun x y h=>by cases x;cases y;simpa using h)
def Em.stop:Em dG:=.agg .stop
@[simp] theorem vU{r:dG}:Em.stop.U r=.agg [.str r.name,.int .i64 r.num,.int .i64 r.den,jA.U r.fK]:=rfl
abbrev j6:Em (List dG):=Em.stop.list 4
def cA.div:cA cU:=((cA.one .text).pair ((cA.one .bool).pair ((cA.one i64).pair ((cA.one i64).pair (.one j6))))).mA (fun r=>(r.name,r.oL,r.low,r.high,r.stops)) (fun x y h=>by cases x;cases y;simpa using h)
def Em.div:Em cU:=.agg .div
@[simp] theorem A2{r:cU}:Em.div.U r=.agg [.str r.name,.bool r.oL,.int .i64 r.low,.int .i64 r.high,j6.U r.stops]:=rfl
abbrev n9:Em (List cU):=Em.div.list 5
def cA.aP:cA cF:=((cA.one .text).pair ((cA.one i64).pair ((cA.one i64).pair ((cA.one i64).pair (.one .bool))))).mA (fun r=>(r.name,r.nN,r.dst,r.shift,r.vQ)) (fun x y h=>by cases x;cases y;simpa using h)
def Em.aP:Em cF:=.agg .aP
@[simp] theorem X2{r:cF}:Em.aP.U r=.agg [.str r.name,.int .i64 r.nN,.int .i64 r.dst,.int .i64 r.shift,.bool r.vQ]:=rfl
abbrev lA:Em (List cF):=Em.aP.list 5
def cA.aT:cA bY:=((cA.one .text).pair ((cA.one aX).pair ((cA.one n9).pair (.one lA)))).mA (fun r=>(r.name,r.aX,r.cM,r.iM)) (fun x y h=>by cases x;cases y;simpa using h)
def Em.aT:Em bY:=.agg .aT
@[simp] theorem fH{r:bY}:Em.aT.U r=.agg [.str r.name,aX.U r.aX,n9.U r.cM,lA.U r.iM]:=rfl
def wV(l:List Int):Prop:=l.length<=1000000
def GZ(l:List fA):Prop:=l.length<=1000000
def G0(l:List cF):Prop:=l.length<=1000000
def s9(r:bM):Prop:=wV r.fJ
def KY(l:List bM):Prop:=l.length<=1000000/\∀r∈l,s9 r
def yL(g:fY):Prop:=GZ g.nO
def KZ(l:List fY):Prop:=l.length<=1000000/\∀r∈l,yL r
def wW(s:dG):Prop:=KZ s.fK
def G1(l:List dG):Prop:=l.length<=1000000/\∀r∈l,wW r
def A3(d:cU):Prop:=G1 d.stops
def G2(l:List cU):Prop:=l.length<=1000000/\∀r∈l,A3 r
def nP(o:bY):Prop:=KY o.aX/\G2 o.cM/\G0 o.iM
def mB{α:Type}[DecidableEq α](a:Em α)(R:α->Prop):Nat->List PD->List aB->Option (PD×List aB):=entry (fQ a a .bool fun x y=>dX (R x/\R y) (some (decide (x=y))))
theorem X3{α:Type}[DecidableEq α]{a:Em α}{R:α->Prop}{p q:PD}{x y:α}(hx:R x)(hy:R y)(hp:p.strip=a.U x)(hq:q.strip=a.U y)(fl:Nat)(σ:List aB):mB a R fl [p,q] σ=some (.bool (decide (x=y)),σ):=by
 have e1:=Em.dC hp
 have e2:=Em.dC hq
 unfold mB entry fQ
 simp only[e1,e2]
 rw[fB ⟨hx,hy⟩]
 rfl
theorem wX{α:Type}[DecidableEq α]{a:Em α}{R:α->Prop}{x y:α}(hx:R x)(hy:R y)(fl:Nat)(σ:List aB):mB a R fl [a.U x,a.U y] σ=some (.bool (decide (x=y)),σ):=X3 hx hy (a.str x) (a.str y) fl σ
def PK{α:Type}[DecidableEq α](a:Em α)(R:α->Prop)(f:FuncId):List PD->Option PD:=fun args=>match args with
 | [p,q,.func g []]=>if g=f then fQ a a .bool (fun x y=>dX (R x/\R y) (some (decide (x=y)))) [p,q]else none
 |_=>none
def A4{α:Type}[DecidableEq α](a:Em α)(R:α->Prop)(f:FuncId):Nat->List PD->List aB->Option (PD×List aB):=entry (PK a R f)
@[simp] theorem G3{α:Type}[DecidableEq α]{a:Em α}{R:α->Prop}{f:FuncId}{fl:Nat}{p q:PD}{σ:List aB}:A4 a R f fl [p,q,.func f []] σ=mB a R fl [p,q] σ:=by
  unfold A4 mB entry PK
  simp only[if_true]
theorem aE.DZ{P:Program}{E:aD}(hE:aE P E)(hP:P.follows .mixedOrders=true){α:Type}[DecidableEq α]{a:Em α}{R:α->Prop}{f:FuncId}(h:∀x y,R x->R y->aS P E f [a.U x,a.U y] (Em.bool.U (decide (x=y)))):aE P (E.add f (mB a R)):=
 hE.wY hP fun x y z hz=>by
  obtain⟨⟨hx,hy⟩,e⟩:=fL hz
  cases e
  exact h x y hx hy
theorem aE.X4{P:Program}{E:aD}(hE:aE P E)(hP:P.follows .mixedOrders=true){α:Type}[DecidableEq α]{a:Em α}{R:α->Prop}{f g:FuncId}(h:∀x y,R x->R y->aS P E f [a.U x,a.U y,.func g []] (Em.bool.U (decide (x=y)))):aE P (E.add f (A4 a R g)):=by
 refine hE.D0 hP fun args p hg=>?_
 unfold PK at hg
 split at hg
 rotate_left
 ·cases hg
 rename_i p1 q1 g1
 split at hg
 rotate_left
 ·cases hg
 rename_i e
 subst e
 simp only[fQ]at hg
 split at hg
 rotate_left
 ·cases hg
 rename_i x y hx hy
 split at hg
 rotate_left
 ·cases hg
 rename_i z hz
 simp only[yAb]at hg
 subst hg
 obtain⟨⟨rx,ry⟩,e⟩:=fL hz
 cases e
 have e1:=Em.o0 hx
 have e2:=Em.o0 hy
 obtain⟨p2,σ2,h1,h2⟩:=h x y rx ry
 exact⟨p2,σ2,by simpa [e1,e2,PD.strip]using h1,h2,by simp[e1,e2,PD.strip,PD.eM,PD.aY,a.dU],rfl⟩
theorem A5{α:Type}[DecidableEq α](a b:α)(x y:List α):decide (a::x=b::y)=(decide (a=b)&&decide (x=y)):=by
 by_cases h:a=b<;>by_cases k:x=y<;>simp[h,k]
theorem A6{α:Type}[DecidableEq α]{x y:List α}(h:¬x.length=y.length):decide (x=y)=false:=by
 simp only[decide_eq_false_iff_not]
 exact fun e=>h (by rw[e])
end Go.Kz
namespace Go.Kz
open Go Go.Proofs
set_option maxRecDepth 100000
section
structure nM where
 jN:Int
 bX:Int
 first:Int
 A1:Int
 w0:Int
 w1:Int
 w2:Int
 w3:Int
 w4:Int
structure oY where
 aR:Int
 bX:Int
 kind:Int
 at_:Int
structure qM where
 low:Int
 keys:Int
 oL:Bool
 stops:List oY
structure rM where
 nN:Int
 dst:Int
 shift:Int
 vQ:Bool
structure oJ where
 aX:List nM
 cM:List qM
 iM:List rM
structure oZ where
 kind:Int
 at_:Int
abbrev jO:Em Int:=Em.int .u8
abbrev XT:Em Int:=Em.int .i8
def Em.vP:Em nM:=.agg (((cA.one jO).pair ((cA.one jO).pair ((cA.one XT).pair ((cA.one jO).pair ((cA.one jO).pair ((cA.one jO).pair ((cA.one jO).pair ((cA.one jO).pair (.one jO))))))))).mA (fun r=>(r.jN,r.bX,r.first,r.A1,r.w0,r.w1,r.w2,r.w3,r.w4)) (fun x y h=>by cases x;cases y;simpa using h))
@[simp] theorem XU{r:nM}:Em.vP.U r=.agg [.int .u8 r.jN,.int .u8 r.bX,.int .i8 r.first,.int .u8 r.A1,.int .u8 r.w0,.int .u8 r.w1,.int .u8 r.w2,.int .u8 r.w3,.int .u8 r.w4]:=rfl
abbrev XV:Em (List nM):=Em.vP.list 9
def Em.pull:Em oY:=.agg (((cA.one jO).pair ((cA.one jO).pair ((cA.one jO).pair (.one jO)))).mA (fun r=>(r.aR,r.bX,r.kind,r.at_)) (fun x y h=>by cases x;cases y;simpa using h))
@[simp] theorem XW{r:oY}:Em.pull.U r=.agg [.int .u8 r.aR,.int .u8 r.bX,.int .u8 r.kind,.int .u8 r.at_]:=rfl
abbrev XX:Em (List oY):=Em.pull.list 4
def Em.AZ:Em qM:=.agg (((cA.one jO).pair ((cA.one jO).pair ((cA.one .bool).pair (.one XX)))).mA (fun r=>(r.low,r.keys,r.oL,r.stops)) (fun x y h=>by cases x;cases y;simpa using h))
@[simp] theorem aQu{r:qM}:Em.AZ.U r=.agg [.int .u8 r.low,.int .u8 r.keys,.bool r.oL,XX.U r.stops]:=rfl
abbrev XY:Em (List qM):=Em.AZ.list 4
def Em.link:Em rM:=.agg (((cA.one jO).pair ((cA.one jO).pair ((cA.one XT).pair (.one .bool)))).mA (fun r=>(r.nN,r.dst,r.shift,r.vQ)) (fun x y h=>by cases x;cases y;simpa using h))
@[simp] theorem aQv{r:rM}:Em.link.U r=.agg [.int .u8 r.nN,.int .u8 r.dst,.int .i8 r.shift,.bool r.vQ]:=rfl
abbrev XZ:Em (List rM):=Em.link.list 4
def Em.qN:Em oJ:=.agg (((cA.one XV).pair ((cA.one XY).pair (.one XZ))).mA (fun r=>(r.aX,r.cM,r.iM)) (fun x y h=>by cases x;cases y;simpa using h))
@[simp] theorem yK{r:oJ}:Em.qN.U r=.agg [XV.U r.aX,XY.U r.cM,XZ.U r.iM]:=rfl
def Em.oK:Em oZ:=.agg (((cA.one jO).pair (.one jO)).mA (fun r=>(r.kind,r.at_)) (fun x y h=>by cases x;cases y;simpa using h))
@[simp] theorem wU{r:oZ}:Em.oK.U r=.agg [.int .u8 r.kind,.int .u8 r.at_]:=rfl
def eG(n:Int):Prop:=0<=n/\n<=255
def X1(n:Int):Prop:=-128<=n/\n<=127
def DT(r:nM):Prop:=eG r.jN/\eG r.bX/\X1 r.first/\eG r.A1/\eG r.w0/\eG r.w1/\eG r.w2/\eG r.w3/\eG r.w4
def DY(r:oY):Prop:=eG r.aR/\eG r.bX/\eG r.kind/\eG r.at_
def okB(r:qM):Prop:=eG r.low/\eG r.keys/\∀s∈r.stops,DY s
def PI(r:rM):Prop:=eG r.nN/\eG r.dst/\X1 r.shift
def yJ(p:oJ):Prop:=(∀r∈p.aX,DT r)/\(∀b∈p.cM,okB b)/\∀l∈p.iM,PI l
def wT(s:oZ):Prop:=eG s.kind/\eG s.at_
def mP(p:oJ):Bool:=decide (1<=p.aX.length)&&decide (p.aX.length<=3)&&decide (1<=p.cM.length)&&decide (p.cM.length<=3)&&decide (p.iM.length<=3)&&p.cM.all fun b=>decide (b.stops.length<=3)
variable{E:aD}(hU:aI E)
include hU
theorem aFt(h0:E 6=none)(p:oJ):aS prog E 6 [Em.qN.U p] (Em.bool.U (mP p)):=by
 obtain⟨R,D,C⟩:=p
 simp only[yK,bJ]
 apply aS.aK h0 func6 rfl
 focus(simp[show Tryz.f6.ntmps=_ from rfl,List.replicate];rfl)
 by_cases c1:(R.length:Int)<1
 ·have z:¬1<=R.length:=by omega
  have gx:=@c1
  refine aC ?_
  clear gx
  simp(disch:=first|omega|(simp;done)|(simp;omega)) [yAu,mP,z]<;>try rfl
 have z1:1<=R.length:=by omega
 by_cases c2:3<(R.length:Int)
 ·have z:¬R.length<=3:=by omega
  have gx:=An @c1 (@c2)
  refine aC ?_
  clear gx
  simp(disch:=first|omega|(simp;done)|(simp;omega)) [yAu,mP,z]<;>try rfl
 have z2:R.length<=3:=by omega
 by_cases c3:(D.length:Int)<1
 ·have z:¬1<=D.length:=by omega
  have gx:=An @c1 (An @c2 (@c3))
  refine aC ?_
  clear gx
  simp(disch:=first|omega|(simp;done)|(simp;omega)) [yAu,mP,z]<;>try rfl
 have z3:1<=D.length:=by omega
 by_cases c4:3<(D.length:Int)
 ·have z:¬D.length<=3:=by omega
  have gx:=An @c1 (An @c2 (An @c3 (@c4)))
  refine aC ?_
  clear gx
  simp(disch:=first|omega|(simp;done)|(simp;omega)) [yAu,mP,z]<;>try rfl
 have z4:D.length<=3:=by omega
 by_cases c5:3<(C.length:Int)
 ·have z:¬C.length<=3:=by omega
  have gx:=An @c1 (An @c2 (An @c3 (An @c4 (@c5))))
  refine aC ?_
  clear gx
  simp(disch:=first|omega|(simp;done)|(simp;omega)) [yAu,mP,z]<;>try rfl
 have z5:C.length<=3:=by omega
 obtain⟨B,hB⟩:=gn (mP ⟨R,D,C⟩)
 have PJ:(D.all fun b=>decide (b.stops.length<=3))=B:=by rw[<-hB];simp[mP,z1,z2,z3,z4,z5]
 rw[hB]
 have gx:=An @c1 (An @c2 (An @c3 (An @c4 (@c5))))
 refine aC ?_
 clear gx
 refine Wp.cJ (fun m fr σ=>∃(i:Nat),∃gg:Nat->PD,(i+m=D.length/\((D.drop i).all fun b=>decide (b.stops.length<=3))=B)/\fr=[gg 0,.ptr 0 0,.bool false,.int .i64 i,gg 4,gg 5,gg 6,gg 7,gg 8,gg 9,gg 10,gg 11,gg 12,gg 13,gg 14,gg 15,gg 16,gg 17,gg 18,gg 19,gg 20,gg 21,gg 22,gg 23,gg 24,gg 25,gg 26,gg 27,gg 28,gg 29,gg 30,gg 31,gg 32,gg 33,gg 34,gg 35,gg 36,gg 37,gg 38,gg 39,gg 40,gg 41,gg 42,gg 43,gg 44,gg 45,gg 46]/\σ=[.box (.agg [.slice (sz 9 R) (R.map Em.vP.U) .any,.slice (sz 4 D) (D.map Em.AZ.U) .any,.slice (sz 4 C) (C.map Em.link.U) .any])]) ?_ (D.length) (by refine⟨0,?_⟩;exact bW (⟨by omega,PJ⟩))
 rintro m fr σ ⟨i,gg,hI,rfl,rfl⟩
 obtain⟨hm,hs⟩:=hI
 by_cases hi:i<D.length
 ·have q1:(i:Int)<(D.length:Int):=by omega
  obtain⟨b,hb⟩:=gn (D[i])
  have dT:D.drop i=b::D.drop (i+1):=by rw[yAq hi,hb]
  rw[dT,List.all_cons]at hs
  obtain⟨b0,b1,b2,b3⟩:=b
  by_cases hl:3<(b3.length:Int)
  ·have hz:¬b3.length<=3:=by omega
   simp only[hz,decide_false,Bool.false_and]at hs
   have eU:B=false:=hs.symm
   have gx:=An @q1 (An @hi (An @hb (@hl)))
   refine aC ?_
   clear gx
   simp(disch:=first|omega|(simp;done)|(simp;omega)) [yAu,eU]<;>try rfl
  ·have hz:b3.length<=3:=by omega
   simp only[hz,decide_true,Bool.true_and]at hs
   have gx:=An @q1 (An @hi (An @hb (@hl)))
   refine aC ?_
   clear gx
   refine bP.normal (m-1) (by omega) (by refine⟨i+1,?_⟩;exact bW (⟨by omega,hs⟩))
 ·have q1:¬(i:Int)<(D.length:Int):=by omega
  rw[yAs (by omega)]at hs
  have eU:B=true:=hs.symm
  have gx:=@q1
  refine aC ?_
  clear gx
  simp(disch:=first|omega|(simp;done)|(simp;omega)) [yAu,eU]<;>try rfl
end
end Go.Kz
namespace Go.Kz
instance:Inhabited nM:=⟨⟨0,0,0,0,0,0,0,0,0⟩⟩
instance:Inhabited oY:=⟨⟨0,0,0,0⟩⟩
instance:Inhabited qM:=⟨⟨0,0,false,[]⟩⟩
instance:Inhabited rM:=⟨⟨0,0,0,false⟩⟩
instance:Inhabited bM:=⟨⟨[],[],0,0,0,[]⟩⟩
def xU:List (Int×Int):=[(8,1),(4,1),(16,1),(8,3),(2,1),(8,5)]
def q9:List (Int×Int):=[(8,1),(4,1),(16,1),(2,1),(8,3),(8,5),(4,3),(1,1),(32,1),(16,3),(16,5),(32,3),(8,7),(2,3),(1,2),(64,1)]
def gN(n:Int):Int×Int:=xU.getD (n%6).toNat (8,1)
def nE(n:Int):Int×Int:=q9.getD (n%16).toNat (8,1)
def GF:List (List UInt8):=[[79,112,101,110],[70,108,117,116,101],[82,101,101,100]]
def zV(n:Int):List UInt8:=GF.getD (n%3).toNat []
def VF:List ((Int×Int)×(Int×Int)×Int):=[((8,1),(8,1),0),((8,1),(4,1),-12),((8,1),(16,1),12),((8,1),(2,1),-24),((8,1),(8,3),-19),((8,1),(8,5),-28),((8,1),(4,3),-31),((8,1),(1,1),-36),((8,1),(32,1),24),((8,1),(16,3),-7),((8,1),(16,5),-16),((8,1),(32,3),5),((8,1),(8,7),-34),((8,1),(2,3),-43),((8,1),(1,2),-48),((8,1),(64,1),36),((4,1),(8,1),12),((4,1),(4,1),0),((4,1),(16,1),24),((4,1),(2,1),-12),((4,1),(8,3),-7),((4,1),(8,5),-16),((4,1),(4,3),-19),((4,1),(1,1),-24),((4,1),(32,1),36),((4,1),(16,3),5),((4,1),(16,5),-4),((4,1),(32,3),17),((4,1),(8,7),-22),((4,1),(2,3),-31),((4,1),(1,2),-36),((4,1),(64,1),48),((16,1),(8,1),-12),((16,1),(4,1),-24),((16,1),(16,1),0),((16,1),(2,1),-36),((16,1),(8,3),-31),((16,1),(8,5),-40),((16,1),(4,3),-43),((16,1),(1,1),-48),((16,1),(32,1),12),((16,1),(16,3),-19),((16,1),(16,5),-28),((16,1),(32,3),-7),((16,1),(8,7),-46),((16,1),(2,3),-55),((16,1),(1,2),-60),((16,1),(64,1),24),((8,3),(8,1),19),((8,3),(4,1),7),((8,3),(16,1),31),((8,3),(2,1),-5),((8,3),(8,3),0),((8,3),(8,5),-9),((8,3),(4,3),-12),((8,3),(1,1),-17),((8,3),(32,1),43),((8,3),(16,3),12),((8,3),(16,5),3),((8,3),(32,3),24),((8,3),(8,7),-15),((8,3),(2,3),-24),((8,3),(1,2),-29),((8,3),(64,1),55),((2,1),(8,1),24),((2,1),(4,1),12),((2,1),(16,1),36),((2,1),(2,1),0),((2,1),(8,3),5),((2,1),(8,5),-4),((2,1),(4,3),-7),((2,1),(1,1),-12),((2,1),(32,1),48),((2,1),(16,3),17),((2,1),(16,5),8),((2,1),(32,3),29),((2,1),(8,7),-10),((2,1),(2,3),-19),((2,1),(1,2),-24),((2,1),(64,1),60),((8,5),(8,1),28),((8,5),(4,1),16),((8,5),(16,1),40),((8,5),(2,1),4),((8,5),(8,3),9),((8,5),(8,5),0),((8,5),(4,3),-3),((8,5),(1,1),-8),((8,5),(32,1),52),((8,5),(16,3),21),((8,5),(16,5),12),((8,5),(32,3),33),((8,5),(8,7),-6),((8,5),(2,3),-15),((8,5),(1,2),-20),((8,5),(64,1),64)]
def nD(f o:Int×Int):Int:=((VF.find? fun t=>decide (t.1=f)&&decide (t.2.1=o)).map (·.2.2)).getD 0
def yC(x:nM)(k:Nat):Int:=[x.w0,x.w1,x.w2,x.w3,x.w4].getD (k%5) 0
def uW(x:nM)(n:Nat):List Int:=(List.range n).map (yC x)
def digit(i:Nat):UInt8:=UInt8.ofNat (48+i)
def oF(x:nM)(i:Nat):bM:=⟨[82,digit (i%10)],zV x.jN,(nE x.bX).1,(nE x.bX).2,x.first,uW x (1+(x.A1%25).toNat)⟩
def eY(l:List nM)(n:Nat):List bM:=(List.range n).map fun i=>oF (l.getD i default) i
def pS(k n sh lo hi at_ m other:Int):List fY:=
 if k=2 then [⟨lo,hi,[⟨n,sh⟩,⟨n,sh+7⟩]⟩]
 else if k=3\/k=4 then(if lo<at_ then [⟨lo,at_-1,[⟨n,sh⟩]⟩]else [])++[⟨at_,hi,if k=3 then [⟨m,other⟩]else [⟨n,sh-12⟩]⟩]
 else if k=5 then [⟨at_,hi,[⟨n,sh⟩]⟩]
 else [⟨lo,hi,[⟨n,sh⟩]⟩]
def oG(rs:List bM)(n:Nat):Int×Int:=((rs.getD n default).num,(rs.getD n default).den)
def rG(rs:List bM)(lo hi:Int)(x:oY)(i:Nat):dG:=
 ⟨[83,digit i],(gN x.bX).1,(gN x.bX).2,pS (x.kind%6) (x.aR%rs.length) (nD (gN x.bX) (oG rs (x.aR%rs.length).toNat)) lo hi (lo+x.at_%(hi-lo+1))
   ((x.aR%rs.length+1)%rs.length) (nD (gN x.bX) (oG rs ((x.aR%rs.length+1)%rs.length).toNat))⟩
def tW(rs:List bM)(lo hi:Int)(l:List oY)(n:Nat):List dG:=(List.range n).map fun i=>rG rs lo hi (l.getD i default) i
def oS(rs:List bM)(b:qM)(i:Nat):cU:=⟨[68,digit i],b.oL,36+b.low%12,36+b.low%12+b.keys%9,tW rs (36+b.low%12) (36+b.low%12+b.keys%9) b.stops b.stops.length⟩
def lJ(rs:List bM)(l:List qM)(n:Nat):List cU:=(List.range n).map fun i=>oS rs (l.getD i default) i
def tY(n:Nat)(c:rM)(i:Nat):cF:=
 ⟨[67,digit i],c.nN%n,c.dst%n,if c.nN%n=c.dst%n/\c.shift.tmod 25=0 then 12 else c.shift.tmod 25,c.vQ⟩
def lK(n:Nat)(l:List rM)(k:Nat):List cF:=(List.range k).map fun i=>tY n (l.getD i default) i
def kN(p:oJ):bY:=⟨[79,114,103,97,110],eY p.aX p.aX.length,lJ (eY p.aX p.aX.length) p.cM p.cM.length,lK p.cM.length p.iM p.iM.length⟩
end Go.Kz
namespace Go.Kz
open Go Go.Proofs
set_option maxRecDepth 100000
section
def Em.bX:Em (Int×Int):=.agg (((cA.one i64).pair (.one i64)).mA (fun r=>(r.1,r.2)) (fun x y h=>by cases x;cases y;simpa using h))
@[simp] theorem aS6{r:Int×Int}:Em.bX.U r=.agg [.int .i64 r.1,.int .i64 r.2]:=rfl
variable{E:aD}(hU:aI E)
include hU
theorem aJd(h0:E 69=none)(n:Int)(hn:eG n):aS prog E 69 [.int .u8 n] (Em.bX.U (gN n)):=by
 obtain⟨k,rfl⟩:∃k:Nat,n=k:=⟨n.toNat,by have:=hn.1;omega⟩
 have hm:(k:Int).tmod 6=((k%6:Nat):Int):=rfl
 apply aS.aK h0 func69 rfl
 focus(simp[show Tryz.f69.ntmps=_ from rfl,List.replicate];rfl)
 have hlt:k%6<6:=Nat.mod_lt _ (by decide)
 have hs:gN k=xU.getD (k%6) (8,1):=by
  unfold gN
  congr 1
 rw[hs]
 clear hs
 obtain⟨j,hj⟩:=gn (k%6)
 rw[hj]at hm hlt ⊢
 match j,hlt with
 |0,_=>
  have gx:=@hm
  refine aC ?_
  clear gx
  exact⟨_,_,rfl,rfl⟩
 |1,_=>
  have gx:=@hm
  refine aC ?_
  clear gx
  exact⟨_,_,rfl,rfl⟩
 |2,_=>
  have gx:=@hm
  refine aC ?_
  clear gx
  exact⟨_,_,rfl,rfl⟩
 |3,_=>
  have gx:=@hm
  refine aC ?_
  clear gx
  exact⟨_,_,rfl,rfl⟩
 |4,_=>
  have gx:=@hm
  refine aC ?_
  clear gx
  exact⟨_,_,rfl,rfl⟩
 |5,_=>
  have gx:=@hm
  refine aC ?_
  clear gx
  exact⟨_,_,rfl,rfl⟩
 |j+6,h=>exact absurd h (by omega)
theorem aJb(h0:E 68=none)(n:Int)(hn:eG n):aS prog E 68 [.int .u8 n] (Em.bX.U (nE n)):=by
 obtain⟨k,rfl⟩:∃k:Nat,n=k:=⟨n.toNat,by have:=hn.1;omega⟩
 have hm:(k:Int).tmod 16=((k%16:Nat):Int):=rfl
 apply aS.aK h0 func68 rfl
 focus(simp[show Tryz.f68.ntmps=_ from rfl,List.replicate];rfl)
 have hlt:k%16<16:=Nat.mod_lt _ (by decide)
 have hs:nE k=q9.getD (k%16) (8,1):=by
  unfold nE
  congr 1
 rw[hs]
 clear hs
 obtain⟨j,hj⟩:=gn (k%16)
 rw[hj]at hm hlt ⊢
 match j,hlt with
 |0,_=>
  have gx:=@hm
  refine aC ?_
  clear gx
  exact⟨_,_,rfl,rfl⟩
 |1,_=>
  have gx:=@hm
  refine aC ?_
  clear gx
  exact⟨_,_,rfl,rfl⟩
 |2,_=>
  have gx:=@hm
  refine aC ?_
  clear gx
  exact⟨_,_,rfl,rfl⟩
 |3,_=>
  have gx:=@hm
  refine aC ?_
  clear gx
  exact⟨_,_,rfl,rfl⟩
 |4,_=>
  have gx:=@hm
  refine aC ?_
  clear gx
  exact⟨_,_,rfl,rfl⟩
 |5,_=>
  have gx:=@hm
  refine aC ?_
  clear gx
  exact⟨_,_,rfl,rfl⟩
 |6,_=>
  have gx:=@hm
  refine aC ?_
  clear gx
  exact⟨_,_,rfl,rfl⟩
 |7,_=>
  have gx:=@hm
  refine aC ?_
  clear gx
  exact⟨_,_,rfl,rfl⟩
 |8,_=>
  have gx:=@hm
  refine aC ?_
  clear gx
  exact⟨_,_,rfl,rfl⟩
 |9,_=>
  have gx:=@hm
  refine aC ?_
  clear gx
  exact⟨_,_,rfl,rfl⟩
 |10,_=>
  have gx:=@hm
  refine aC ?_
  clear gx
  exact⟨_,_,rfl,rfl⟩
 |11,_=>
  have gx:=@hm
  refine aC ?_
  clear gx
  exact⟨_,_,rfl,rfl⟩
 |12,_=>
  have gx:=@hm
  refine aC ?_
  clear gx
  exact⟨_,_,rfl,rfl⟩
 |13,_=>
  have gx:=@hm
  refine aC ?_
  clear gx
  exact⟨_,_,rfl,rfl⟩
 |14,_=>
  have gx:=@hm
  refine aC ?_
  clear gx
  exact⟨_,_,rfl,rfl⟩
 |15,_=>
  have gx:=@hm
  refine aC ?_
  clear gx
  exact⟨_,_,rfl,rfl⟩
 |j+16,h=>exact absurd h (by omega)
end
section
def sQ(n:Int):Bool:=(decide (65<=n)&&decide (n<=90))||(decide (97<=n)&&decide (n<=122))
def uF(c:UInt8):Bool:=sQ c.toNat||(decide (48<=(c.toNat:Int))&&decide ((c.toNat:Int)<=57))||decide (c.toNat=95)
def lZ:List UInt8->Bool
 | []=>false
 |c::r=>decide ((c::r).length<=32)&&sQ c.toNat&&r.all uF
def oX(lo hi:Int):Int:=if lo<0\/127<hi then 3 else if hi<lo then 23 else 0
def M1:Nat->List PD->List aB->Option (PD×List aB):=entry (b9 (Em.int .u8) Em.bool fun n=>some (sQ n))
theorem DI(n:Int)(fl:Nat)(σ:List aB):M1 fl [.int .u8 n] σ=some (.bool (sQ n),σ):=by
 have e:(Em.int .u8).dec (.int .u8 n)=some n:=Em.dC rfl
 unfold M1 entry b9
 simp only[e]
 rfl
variable{E:aD}(hU:aI E)
include hU
theorem aIm(h0:E 78=none)(n:Int):aS prog E 78 [.int .u8 n] (Em.bool.U (sQ n)):=by
 apply aS.aK h0 func78 rfl
 focus(simp[show Tryz.f78.ntmps=_ from rfl,List.replicate];rfl)
 by_cases a:65<=n
 ·by_cases b:n<=90
  ·have gx:=An @a (@b)
   refine aC ?_
   clear gx
   simp(disch:=first|omega|(simp;done)|(simp;omega)) [yAu,sQ,a,b]<;>try rfl
  ·by_cases c:97<=n
   ·have gx:=An @a (An @b (@c))
    refine aC ?_
    clear gx
    simp(disch:=first|omega|(simp;done)|(simp;omega)) [yAu,sQ,a,b,c]<;>try rfl
   ·have gx:=An @a (An @b (@c))
    refine aC ?_
    clear gx
    simp(disch:=first|omega|(simp;done)|(simp;omega)) [yAu,sQ,a,b,c]<;>try rfl
 ·by_cases c:97<=n
  ·have gx:=An @a (@c)
   refine aC ?_
   clear gx
   simp(disch:=first|omega|(simp;done)|(simp;omega)) [yAu,sQ,a,c]<;>try rfl
  ·have gx:=An @a (@c)
   refine aC ?_
   clear gx
   simp(disch:=first|omega|(simp;done)|(simp;omega)) [yAu,sQ,a,c]<;>try rfl
theorem aIq(h0:E 82=none)(lo hi:Int):aS prog E 82 [.agg [.int .i64 lo,.int .i64 hi]] (.int .i64 (oX lo hi)):=by
 apply aS.aK h0 func82 rfl
 focus(simp[show Tryz.f82.ntmps=_ from rfl,List.replicate];rfl)
 by_cases a:lo<0
 ·have gx:=@a
  refine aC ?_
  clear gx
  simp(disch:=first|omega|(simp;done)|(simp;omega)) [yAu,oX,a]<;>try rfl
 by_cases b:127<hi
 ·have gx:=An @a (@b)
  refine aC ?_
  clear gx
  simp(disch:=first|omega|(simp;done)|(simp;omega)) [yAu,oX,a,b]<;>try rfl
 by_cases c:hi<lo
 ·have gx:=An @a (An @b (@c))
  refine aC ?_
  clear gx
  simp(disch:=first|omega|(simp;done)|(simp;omega)) [yAu,oX,a,b,c]<;>try rfl
 ·have gx:=An @a (An @b (@c))
  refine aC ?_
  clear gx
  simp(disch:=first|omega|(simp;done)|(simp;omega)) [yAu,oX,a,b,c]<;>try rfl
theorem aII(h0:E 80=none)(n:Int):aS prog E 80 [.int .i64 n] (Em.bool.U (decide (-256<=n)&&decide (n<=256))):=by
 apply aS.aK h0 func80 rfl
 focus(simp[show Tryz.f80.ntmps=_ from rfl,List.replicate];rfl)
 by_cases a:-256<=n
 ·by_cases b:n<=256
  ·have gx:=An @a (@b)
   refine aC ?_
   clear gx
   simp(disch:=first|omega|(simp;done)|(simp;omega)) [yAu,a,b]<;>try rfl
  ·have gx:=An @a (@b)
   refine aC ?_
   clear gx
   simp(disch:=first|omega|(simp;done)|(simp;omega)) [yAu,a,b]<;>try rfl
 ·have gx:=@a
  refine aC ?_
  clear gx
  simp(disch:=first|omega|(simp;done)|(simp;omega)) [yAu,a]<;>try rfl
theorem aIo(h0:E 36=none)(h1:E 78=some M1)(s:List UInt8)(hs:s.length<=100000):aS prog E 36 [.str s] (Em.bool.U (lZ s)):=by
 by_cases hs0:s=[]
 ·subst hs0
  apply aS.aK h0 func36 rfl
  focus(simp[show Tryz.f36.ntmps=_ from rfl,List.replicate];rfl)
  have gx:=True.intro
  refine aC ?_
  clear gx
  simp(disch:=first|omega|(simp;done)|(simp;omega)) [yAu,lZ]<;>try rfl
 obtain⟨c,r,hcr⟩:∃c r,s=c::r:=by cases s with|nil=>exact absurd rfl hs0|cons c r=>exact⟨c,r,rfl⟩
 have hs1:s.isEmpty=false:=by rw[hcr];rfl
 have hx0:s[0]?=some c:=by rw[hcr];rfl
 obtain⟨fX,hx1⟩:=yA.1 hx0
 apply aS.aK h0 func36 rfl
 focus(simp[show Tryz.f36.ntmps=_ from rfl,List.replicate];rfl)
 by_cases a:32<(s.length:Int)
 ·have hB:lZ s=false:=by rw[hcr];simp[lZ,show ¬r.length+1<=32 by rw[hcr]at a;simp at a;omega]
  rw[hB]
  have gx:=An @hs0 (An @hs1 (@a))
  refine aC ?_
  clear gx
  simp(disch:=first|omega|(simp;done)|(simp;omega)) [yAu]<;>try rfl
 ·cases hc:sQ c.toNat with
  |false=>
   have hB:lZ s=false:=by rw[hcr];simp[lZ,hc]
   rw[hB]
   have gx:=An @h1 (An @hs0 (An @hs1 (An @a (An @hx0 (An @hx1 (An @fX (An @DI (@hc))))))))
   refine aC ?_
   clear gx
   simp(disch:=first|omega|(simp;done)|(simp;omega)) [yAu]<;>try rfl
  |true=>
   have hB:lZ s=(s.drop 1).all uF:=by rw[hcr];simp only[lZ,hc];simp[show r.length+1<=32 by rw[hcr]at a;simp at a;omega]
   rw[hB]
   clear hB
   obtain⟨B,hB⟩:=gn ((s.drop 1).all uF)
   rw[hB]
   have gx:=An @h1 (An @hs0 (An @hs1 (An @a (An @hx0 (An @hx1 (An @fX (An @DI (@hc))))))))
   refine aC ?_
   clear gx
   refine Wp.cJ (fun m fr σ=>∃(k:Nat),∃gg:Nat->PD,(k+m=s.length/\1<=k/\(s.drop k).all uF=B)/\fr=[.str s,gg 1,gg 2,.int .i64 k,gg 4,gg 5,gg 6,gg 7,gg 8,gg 9,gg 10,gg 11,gg 12,gg 13,gg 14,gg 15,gg 16,gg 17,gg 18,gg 19,gg 20,gg 21,gg 22,gg 23,gg 24,gg 25,gg 26,gg 27,gg 28,gg 29,gg 30,gg 31,gg 32,gg 33,gg 34,gg 35,gg 36,gg 37,gg 38,gg 39,gg 40,gg 41]/\σ=[]) ?_ (s.length-1) (by refine⟨1,?_⟩;exact bW (⟨by omega,by omega,hB⟩))
   rintro m fr σ ⟨k,gg,hI,rfl,rfl⟩
   obtain⟨hm,hk1,hkB⟩:=hI
   by_cases hk:k<s.length
   ·have q1:(k:Int)<(s.length:Int):=by omega
    obtain⟨v,hv⟩:=gn (s[k])
    have BY:s[k]?=some v:=by rw[yAh hk,hv]
    have hd:s.drop k=v::s.drop (k+1):=by rw[yAq hk,hv]
    have hw:IntKind.i64.wrap ((k:Int)+1)=((k+1:Nat):Int):=by rw[IntKind.wrap_i64];omega
    rw[hd,List.all_cons]at hkB
    cases hl:sQ v.toNat with
    |true=>
     have hn:uF v=true:=by unfold uF;rw[hl];rfl
     rw[hn,Bool.true_and]at hkB
     have gx:=An @h1 (An @q1 (An @hk (An @hv (An @BY (An @DI (An @hl (@hw)))))))
     refine aC ?_
     clear gx
     refine bP.normal (m-1) (by omega) (by refine⟨k+1,?_⟩;exact bW (⟨by omega,by omega,hkB⟩))
    |false=>
     have l95:sQ 95=false:=by decide
     have nC:uF v=((decide (48<=(v.toNat:Int))&&decide ((v.toNat:Int)<=57))||decide (v.toNat=95)):=by unfold uF;rw[hl];rfl
     by_cases b1:(v.toNat:Int)<48
     ·have hn:uF v=false:=by rw[nC];simp;omega
      rw[hn,Bool.false_and]at hkB
      subst hkB
      have b3:¬(v.toNat:Int)=95:=by omega
      have gx:=An @h1 (An @q1 (An @hk (An @hv (An @BY (An @DI (An @hl (An @hw (An @b1 (@b3)))))))))
      refine aC ?_
      clear gx
      simp(disch:=first|omega|(simp;done)|(simp;omega)) [yAu]<;>try rfl
     ·by_cases b2:57<(v.toNat:Int)
      ·by_cases b3:(v.toNat:Int)=95
       ·have hn:uF v=true:=by rw[nC];simp;omega
        rw[hn,Bool.true_and]at hkB
        have gx:=An @h1 (An @q1 (An @hk (An @hv (An @BY (An @DI (An @hl (An @hw (An @b1 (An @b2 (An @b3 (@l95)))))))))))
        refine aC ?_
        clear gx
        refine bP.normal (m-1) (by omega) (by refine⟨k+1,?_⟩;exact bW (⟨by omega,by omega,hkB⟩))
       ·have hn:uF v=false:=by rw[nC];simp;omega
        rw[hn,Bool.false_and]at hkB
        subst hkB
        have gx:=An @h1 (An @q1 (An @hk (An @hv (An @BY (An @DI (An @hl (An @hw (An @b1 (An @b2 (@b3))))))))))
        refine aC ?_
        clear gx
        simp(disch:=first|omega|(simp;done)|(simp;omega)) [yAu]<;>try rfl
      ·have hn:uF v=true:=by rw[nC];simp;omega
       rw[hn,Bool.true_and]at hkB
       have gx:=An @h1 (An @q1 (An @hk (An @hv (An @BY (An @DI (An @hl (An @hw (An @b1 (@b2)))))))))
       refine aC ?_
       clear gx
       refine bP.normal (m-1) (by omega) (by refine⟨k+1,?_⟩;exact bW (⟨by omega,by omega,hkB⟩))
   ·have q1:¬(k:Int)<(s.length:Int):=by omega
    obtain rfl:k=s.length:=by omega
    rw[List.drop_length]at hkB
    subst hkB
    have gx:=@q1
    refine aC ?_
    clear gx
    simp(disch:=first|omega|(simp;done)|(simp;omega)) [yAu]<;>try rfl
end
section
variable{E:aD}(hU:aI E)
include hU
theorem aLG(h0:E 54=none)(l r:List Int)(hl:l.length<=1000000)(hr:r.length<=1000000):aS prog E 54 [(eD).U l,(eD).U r] (Em.bool.U (decide (l=r))):=by
 apply aS.aK h0 func54 rfl
 focus(simp[show Tryz.f54.ntmps=_ from rfl,List.replicate];rfl)
 by_cases hq:l.length=r.length
 ·have eC:(l.length:Int)=(r.length:Int):=by omega
  obtain⟨B,hB⟩:∃B,decide (l=r)=B:=⟨_,rfl⟩
  rw[hB]
  have gx:=An @hq (@eC)
  refine aC ?_
  clear gx
  refine Wp.cJ (fun m fr σ=>∃(i:Nat),∃gg:Nat->PD,(i+m=l.length/\decide (l.drop i=r.drop i)=B)/\fr=[(eD).U l,(eD).U r,gg 2,gg 3,.bool false,gg 5,gg 6,gg 7,gg 8,gg 9,gg 10,(eD).U l,.int .i64 l.length,.int .i64 i,gg 14,gg 15,gg 16,gg 17,gg 18,gg 19,gg 20,gg 21,gg 22,gg 23,gg 24,gg 25]/\σ=[]) ?_ (l.length) (by refine⟨0,?_⟩;exact cW (⟨by omega,hB⟩) (by(first|rfl|(simp[hq];repeat(first|rfl|(apply And.intro)))|(simp[hq];done))) (by(first|rfl|(simp[hq];repeat(first|rfl|(apply And.intro)))|(simp[hq];done))))
  rintro m fr σ ⟨i,gg,hI,rfl,rfl⟩
  obtain⟨hm,hs⟩:=hI
  by_cases hi:i<l.length
  ·have q1:(i:Int)<(l.length:Int):=by omega
   have hir:i<r.length:=by omega
   have q2:(i:Int)<(r.length:Int):=by omega
   obtain⟨a,ha⟩:=gn (l[i])
   obtain⟨b,hb⟩:=gn (r[i])
   have dT:l.drop i=a::l.drop (i+1):=by rw[yAq hi,ha]
   have hc2:r.drop i=b::r.drop (i+1):=by rw[yAq hir,hb]
   rw[dT,hc2,A5]at hs
   by_cases e:a=b
   ·rw[decide_eq_true e,Bool.true_and]at hs
    have gx:=An @q1 (An @q2 (An @hi (An @hir (An @ha (An @hb (@e))))))
    refine aC ?_
    clear gx
    refine bP.normal (m-1) (by omega) (by refine⟨i+1,?_⟩;exact bW (⟨by omega,hs⟩))
   ·rw[decide_eq_false e,Bool.false_and]at hs
    have gx:=An @q1 (An @q2 (An @hi (An @hir (An @ha (An @hb (@e))))))
    refine aC ?_
    clear gx
    simp(disch:=first|omega|(simp;done)|(simp;omega)) [yAu,hs]<;>try rfl
  ·have q1:¬(i:Int)<(l.length:Int):=by omega
   rw[yAs (by omega),yAs (by omega)]at hs
   have eU:B=true:=hs.symm
   have gx:=@q1
   refine aC ?_
   clear gx
   simp(disch:=first|omega|(simp;done)|(simp;omega)) [yAu,eU]<;>try rfl
 ·have eC:¬(l.length:Int)=(r.length:Int):=by omega
  have hF:=A6 hq
  have gx:=An @hq (@eC)
  refine aC ?_
  clear gx
  simp(disch:=first|omega|(simp;done)|(simp;omega)) [yAu,hF]<;>try rfl
theorem aLI(h0:E 42=none)(l r:List fA)(hl:l.length<=1000000)(hr:r.length<=1000000):aS prog E 42 [(iE).U l,(iE).U r] (Em.bool.U (decide (l=r))):=by
 apply aS.aK h0 func42 rfl
 focus(simp[show Tryz.f42.ntmps=_ from rfl,List.replicate];rfl)
 by_cases hq:l.length=r.length
 ·have eC:(l.length:Int)=(r.length:Int):=by omega
  obtain⟨B,hB⟩:∃B,decide (l=r)=B:=⟨_,rfl⟩
  rw[hB]
  have gx:=An @hq (@eC)
  refine aC ?_
  clear gx
  refine Wp.cJ (fun m fr σ=>∃(i:Nat),∃gg:Nat->PD,(i+m=l.length/\decide (l.drop i=r.drop i)=B)/\fr=[(iE).U l,(iE).U r,gg 2,gg 3,.bool false,gg 5,gg 6,gg 7,gg 8,gg 9,gg 10,(iE).U l,.int .i64 l.length,.int .i64 i,gg 14,gg 15,gg 16,gg 17,gg 18,gg 19,gg 20,gg 21,gg 22,gg 23,gg 24,gg 25]/\σ=[]) ?_ (l.length) (by refine⟨0,?_⟩;exact cW (⟨by omega,hB⟩) (by(first|rfl|(simp[hq];repeat(first|rfl|(apply And.intro)))|(simp[hq];done))) (by(first|rfl|(simp[hq];repeat(first|rfl|(apply And.intro)))|(simp[hq];done))))
  rintro m fr σ ⟨i,gg,hI,rfl,rfl⟩
  obtain⟨hm,hs⟩:=hI
  by_cases hi:i<l.length
  ·have q1:(i:Int)<(l.length:Int):=by omega
   have hir:i<r.length:=by omega
   have q2:(i:Int)<(r.length:Int):=by omega
   obtain⟨a,ha⟩:=gn (l[i])
   obtain⟨b,hb⟩:=gn (r[i])
   have dT:l.drop i=a::l.drop (i+1):=by rw[yAq hi,ha]
   have hc2:r.drop i=b::r.drop (i+1):=by rw[yAq hir,hb]
   rw[dT,hc2,A5]at hs
   obtain⟨a0,a1⟩:=a
   obtain⟨b0,b1⟩:=b
   by_cases e0:a0=b0
   rotate_left
   ·rw[show decide ((⟨a0,a1⟩:fA)=⟨b0,b1⟩)=false by simp[e0],Bool.false_and]at hs
    have gx:=An @q1 (An @q2 (An @hi (An @hir (An @ha (An @hb (@e0))))))
    refine aC ?_
    clear gx
    simp(disch:=first|omega|(simp;done)|(simp;omega)) [yAu,hs]<;>try rfl
   by_cases e1:a1=b1
   rotate_left
   ·rw[show decide ((⟨a0,a1⟩:fA)=⟨b0,b1⟩)=false by simp[e1],Bool.false_and]at hs
    have gx:=An @q1 (An @q2 (An @hi (An @hir (An @ha (An @hb (An @e0 (@e1)))))))
    refine aC ?_
    clear gx
    simp(disch:=first|omega|(simp;done)|(simp;omega)) [yAu,hs]<;>try rfl
   rw[show decide ((⟨a0,a1⟩:fA)=⟨b0,b1⟩)=true by simp[e0,e1],Bool.true_and]at hs
   have gx:=An @q1 (An @q2 (An @hi (An @hir (An @ha (An @hb (An @e0 (@e1)))))))
   refine aC ?_
   clear gx
   refine bP.normal (m-1) (by omega) (by refine⟨i+1,?_⟩;exact bW (⟨by omega,hs⟩))
  ·have q1:¬(i:Int)<(l.length:Int):=by omega
   rw[yAs (by omega),yAs (by omega)]at hs
   have eU:B=true:=hs.symm
   have gx:=@q1
   refine aC ?_
   clear gx
   simp(disch:=first|omega|(simp;done)|(simp;omega)) [yAu,eU]<;>try rfl
 ·have eC:¬(l.length:Int)=(r.length:Int):=by omega
  have hF:=A6 hq
  have gx:=An @hq (@eC)
  refine aC ?_
  clear gx
  simp(disch:=first|omega|(simp;done)|(simp;omega)) [yAu,hF]<;>try rfl
theorem aLK(h0:E 50=none)(l r:List cF)(hl:l.length<=1000000)(hr:r.length<=1000000):aS prog E 50 [(lA).U l,(lA).U r] (Em.bool.U (decide (l=r))):=by
 apply aS.aK h0 func50 rfl
 focus(simp[show Tryz.f50.ntmps=_ from rfl,List.replicate];rfl)
 by_cases hq:l.length=r.length
 ·have eC:(l.length:Int)=(r.length:Int):=by omega
  obtain⟨B,hB⟩:∃B,decide (l=r)=B:=⟨_,rfl⟩
  rw[hB]
  have gx:=An @hq (@eC)
  refine aC ?_
  clear gx
  refine Wp.cJ (fun m fr σ=>∃(i:Nat),∃gg:Nat->PD,(i+m=l.length/\decide (l.drop i=r.drop i)=B)/\fr=[(lA).U l,(lA).U r,gg 2,gg 3,.bool false,gg 5,gg 6,gg 7,gg 8,gg 9,gg 10,(lA).U l,.int .i64 l.length,.int .i64 i,gg 14,gg 15,gg 16,gg 17,gg 18,gg 19,gg 20,gg 21,gg 22,gg 23,gg 24,gg 25]/\σ=[]) ?_ (l.length) (by refine⟨0,?_⟩;exact cW (⟨by omega,hB⟩) (by(first|rfl|(simp[hq];repeat(first|rfl|(apply And.intro)))|(simp[hq];done))) (by(first|rfl|(simp[hq];repeat(first|rfl|(apply And.intro)))|(simp[hq];done))))
  rintro m fr σ ⟨i,gg,hI,rfl,rfl⟩
  obtain⟨hm,hs⟩:=hI
  by_cases hi:i<l.length
  ·have q1:(i:Int)<(l.length:Int):=by omega
   have hir:i<r.length:=by omega
   have q2:(i:Int)<(r.length:Int):=by omega
   obtain⟨a,ha⟩:=gn (l[i])
   obtain⟨b,hb⟩:=gn (r[i])
   have dT:l.drop i=a::l.drop (i+1):=by rw[yAq hi,ha]
   have hc2:r.drop i=b::r.drop (i+1):=by rw[yAq hir,hb]
   rw[dT,hc2,A5]at hs
   obtain⟨a0,a1,a2,a3,a4⟩:=a
   obtain⟨b0,b1,b2,b3,b4⟩:=b
   by_cases e0:a0=b0
   rotate_left
   ·rw[show decide ((⟨a0,a1,a2,a3,a4⟩:cF)=⟨b0,b1,b2,b3,b4⟩)=false by simp[e0],Bool.false_and]at hs
    have gx:=An @q1 (An @q2 (An @hi (An @hir (An @ha (An @hb (@e0))))))
    refine aC ?_
    clear gx
    simp(disch:=first|omega|(simp;done)|(simp;omega)) [yAu,hs]<;>try rfl
   by_cases e1:a1=b1
   rotate_left
   ·rw[show decide ((⟨a0,a1,a2,a3,a4⟩:cF)=⟨b0,b1,b2,b3,b4⟩)=false by simp[e1],Bool.false_and]at hs
    have gx:=An @q1 (An @q2 (An @hi (An @hir (An @ha (An @hb (An @e0 (@e1)))))))
    refine aC ?_
    clear gx
    simp(disch:=first|omega|(simp;done)|(simp;omega)) [yAu,hs]<;>try rfl
   by_cases e2:a2=b2
   rotate_left
   ·rw[show decide ((⟨a0,a1,a2,a3,a4⟩:cF)=⟨b0,b1,b2,b3,b4⟩)=false by simp[e2],Bool.false_and]at hs
    have gx:=An @q1 (An @q2 (An @hi (An @hir (An @ha (An @hb (An @e0 (An @e1 (@e2))))))))
    refine aC ?_
    clear gx
    simp(disch:=first|omega|(simp;done)|(simp;omega)) [yAu,hs]<;>try rfl
   by_cases e3:a3=b3
   rotate_left
   ·rw[show decide ((⟨a0,a1,a2,a3,a4⟩:cF)=⟨b0,b1,b2,b3,b4⟩)=false by simp[e3],Bool.false_and]at hs
    have gx:=An @q1 (An @q2 (An @hi (An @hir (An @ha (An @hb (An @e0 (An @e1 (An @e2 (@e3)))))))))
    refine aC ?_
    clear gx
    simp(disch:=first|omega|(simp;done)|(simp;omega)) [yAu,hs]<;>try rfl
   by_cases e4:a4=b4
   rotate_left
   ·rw[show decide ((⟨a0,a1,a2,a3,a4⟩:cF)=⟨b0,b1,b2,b3,b4⟩)=false by simp[e4],Bool.false_and]at hs
    have gx:=An @q1 (An @q2 (An @hi (An @hir (An @ha (An @hb (An @e0 (An @e1 (An @e2 (An @e3 (@e4))))))))))
    refine aC ?_
    clear gx
    simp(disch:=first|omega|(simp;done)|(simp;omega)) [yAu,hs]<;>try rfl
   rw[show decide ((⟨a0,a1,a2,a3,a4⟩:cF)=⟨b0,b1,b2,b3,b4⟩)=true by simp[e0,e1,e2,e3,e4],Bool.true_and]at hs
   have gx:=An @q1 (An @q2 (An @hi (An @hir (An @ha (An @hb (An @e0 (An @e1 (An @e2 (An @e3 (@e4))))))))))
   refine aC ?_
   clear gx
   refine bP.normal (m-1) (by omega) (by refine⟨i+1,?_⟩;exact bW (⟨by omega,hs⟩))
  ·have q1:¬(i:Int)<(l.length:Int):=by omega
   rw[yAs (by omega),yAs (by omega)]at hs
   have eU:B=true:=hs.symm
   have gx:=@q1
   refine aC ?_
   clear gx
   simp(disch:=first|omega|(simp;done)|(simp;omega)) [yAu,eU]<;>try rfl
 ·have eC:¬(l.length:Int)=(r.length:Int):=by omega
  have hF:=A6 hq
  have gx:=An @hq (@eC)
  refine aC ?_
  clear gx
  simp(disch:=first|omega|(simp;done)|(simp;omega)) [yAu,hF]<;>try rfl
end
section
def sP(n d:Int):Int:=if d<=0\/1000000<d\/n < -1000000\/1000000<n\/Nat.gcd n.natAbs d.toNat≠1 then 2 else 0
def vE(n d:Int):Int:=if sP n d≠0 then 2 else if n<=0\/128*d<n then 3 else if 128<d then 4 else 0
abbrev AP:Em Int:=Em.int .u64
def M3:Nat->List PD->List aB->Option (PD×List aB):=entry (fQ AP AP AP fun a b=>dX (0<=a/\a<=1000000/\0<=b/\b<=1000000) (some (Nat.gcd a.toNat b.toNat)))
theorem aNW{a b:Nat}(ha:a<=1000000)(hb:b<=1000000)(fl:Nat)(σ:List aB):M3 fl [.int .u64 a,.int .u64 b] σ=some (.int .u64 (Nat.gcd a b),σ):=by
 have e1:AP.dec (.int .u64 a)=some (a:Int):=Em.dC rfl
 have e2:AP.dec (.int .u64 b)=some (b:Int):=Em.dC rfl
 unfold M3 entry fQ
 simp only[e1,e2]
 rw[fB ⟨by omega,by omega,by omega,by omega⟩]
 rfl
variable{E:aD}(hU:aI E)
include hU
theorem aIs(h0:E 144=none)(a b:Nat)(ha:a<=1000000)(hb:b<=1000000):aS prog E 144 [.int .u64 a,.int .u64 b] (AP.U (Nat.gcd a b)):=by
 obtain⟨G,hG⟩:=gn (Nat.gcd a b)
 rw[hG]
 apply aS.aK h0 func144 rfl
 focus(simp[show Tryz.f144.ntmps=_ from rfl,List.replicate];rfl)
 have gx:=True.intro
 refine aC ?_
 clear gx
 refine Wp.cJ (fun m fr σ=>∃(u v:Nat),∃gg:Nat->PD,(v<=m/\u<=1000000/\v<=1000000/\Nat.gcd u v=G)/\fr=[.int .u64 u,.int .u64 v,gg 2,gg 3,gg 4,gg 5,gg 6,gg 7,gg 8,gg 9,gg 10,gg 11]/\σ=[]) ?_ (b) (by refine⟨a,b,?_⟩;exact bW (⟨yAk _,ha,hb,hG⟩))
 rintro m fr σ ⟨u,v,gg,hI,rfl,rfl⟩
 obtain⟨hm,hu,hv,hg⟩:=hI
 by_cases q:v=0
 ·subst q
  rw[Nat.gcd_zero_right]at hg
  subst hg
  have gx:=True.intro
  refine aC ?_
  clear gx
  simp(disch:=first|omega|(simp;done)|(simp;omega)) [yAu]<;>try rfl
 ·have q1:0<v:=by omega
  have q2:¬(v:Int)=0:=by omega
  have hml:u%v<v:=Nat.mod_lt _ (by omega)
  have hgr:Nat.gcd v (u%v)=G:=by rw[Nat.gcd_comm v (u%v),<-Nat.gcd_rec,Nat.gcd_comm,hg]
  obtain⟨r,hr⟩:=gn (u%v)
  have w1:((u:Int)).tmod (v:Int)=(r:Int):=by rw[<-hr];rfl
  rw[hr]at hml hgr
  have w2:IntKind.u64.wrap (r:Int)=(r:Int):=by simp only[IntKind.wrap,IntKind.bits,IntKind.signed];simp;omega
  have gx:=An @q (An @q1 (An @q2 (An @w1 (@w2))))
  refine aC ?_
  clear gx
  refine bP.normal (m-1) (by omega) (by refine⟨v,r,?_⟩;exact bW (⟨by omega,hv,by omega,hgr⟩))
theorem aIu(h0:E 145=none)(n:Int)(h:-1000000<=n/\n<=1000000):aS prog E 145 [.int .i64 n] (AP.U n.natAbs):=by
 apply aS.aK h0 func145 rfl
 focus(simp[show Tryz.f145.ntmps=_ from rfl,List.replicate];rfl)
 by_cases a:n<0
 ·have w1:IntKind.u64.wrap n=n+18446744073709551616:=by simp only[IntKind.wrap,IntKind.bits,IntKind.signed];simp;omega
  have w2:IntKind.u64.wrap (-(n+18446744073709551616))=(n.natAbs:Int):=by simp only[IntKind.wrap,IntKind.bits,IntKind.signed];simp;omega
  have gx:=An @a (An @w1 (@w2))
  refine aC ?_
  clear gx
  simp(disch:=first|omega|(simp;done)|(simp;omega)) [yAu]<;>try rfl
 ·have w1:IntKind.u64.wrap n=(n.natAbs:Int):=by simp only[IntKind.wrap,IntKind.bits,IntKind.signed];simp;omega
  have gx:=An @a (@w1)
  refine aC ?_
  clear gx
  simp(disch:=first|omega|(simp;done)|(simp;omega)) [yAu]<;>try rfl
def M4:Nat->List PD->List aB->Option (PD×List aB):=entry (b9 i64 AP fun n=>dX (-1000000<=n/\n<=1000000) (some (n.natAbs:Int)))
omit hU in
theorem aNX{n:Int}(h:-1000000<=n/\n<=1000000)(fl:Nat)(σ:List aB):M4 fl [.int .i64 n] σ=some (.int .u64 n.natAbs,σ):=by
 have e1:i64.dec (.int .i64 n)=some n:=Em.dC rfl
 unfold M4 entry b9
 simp only[e1]
 rw[fB h]
 rfl
theorem aIw(h0:E 106=none)(h1:E 145=some M4)(h2:E 144=some M3)(n d:Int):aS prog E 106 [.agg [.int .i64 n,.int .i64 d]] (i64.U (sP n d)):=by
 by_cases a:d<=0
 ·skip
  apply aS.aK h0 func106 rfl
  focus(simp[show Tryz.f106.ntmps=_ from rfl,List.replicate];rfl)
  have gx:=@a
  refine aC ?_
  clear gx
  simp(disch:=first|omega|(simp;done)|(simp;omega)) [yAu,sP,a]<;>try rfl
 by_cases b:1000000<d
 ·skip
  apply aS.aK h0 func106 rfl
  focus(simp[show Tryz.f106.ntmps=_ from rfl,List.replicate];rfl)
  have gx:=An @a (@b)
  refine aC ?_
  clear gx
  simp(disch:=first|omega|(simp;done)|(simp;omega)) [yAu,sP,a,b]<;>try rfl
 by_cases c:n < -1000000
 ·skip
  apply aS.aK h0 func106 rfl
  focus(simp[show Tryz.f106.ntmps=_ from rfl,List.replicate];rfl)
  have gx:=An @a (An @b (@c))
  refine aC ?_
  clear gx
  simp(disch:=first|omega|(simp;done)|(simp;omega)) [yAu,sP,a,b,c]<;>try rfl
 by_cases e:1000000<n
 ·skip
  apply aS.aK h0 func106 rfl
  focus(simp[show Tryz.f106.ntmps=_ from rfl,List.replicate];rfl)
  have gx:=An @a (An @b (An @c (@e)))
  refine aC ?_
  clear gx
  simp(disch:=first|omega|(simp;done)|(simp;omega)) [yAu,sP,a,b,c,e]<;>try rfl
 have hM:=aNX (n:=n) (by omega)
 obtain⟨D,rfl⟩:∃D:Nat,d=D:=⟨d.toNat,by omega⟩
 obtain⟨N,hN⟩:=gn (n.natAbs)
 rw[hN]at hM
 have hG:=aNW (a:=N) (b:=D) (by omega) (by omega)
 have w:IntKind.u64.wrap (D:Int)=D:=by simp only[IntKind.wrap,IntKind.bits,IntKind.signed];simp;omega
 obtain⟨g,hg⟩:=gn (Nat.gcd N D)
 have a2:¬D=0:=by omega
 have b2:¬1000000<D:=by omega
 have hE:sP n D=if g=1 then 0 else 2:=by
  unfold sP
  rw[hN,Int.toNat_natCast]
  by_cases q:g=1
  ·rw[if_pos q,if_neg (by omega)]
  ·rw[if_neg q,if_pos (by omega)]
 rw[hE]
 rw[hg]at hG
 by_cases q:g=1
 ·have q1:(g:Int)=1:=by omega
  apply aS.aK h0 func106 rfl
  focus(simp[show Tryz.f106.ntmps=_ from rfl,List.replicate];rfl)
  have gx:=An @h1 (An @h2 (An @a (An @a2 (An @b (An @b2 (An @c (An @e (An @hM (An @hG (An @w (An @q1 (@q))))))))))))
  refine aC ?_
  clear gx
  simp(disch:=first|omega|(simp;done)|(simp;omega)) [yAu,q]<;>try rfl
 ·have q1:¬(g:Int)=1:=by omega
  apply aS.aK h0 func106 rfl
  focus(simp[show Tryz.f106.ntmps=_ from rfl,List.replicate];rfl)
  have gx:=An @h1 (An @h2 (An @a (An @a2 (An @b (An @b2 (An @c (An @e (An @hM (An @hG (An @w (An @q1 (@q))))))))))))
  refine aC ?_
  clear gx
  simp(disch:=first|omega|(simp;done)|(simp;omega)) [yAu,q]<;>try rfl
def M5:Nat->List PD->List aB->Option (PD×List aB):=entry (b9 Em.bX i64 fun x=>some (sP x.1 x.2))
omit hU in
theorem aNY(n d:Int)(fl:Nat)(σ:List aB):M5 fl [.agg [.int .i64 n,.int .i64 d]] σ=some (.int .i64 (sP n d),σ):=by
 have e1:Em.bX.dec (.agg [.int .i64 n,.int .i64 d])=some (n,d):=Em.dC rfl
 unfold M5 entry b9
 simp only[e1]
 rfl
theorem aIy(h0:E 79=none)(h1:E 106=some M5)(n d:Int):aS prog E 79 [.agg [.int .i64 n,.int .i64 d]] (i64.U (vE n d)):=by
 have hF:=aNY n d
 by_cases a:sP n d=0
 ·have hd:0<d/\d<=1000000:=by
   unfold sP at a
   split at a
   ·cases a
   ·omega
  have w:IntKind.i64.wrap (128*d)=128*d:=by rw[IntKind.wrap_i64];omega
  rw[a]at hF
  unfold vE
  rw[a]
  apply aS.aK h0 func79 rfl
  focus(simp[show Tryz.f79.ntmps=_ from rfl,List.replicate];rfl)
  by_cases b:n<=0
  ·have gx:=An @h1 (An @hF (@b))
   refine aC ?_
   clear gx
   simp(disch:=first|omega|(simp;done)|(simp;omega)) [yAu,b]<;>try rfl
  by_cases c:128*d<n
  ·have gx:=An @h1 (An @hF (An @b (An @w (@c))))
   refine aC ?_
   clear gx
   simp(disch:=first|omega|(simp;done)|(simp;omega)) [yAu,b,c]<;>try rfl
  by_cases e:128<d
  ·have gx:=An @h1 (An @hF (An @b (An @w (An @c (@e)))))
   refine aC ?_
   clear gx
   simp(disch:=first|omega|(simp;done)|(simp;omega)) [yAu,b,c,e]<;>try rfl
  ·have gx:=An @h1 (An @hF (An @b (An @w (An @c (@e)))))
   refine aC ?_
   clear gx
   simp(disch:=first|omega|(simp;done)|(simp;omega)) [yAu,b,c,e]<;>try rfl
 ·unfold vE
  rw[if_pos a]
  obtain⟨f,hf⟩:=gn (sP n d)
  rw[hf]at a hF
  apply aS.aK h0 func79 rfl
  focus(simp[show Tryz.f79.ntmps=_ from rfl,List.replicate];rfl)
  have gx:=An @h1 (An @hF (@a))
  refine aC ?_
  clear gx
  simp(disch:=first|omega|(simp;done)|(simp;omega)) [yAu]<;>try rfl
end
section
def kV{α:Type}(p:α->Bool):List α->Nat->Int
 | [],_=>-1
 |x::r,i=>if p x=true then(i:Int)else kV p r (i+1)
theorem OW{α:Type}(p:α->Bool):∀(l:List α) (i:Nat),decide (0<=kV p l i)=l.any p
 | [],_=>rfl
 |x::r,i=>by
  unfold kV
  cases h:p x with
  |true=>rw[if_pos rfl,List.any_cons,h];simp
  |false=>rw[if_neg (by decide),List.any_cons,h,OW p r (i+1)];rfl
def l6(w:Int):Bool:=decide (w<0)||decide (1000000<w)
def M6:Nat->List PD->List aB->Option (PD×List aB):=entry (b9 i64 Em.bool fun n=>some (l6 n))
theorem aNR(n:Int)(fl:Nat)(σ:List aB):M6 fl [.int .i64 n] σ=some (.bool (l6 n),σ):=by
 have e:i64.dec (.int .i64 n)=some n:=Em.dC rfl
 unfold M6 entry b9
 simp only[e]
 rfl
variable{E:aD}(hU:aI E)
include hU
theorem aIA(h0:E 108=none)(n:Int):aS prog E 108 [.int .i64 n] (Em.bool.U (l6 n)):=by
 apply aS.aK h0 func108 rfl
 focus(simp[show Tryz.f108.ntmps=_ from rfl,List.replicate];rfl)
 by_cases a:n<0
 ·have gx:=@a
  refine aC ?_
  clear gx
  simp(disch:=first|omega|(simp;done)|(simp;omega)) [yAu,l6,a]<;>try rfl
 ·by_cases b:1000000<n
  ·have gx:=An @a (@b)
   refine aC ?_
   clear gx
   simp(disch:=first|omega|(simp;done)|(simp;omega)) [yAu,l6,a,b]<;>try rfl
  ·have gx:=An @a (@b)
   refine aC ?_
   clear gx
   simp(disch:=first|omega|(simp;done)|(simp;omega)) [yAu,l6,a,b]<;>try rfl
theorem aIC(h0:E 146=none)(h1:E 108=some M6)(l:List Int)(hl:l.length<=1000000):aS prog E 146 [eD.U l,.func 108 []] (i64.U (kV l6 l 0)):=by
 obtain⟨B,hB⟩:=gn (kV l6 l 0)
 rw[hB]
 apply aS.aK h0 func146 rfl
 focus(simp[show Tryz.f146.ntmps=_ from rfl,List.replicate];rfl)
 have gx:=True.intro
 refine aC ?_
 clear gx
 refine Wp.cJ (fun m fr σ=>∃(i:Nat),∃gg:Nat->PD,(i+m=l.length/\kV l6 (l.drop i) i=B)/\fr=[eD.U l,.func 108 [],gg 2,gg 3,gg 4,gg 5,eD.U l,.int .i64 l.length,.int .i64 i,gg 9,gg 10,gg 11,gg 12,gg 13,gg 14,gg 15,gg 16,gg 17,gg 18]/\σ=[]) ?_ (l.length) (by refine⟨0,?_⟩;exact bW (⟨by omega,hB⟩))
 rintro m fr σ ⟨i,gg,hI,rfl,rfl⟩
 obtain⟨hm,hs⟩:=hI
 by_cases hi:i<l.length
 ·have q1:(i:Int)<(l.length:Int):=by omega
  obtain⟨a,ha⟩:=gn (l[i])
  have hc:l.drop i=a::l.drop (i+1):=by rw[yAq hi,ha]
  have hE:=aNR a
  rw[hc]at hs
  unfold kV at hs
  cases hb:l6 a with
  |true=>
   rw[hb]at hE
   rw[if_pos hb]at hs
   have eU:B=(i:Int):=hs.symm
   clear hs
   have gx:=An @q1 (An @hi (@ha))
   refine aC ?_
   clear gx
   first|refine Wp.seq ?_|skip
   apply Wp.jQ
   have gx:=An @h1 (An @hE (An @hi (@ha)))
   refine LA ?_
   clear gx
   apply SQ.nil
   have gx:=@q1
   refine aC ?_
   clear gx
   simp(disch:=first|omega|(simp;done)|(simp;omega)) [yAu,eU]<;>try rfl
  |false=>
   rw[hb]at hE
   rw[if_neg (by rw[hb];decide)]at hs
   have gx:=An @q1 (An @hi (@ha))
   refine aC ?_
   clear gx
   first|refine Wp.seq ?_|skip
   apply Wp.jQ
   have gx:=An @h1 (An @hE (An @hi (@ha)))
   refine LA ?_
   clear gx
   apply SQ.nil
   have gx:=@q1
   refine aC ?_
   clear gx
   refine bP.normal (m-1) (by omega) (by refine⟨i+1,?_⟩;exact bW (⟨by omega,hs⟩))
 ·have q1:¬(i:Int)<(l.length:Int):=by omega
  rw[yAs (by omega)]at hs
  have eU:B=-1:=hs.symm
  have gx:=@q1
  refine aC ?_
  clear gx
  simp(disch:=first|omega|(simp;done)|(simp;omega)) [yAu,eU]<;>try rfl
def M7:Nat->List PD->List aB->Option (PD×List aB):=entry (fun args=>match args with
 | [p,.func g []]=>if g=108 then b9 eD i64 (fun l=>dX (l.length<=1000000) (some (kV l6 l 0))) [p]else none
 |_=>none)
omit hU in
theorem aNS{l:List Int}(hl:l.length<=1000000)(fl:Nat)(σ:List aB):M7 fl [eD.U l,.func 108 []] σ=some (.int .i64 (kV l6 l 0),σ):=by
 have e1:=Em.dC (eD.str l)
 unfold M7 entry b9
 simp only[e1,if_true]
 rw[fB hl]
 rfl
def M8:Nat->List PD->List aB->Option (PD×List aB):=entry (fun args=>match args with
 | [p,.func g []]=>if g=108 then b9 eD Em.bool (fun l=>dX (l.length<=1000000) (some (l.any l6))) [p]else none
 |_=>none)
omit hU in
theorem aNT{l:List Int}(hl:l.length<=1000000)(fl:Nat)(σ:List aB):M8 fl [eD.U l,.func 108 []] σ=some (.bool (l.any l6),σ):=by
 have e1:=Em.dC (eD.str l)
 unfold M8 entry b9
 simp only[e1,if_true]
 rw[fB hl]
 rfl
theorem aIE(h0:E 107=none)(h1:E 146=some M7)(l:List Int)(hl:l.length<=1000000):aS prog E 107 [eD.U l,.func 108 []] (Em.bool.U (l.any l6)):=by
 have hE:=aNS hl
 rw[<-OW l6 l 0]
 apply aS.aK h0 func107 rfl
 focus(simp[show Tryz.f107.ntmps=_ from rfl,List.replicate];rfl)
 simp only[bJ]at hE
 have gx:=An @h1 (@hE)
 refine aC ?_
 clear gx
 simp(disch:=first|omega|(simp;done)|(simp;omega)) [yAu]<;>try rfl
def wO(r:bM):Int:=
 if lZ r.name=false\/lZ r.jN=false then 8 else if vE r.num r.den≠0 then vE r.num r.den else if ¬(-256<=r.first/\r.first<=256)then 3 else if r.fJ.length=0 then 13 else if 128<r.fJ.length then 4 else if r.fJ.any l6=true then 3 else 0
def CA:Nat->List PD->List aB->Option (PD×List aB):=entry (b9 Em.text Em.bool fun s=>dX (s.length<=100000) (some (lZ s)))
omit hU in
theorem GR{s:List UInt8}(h:s.length<=100000)(fl:Nat)(σ:List aB):CA fl [.str s] σ=some (.bool (lZ s),σ):=by
 have e1:Em.text.dec (.str s)=some s:=Em.dC rfl
 unfold CA entry b9
 simp only[e1]
 rw[fB h]
 rfl
theorem aIG(h0:E 81=none)(h1:E 107=some M8)(l:List Int)(hl:l.length<=1000000):aS prog E 81 [eD.U l] (i64.U (if l.any l6=true then 3 else 0)):=by
 have hE:=aNT hl
 simp only[bJ]at hE
 cases hb:l.any l6 with
 |true=>
  rw[hb]at hE
  apply aS.aK h0 func81 rfl
  focus(simp[show Tryz.f81.ntmps=_ from rfl,List.replicate];rfl)
  have gx:=An @h1 (@hE)
  refine aC ?_
  clear gx
  simp(disch:=first|omega|(simp;done)|(simp;omega)) [yAu]<;>try rfl
 |false=>
  rw[hb]at hE
  apply aS.aK h0 func81 rfl
  focus(simp[show Tryz.f81.ntmps=_ from rfl,List.replicate];rfl)
  have gx:=An @h1 (@hE)
  refine aC ?_
  clear gx
  simp(disch:=first|omega|(simp;done)|(simp;omega)) [yAu]<;>try rfl
def IJ:Nat->List PD->List aB->Option (PD×List aB):=entry (b9 Em.bX i64 fun x=>some (vE x.1 x.2))
omit hU in
theorem aD6(n d:Int)(fl:Nat)(σ:List aB):IJ fl [.agg [.int .i64 n,.int .i64 d]] σ=some (.int .i64 (vE n d),σ):=by
 have e1:Em.bX.dec (.agg [.int .i64 n,.int .i64 d])=some (n,d):=Em.dC rfl
 unfold IJ entry b9
 simp only[e1]
 rfl
def NA:Nat->List PD->List aB->Option (PD×List aB):=entry (b9 i64 Em.bool fun n=>some (decide (-256<=n)&&decide (n<=256)))
omit hU in
theorem aNU(n:Int)(fl:Nat)(σ:List aB):NA fl [.int .i64 n] σ=some (.bool (decide (-256<=n)&&decide (n<=256)),σ):=by
 have e1:i64.dec (.int .i64 n)=some n:=Em.dC rfl
 unfold NA entry b9
 simp only[e1]
 rfl
def M9:Nat->List PD->List aB->Option (PD×List aB):=entry (b9 eD i64 fun l=>dX (l.length<=1000000) (some (if l.any l6=true then 3 else 0)))
omit hU in
theorem aNV{l:List Int}(h:l.length<=1000000)(fl:Nat)(σ:List aB):M9 fl [eD.U l] σ=some (.int .i64 (if l.any l6=true then 3 else 0),σ):=by
 have e1:=Em.dC (eD.str l)
 unfold M9 entry b9
 simp only[e1]
 rw[fB h]
 rfl
def uD(s:List UInt8):Prop:=s.length<=100000
theorem aIK(h0:E 37=none)(h1:E 36=some CA)(h2:E 79=some IJ)(h3:E 80=some NA)(h4:E 81=some M9)(r:bM)(hr:s9 r)(hn:uD r.name)(ht:uD r.jN):aS prog E 37 [Em.aR.U r] (i64.U (wO r)):=by
 obtain⟨n,t,a,b,f,w⟩:=r
 have e1:=GR hn
 have e2:=GR ht
 have e3:=aD6 a b
 have e4:=aNU f
 have e5:=aNV (show w.length<=1000000 from hr)
 have hw:w.length<=1000000:=hr
 unfold wO
 simp only[bJ]at e1 e2 e5
 simp only[vT,bJ]
 cases c1:lZ n with
 |false=>
  rw[c1]at e1
  rw[if_pos (.inl rfl)]
  apply aS.aK h0 func37 rfl
  focus(simp[show Tryz.f37.ntmps=_ from rfl,List.replicate];rfl)
  have gx:=An @h1 (@e1)
  refine aC ?_
  clear gx
  simp(disch:=first|omega|(simp;done)|(simp;omega)) [yAu]<;>try rfl
 |true=>
 rw[c1]at e1
 cases c2:lZ t with
 |false=>
  rw[c2]at e2
  rw[if_pos (.inr rfl)]
  apply aS.aK h0 func37 rfl
  focus(simp[show Tryz.f37.ntmps=_ from rfl,List.replicate];rfl)
  have gx:=An @h1 (An @e1 (@e2))
  refine aC ?_
  clear gx
  simp(disch:=first|omega|(simp;done)|(simp;omega)) [yAu]<;>try rfl
 |true=>
 rw[c2]at e2
 rw[if_neg (by simp)]
 obtain⟨p,hp⟩:=gn (vE a b)
 rw[hp]at e3 ⊢
 by_cases c3:p=0
 rotate_left
 ·rw[if_pos c3]
  apply aS.aK h0 func37 rfl
  focus(simp[show Tryz.f37.ntmps=_ from rfl,List.replicate];rfl)
  have gx:=An @h1 (An @h2 (An @e1 (An @e2 (An @e3 (@c3)))))
  refine aC ?_
  clear gx
  simp(disch:=first|omega|(simp;done)|(simp;omega)) [yAu]<;>try rfl
 subst c3
 rw[if_neg (by simp)]
 by_cases c4:-256<=f/\f<=256
 rotate_left
 ·rw[if_pos c4]
  have uC:(decide (-256<=f)&&decide (f<=256))=false:=by simpa using fun h=>Int.not_le.1 (fun g=>c4 ⟨h,g⟩)
  rw[uC]at e4
  apply aS.aK h0 func37 rfl
  focus(simp[show Tryz.f37.ntmps=_ from rfl,List.replicate];rfl)
  have gx:=An @h1 (An @h2 (An @h3 (An @e1 (An @e2 (An @e3 (@e4))))))
  refine aC ?_
  clear gx
  simp(disch:=first|omega|(simp;done)|(simp;omega)) [yAu]<;>try rfl
 rw[if_neg (not_not_intro c4)]
 have uC:(decide (-256<=f)&&decide (f<=256))=true:=by simpa using c4
 rw[uC]at e4
 by_cases c5:w.length=0
 ·rw[if_pos c5]
  have V4:(w.length:Int)=0:=by omega
  have c6:w=[]:=yAf c5
  subst c6
  apply aS.aK h0 func37 rfl
  focus(simp[show Tryz.f37.ntmps=_ from rfl,List.replicate];rfl)
  have gx:=An @h1 (An @h2 (An @h3 (An @e1 (An @e2 (An @e3 (@e4))))))
  refine aC ?_
  clear gx
  simp(disch:=first|omega|(simp;done)|(simp;omega)) [yAu]<;>try rfl
 rw[if_neg c5]
 have V4:¬w=[]:=fun h=>c5 (by rw[h];rfl)
 by_cases c6:128<w.length
 ·rw[if_pos c6]
  have c7:128<(w.length:Int):=by omega
  apply aS.aK h0 func37 rfl
  focus(simp[show Tryz.f37.ntmps=_ from rfl,List.replicate];rfl)
  have gx:=An @h1 (An @h2 (An @h3 (An @e1 (An @e2 (An @e3 (An @e4 (An @c5 (An @V4 (An @c6 (@c7))))))))))
  refine aC ?_
  clear gx
  simp(disch:=first|omega|(simp;done)|(simp;omega)) [yAu]<;>try rfl
 rw[if_neg c6]
 have c7:¬128<(w.length:Int):=by omega
 obtain⟨q,hq⟩:∃q,(if w.any l6=true then(3:Int)else 0)=q:=⟨_,rfl⟩
 rw[hq]at e5 ⊢
 apply aS.aK h0 func37 rfl
 focus(simp[show Tryz.f37.ntmps=_ from rfl,List.replicate];rfl)
 have gx:=An @h1 (An @h2 (An @h3 (An @h4 (An @e1 (An @e2 (An @e3 (An @e4 (An @e5 (An @c5 (An @V4 (An @c6 (@c7))))))))))))
 refine aC ?_
 clear gx
 simp(disch:=first|omega|(simp;done)|(simp;omega)) [yAu]<;>try rfl
end
section
def J6(k:Nat):List fA->List fA->Int
 |_,[]=>0
 |pre,d::r=>if d.aR<0\/(k:Int)<=d.aR then 10 else if d.shift < -127\/127<d.shift then 3 else if (pre.any fun x=>decide (x=d))=true then 9 else J6 k (pre++[d]) r
def DG(k:Nat)(l:List fA):Int:=if 8<l.length then 4 else J6 k [] l
variable{E:aD}(hU:aI E)
include hU
theorem aIM(h0:E 176=none)(l:List fA)(v:fA)(hl:l.length<=1000000):aS prog E 176 [iE.U l,Em.draw.U v] (i64.U (kV (fun x=>decide (x=v)) l 0)):=by
 obtain⟨B,hB⟩:∃B,kV (fun x=>decide (x=v)) l 0=B:=⟨_,rfl⟩
 rw[hB]
 obtain⟨v0,v1⟩:=v
 simp only[GX]
 apply aS.aK h0 func176 rfl
 focus(simp[show Tryz.f176.ntmps=_ from rfl,List.replicate];rfl)
 have gx:=True.intro
 refine aC ?_
 clear gx
 refine Wp.cJ (fun m fr σ=>∃(i:Nat),∃gg:Nat->PD,(i+m=l.length/\kV (fun x=>decide (x=fA.mk v0 v1)) (l.drop i) i=B)/\fr=[iE.U l,gg 1,gg 2,.ptr 0 0,gg 4,gg 5,iE.U l,.int .i64 l.length,.int .i64 i,gg 9,gg 10,gg 11,gg 12,gg 13,gg 14,gg 15,gg 16,gg 17,gg 18]/\σ=[.box (.agg [.int .i64 v0,.int .i64 v1])]) ?_ (l.length) (by refine⟨0,?_⟩;exact bW (⟨by omega,hB⟩))
 rintro m fr σ ⟨i,gg,hI,rfl,rfl⟩
 obtain⟨hm,hs⟩:=hI
 by_cases hi:i<l.length
 ·have q1:(i:Int)<(l.length:Int):=by omega
  obtain⟨a,ha⟩:=gn (l[i])
  have hc:l.drop i=a::l.drop (i+1):=by rw[yAq hi,ha]
  rw[hc]at hs
  unfold kV at hs
  obtain⟨a0,a1⟩:=a
  by_cases hb:a0=v0
  ·by_cases pC:a1=v1
   ·rw[if_pos (by rw[hb,pC];simp)]at hs
    have eU:B=(i:Int):=hs.symm
    clear hs
    have gx:=An @q1 (An @hi (An @ha (An @hb (@pC))))
    refine aC ?_
    clear gx
    simp(disch:=first|omega|(simp;done)|(simp;omega)) [yAu,eU]<;>try rfl
   ·rw[if_neg (by simpa using fun _=>pC)]at hs
    have gx:=An @q1 (An @hi (An @ha (An @hb (An @pC ((Ne.symm pC))))))
    refine aC ?_
    clear gx
    refine bP.normal (m-1) (by omega) (by refine⟨i+1,?_⟩;exact bW (⟨by omega,hs⟩))
  ·rw[if_neg (by simpa using fun h=>absurd h hb)]at hs
   have gx:=An @q1 (An @hi (An @ha (An @hb ((Ne.symm hb)))))
   refine aC ?_
   clear gx
   refine bP.normal (m-1) (by omega) (by refine⟨i+1,?_⟩;exact bW (⟨by omega,hs⟩))
 ·have q1:¬(i:Int)<(l.length:Int):=by omega
  rw[yAs (by omega)]at hs
  have eU:B=-1:=hs.symm
  have gx:=@q1
  refine aC ?_
  clear gx
  simp(disch:=first|omega|(simp;done)|(simp;omega)) [yAu,eU]<;>try rfl
def NB:Nat->List PD->List aB->Option (PD×List aB):=entry (fQ iE Em.draw i64 fun l v=>dX (l.length<=1000000) (some (kV (fun x=>decide (x=v)) l 0)))
omit hU in
theorem aNP{l:List fA}{v:fA}(hl:l.length<=1000000)(fl:Nat)(σ:List aB):NB fl [iE.U l,Em.draw.U v] σ=some (.int .i64 (kV (fun x=>decide (x=v)) l 0),σ):=by
 have e1:=Em.dC (iE.str l)
 have e2:=Em.dC (Em.draw.str v)
 unfold NB entry fQ
 simp only[e1,e2]
 rw[fB hl]
 rfl
def NC:Nat->List PD->List aB->Option (PD×List aB):=entry (fQ iE Em.draw Em.bool fun l v=>dX (l.length<=1000000) (some (l.any fun x=>decide (x=v))))
omit hU in
theorem aNQ{l:List fA}{v:fA}{p:PD}(hl:l.length<=1000000)(hp:p.strip=iE.U l)(fl:Nat)(σ:List aB):NC fl [p,Em.draw.U v] σ=some (.bool (l.any fun x=>decide (x=v)),σ):=by
 have e1:=Em.dC hp
 have e2:=Em.dC (Em.draw.str v)
 unfold NC entry fQ
 simp only[e1,e2]
 rw[fB hl]
 rfl
theorem aIO(h0:E 147=none)(h1:E 176=some NB)(l:List fA)(v:fA)(hl:l.length<=1000000):aS prog E 147 [iE.U l,Em.draw.U v] (Em.bool.U (l.any fun x=>decide (x=v))):=by
 have hE:=aNP (v:=v) hl
 rw[<-OW _ l 0]
 simp only[bJ,GX]at hE
 simp only[GX]
 apply aS.aK h0 func147 rfl
 focus(simp[show Tryz.f147.ntmps=_ from rfl,List.replicate];rfl)
 have gx:=An @h1 (@hE)
 refine aC ?_
 clear gx
 simp(disch:=first|omega|(simp;done)|(simp;omega)) [yAu]<;>try rfl
theorem aIQ(h0:E 110=none)(h1:E 147=some NC)(rs:List bM)(hrs:rs.length<=1000000)(lo hg:Int)(l:List fA)(hl:l.length<=1000000) :
  aS prog E 110 [.agg [aX.U rs,.int .i64 lo,.int .i64 hg],iE.U l] (i64.U (DG rs.length l)):=by
 unfold DG
 by_cases c:8<l.length
 ·have c1:8<(l.length:Int):=by omega
  rw[if_pos c]
  apply aS.aK h0 func110 rfl
  focus(simp[show Tryz.f110.ntmps=_ from rfl,List.replicate];rfl)
  have gx:=An @c (@c1)
  refine aC ?_
  clear gx
  simp(disch:=first|omega|(simp;done)|(simp;omega)) [yAu]<;>try rfl
 have c1:¬8<(l.length:Int):=by omega
 rw[if_neg c]
 obtain⟨B,hB⟩:=gn (J6 rs.length [] l)
 rw[hB]
 apply aS.aK h0 func110 rfl
 focus(simp[show Tryz.f110.ntmps=_ from rfl,List.replicate];rfl)
 have gx:=An @c (@c1)
 refine aC ?_
 clear gx
 obtain⟨X,hX⟩:=gn (aB.box (.agg [.slice (sz 6 rs) (rs.map Em.aR.U) .any,.int .i64 lo,.int .i64 hg]))
 refine Wp.cJ (fun m fr σ=>∃(i:Nat) (σ1:List aB),∃gg:Nat->PD,(i+m=l.length/\σ1[0]?=some X/\J6 rs.length (l.take i) (l.drop i)=B)/\fr=[gg 0,iE.U l,.ptr 0 0,gg 3,gg 4,gg 5,gg 6,gg 7,gg 8,gg 9,iE.U l,.int .i64 l.length,.int .i64 i,gg 13,gg 14,gg 15,gg 16,gg 17,gg 18,gg 19,gg 20,gg 21,gg 22,gg 23,gg 24,gg 25,gg 26,gg 27,gg 28,gg 29,gg 30,gg 31,gg 32,gg 33,gg 34,gg 35,gg 36,gg 37,gg 38,gg 39,gg 40,gg 41,gg 42,gg 43,gg 44]/\σ=σ1) ?_ (l.length) (by refine⟨0,[X],?_⟩;exact cW (⟨by omega,rfl,hB⟩) (by(first|rfl|(simp[hX];repeat(first|rfl|(apply And.intro)))|(simp[hX];done))) (by(first|rfl|(simp[hX];repeat(first|rfl|(apply And.intro)))|(simp[hX];done))))
 rintro m fr σ ⟨i,σ1,gg,hI,rfl,rfl⟩
 obtain⟨hm,hx0,hs⟩:=hI
 by_cases hi:i<l.length
 ·have q1:(i:Int)<(l.length:Int):=by omega
  obtain⟨a,ha⟩:=gn (l[i])
  have hc:l.drop i=a::l.drop (i+1):=by rw[yAq hi,ha]
  rw[hc]at hs
  unfold J6 at hs
  obtain⟨a0,a1⟩:=a
  have fX:0<σ.length:=(yA.1 hx0).1
  have j0:∀x:aB,(σ++[x])[σ.length]?=some x:=fun x=>by simp
  have j1:∀x:aB,(σ++[x])[0]?=some X:=fun x=>by rw[yAg fX];exact hx0
  rw[<-hX]at j1
  have hx1:=hx0
  rw[<-hX]at hx1
  obtain⟨hltx,hxe⟩:=yA.1 hx1
  by_cases c2:a0<0
  ·rw[if_pos (.inl c2)]at hs
   subst hs
   have gx:=An @q1 (An @hi (An @ha (An @j0 (An @j1 (An @hx1 (An @fX (An @hxe (@c2))))))))
   refine aC ?_
   clear gx
   simp(disch:=first|omega|(simp;done)|(simp;omega)) [yAu]<;>try rfl
  by_cases c3:(rs.length:Int)<=a0
  ·rw[if_pos (.inr c3)]at hs
   subst hs
   have gx:=An @q1 (An @hi (An @ha (An @j0 (An @j1 (An @hx1 (An @fX (An @hxe (An @c2 (@c3)))))))))
   refine aC ?_
   clear gx
   simp(disch:=first|omega|(simp;done)|(simp;omega)) [yAu]<;>try rfl
  rw[if_neg (fun h=>h.elim c2 c3)]at hs
  by_cases c4:a1 < -127
  ·rw[if_pos (.inl c4)]at hs
   subst hs
   have gx:=An @q1 (An @hi (An @ha (An @j0 (An @j1 (An @hx1 (An @fX (An @hxe (An @c2 (An @c3 (@c4))))))))))
   refine aC ?_
   clear gx
   simp(disch:=first|omega|(simp;done)|(simp;omega)) [yAu]<;>try rfl
  by_cases c5:127<a1
  ·rw[if_pos (.inr c5)]at hs
   subst hs
   have gx:=An @q1 (An @hi (An @ha (An @j0 (An @j1 (An @hx1 (An @fX (An @hxe (An @c2 (An @c3 (An @c4 (@c5)))))))))))
   refine aC ?_
   clear gx
   simp(disch:=first|omega|(simp;done)|(simp;omega)) [yAu]<;>try rfl
  rw[if_neg (fun h=>h.elim c4 c5)]at hs
  have hsl:(PD.slice (sz 2 l) ((l.map Em.draw.U).take i) .any).strip=iE.U (l.take i):=by
   rw[PD.lG,<-List.map_take,show((l.take i).map Em.draw.U).map PD.strip=(l.take i).map Em.draw.U by rw[List.map_map];exact yBg fun x _=>Em.draw.str x]
   have hne:l≠[]:=fun h=>by rw[h]at hi;simp at hi
   rw[bJ]
   simp[sz,hne]
  have hE:=aNQ (v:=⟨a0,a1⟩) (l:=l.take i) (p:=PD.slice (sz 2 l) ((l.map Em.draw.U).take i) .any) (by rw[yAt];omega) hsl
  simp only[GX]at hE
  have hle:i<=l.length:=by omega
  have htk:l.take (i+1)=l.take i++[⟨a0,a1⟩]:=by rw[List.take_succ_eq_append_getElem hi,ha]
  cases hb:(l.take i).any fun x=>decide (x=fA.mk a0 a1)with
  |true=>
   rw[hb]at hE hs
   rw[if_pos rfl]at hs
   subst hs
   have gx:=An @q1 (An @hi (An @ha (An @j0 (An @j1 (An @hx1 (An @fX (An @hxe (An @c2 (An @c3 (An @c4 (An @c5 (An @h1 (An @hE (@hle))))))))))))))
   refine aC ?_
   clear gx
   simp(disch:=first|omega|(simp;done)|(simp;omega)) [yAu]<;>try rfl
  |false=>
   rw[hb]at hE hs
   rw[if_neg (by decide)]at hs
   have gx:=An @q1 (An @hi (An @ha (An @j0 (An @j1 (An @hx1 (An @fX (An @hxe (An @c2 (An @c3 (An @c4 (An @c5 (An @h1 (An @hE (@hle))))))))))))))
   refine aC ?_
   clear gx
   refine bP.normal (m-1) (by omega) (by refine⟨i+1,σ++[.box (.agg [.int .i64 a0,.int .i64 a1])],?_⟩;exact bW (⟨by omega,by rw[yAg fX];exact hx0,by rw[htk];exact hs⟩))
 ·have q1:¬(i:Int)<(l.length:Int):=by omega
  rw[yAs (by omega)]at hs
  have eU:B=0:=hs.symm
  have gx:=@q1
  refine aC ?_
  clear gx
  simp(disch:=first|omega|(simp;done)|(simp;omega)) [yAu,eU]<;>try rfl
end
section
def OY(r:bM):Prop:=s9 r/\uD r.name/\uD r.jN
def AO:List bM->Int
 | []=>0
 |r::t=>if wO r≠0 then wO r else AO t
def DH(rs:List bM)(lo hg:Int):Int:=if 60<rs.length then 4 else if AO rs≠0 then AO rs else oX lo hg
def IK:Nat->List PD->List aB->Option (PD×List aB):=entry (b9 Em.aR i64 fun r=>dX (OY r) (some (wO r)))
theorem aDX{r:bM}(h:OY r)(fl:Nat)(σ:List aB):IK fl [Em.aR.U r] σ=some (.int .i64 (wO r),σ):=by
 have e1:=Em.dC (Em.aR.str r)
 unfold IK entry b9
 simp only[e1]
 rw[fB h]
 rfl
def FC:Nat->List PD->List aB->Option (PD×List aB):=entry (b9 Em.bX i64 fun x=>some (oX x.1 x.2))
theorem VZ(n d:Int)(fl:Nat)(σ:List aB):FC fl [.agg [.int .i64 n,.int .i64 d]] σ=some (.int .i64 (oX n d),σ):=by
 have e1:Em.bX.dec (.agg [.int .i64 n,.int .i64 d])=some (n,d):=Em.dC rfl
 unfold FC entry b9
 simp only[e1]
 rfl
variable{E:aD}(hU:aI E)
include hU
theorem aIS(h0:E 109=none)(h1:E 37=some IK)(h2:E 82=some FC)(rs:List bM)(hrs:∀r∈rs,OY r)(hrl:rs.length<=1000000)(lo hg:Int) :
  aS prog E 109 [.agg [aX.U rs,.int .i64 lo,.int .i64 hg]] (i64.U (DH rs lo hg)):=by
 unfold DH
 by_cases c:60<rs.length
 ·have c1:60<(rs.length:Int):=by omega
  rw[if_pos c]
  apply aS.aK h0 func109 rfl
  focus(simp[show Tryz.f109.ntmps=_ from rfl,List.replicate];rfl)
  have gx:=An @c (@c1)
  refine aC ?_
  clear gx
  simp(disch:=first|omega|(simp;done)|(simp;omega)) [yAu]<;>try rfl
 have c1:¬60<(rs.length:Int):=by omega
 rw[if_neg c]
 obtain⟨B,hB⟩:=gn ((if AO rs≠0 then AO rs else oX lo hg))
 rw[hB]
 have hC:=VZ lo hg
 apply aS.aK h0 func109 rfl
 focus(simp[show Tryz.f109.ntmps=_ from rfl,List.replicate];rfl)
 have gx:=An @c (@c1)
 refine aC ?_
 clear gx
 obtain⟨X,hX⟩:=gn (aB.box (.agg [.slice (sz 6 rs) (rs.map Em.aR.U) .any,.int .i64 lo,.int .i64 hg]))
 refine Wp.cJ (fun m fr σ=>∃(i:Nat) (σ1:List aB),∃gg:Nat->PD,(i+m=rs.length/\σ1[0]?=some X/\(if AO (rs.drop i)≠0 then AO (rs.drop i)else oX lo hg)=B)/\fr=[gg 0,.ptr 0 0,gg 2,gg 3,gg 4,gg 5,gg 6,gg 7,gg 8,gg 9,gg 10,aX.U rs,.int .i64 rs.length,.int .i64 i,gg 14,gg 15,gg 16,gg 17,gg 18,gg 19,gg 20,gg 21,gg 22,gg 23,gg 24,gg 25]/\σ=σ1) ?_ (rs.length) (by refine⟨0,[X],?_⟩;exact cW (⟨by omega,rfl,hB⟩) (by(first|rfl|(simp[hX];repeat(first|rfl|(apply And.intro)))|(simp[hX];done))) (by(first|rfl|(simp[hX];repeat(first|rfl|(apply And.intro)))|(simp[hX];done))))
 rintro m fr σ ⟨i,σ1,gg,hI,rfl,rfl⟩
 obtain⟨hm,hx0,hs⟩:=hI
 have hx1:=hx0
 rw[<-hX]at hx1
 obtain⟨fX,hxe⟩:=yA.1 hx1
 by_cases hi:i<rs.length
 ·have q1:(i:Int)<(rs.length:Int):=by omega
  obtain⟨a,ha⟩:=gn (rs[i])
  have hc:rs.drop i=a::rs.drop (i+1):=by rw[yAq hi,ha]
  rw[hc]at hs
  unfold AO at hs
  have hE:=aDX (hrs a (ha▸yAm hi))
  have j0:∀x:aB,(σ++[x])[σ.length]?=some x:=fun x=>by simp
  obtain⟨e,he⟩:=gn (wO a)
  rw[he]at hE hs
  simp only[vT,bJ]at hE
  by_cases c2:e=0
  ·subst c2
   simp only[ne_eq,not_true_eq_false,if_false]at hs
   have gx:=An @q1 (An @hi (An @ha (An @j0 (An @h1 (@hE)))))
   refine aC ?_
   clear gx
   refine bP.normal (m-1) (by omega) (by refine⟨i+1,σ++[.box (.agg [.str a.name,.str a.jN,.int .i64 a.num,.int .i64 a.den,.int .i64 a.first,.slice (sz 1 a.fJ) (a.fJ.map i64.U) .any])],?_⟩;exact bW (⟨by omega,by rw[yAg fX];exact hx0,hs⟩))
  ·simp only[ne_eq,c2,not_false_eq_true,if_true]at hs
   subst hs
   have gx:=An @q1 (An @hi (An @ha (An @j0 (An @h1 (An @hE (@c2))))))
   refine aC ?_
   clear gx
   simp(disch:=first|omega|(simp;done)|(simp;omega)) [yAu]<;>try rfl
 ·have q1:¬(i:Int)<(rs.length:Int):=by omega
  rw[yAs (by omega)]at hs
  have hs2:oX lo hg=B:=hs
  rw[hs2]at hC
  have gx:=An @q1 (An @hx1 (An @fX (An @hxe (An @h2 (@hC)))))
  refine aC ?_
  clear gx
  simp(disch:=first|omega|(simp;done)|(simp;omega)) [yAu]<;>try rfl
end
end Go.Kz
namespace Go.Kz
section
open Go
section
variable{P:Program}{call:dD}{fl:Nat}{ops:Array Oper}{l:List Oper}{fr aL:List PD}{σ σ1:List aB}{K:List PD->List aB->Prop}
variable{dst:Option Tmp}{x y z:Operand}{t ty:TypeId}{pos:String}{edges:Array Edge}{guard:Option (Nat×Bool)}{p q v r:PD}{ok:Bool}
theorem SL.lookup(hw:Wt (Region.wanted ⟨dst,.lookup t x y ok,ty,pos,edges,guard⟩ (bI ops fr)=true))(hx:bU fr x=some p)(hy:bU fr y=some q)(hr:By (EP P σ t p q ok=some r))(hf:Fr (bE fr dst r=aL))(k:SQ P call fl ops l aL σ K) :
  SQ P call fl ops (⟨dst,.lookup t x y ok,ty,pos,edges,guard⟩::l) fr σ K:=
 .step hw.h (tB rfl rfl (by simp only[dL,dV hx,dV hy,hr.h])) (hf.h▸k)
theorem SL.mapUpdate(hw:Wt (Region.wanted ⟨dst,.mapUpdate t x y z,ty,pos,edges,guard⟩ (bI ops fr)=true))(hx:bU fr x=some p)(hy:bU fr y=some q)(hz:bU fr z=some v)(hr:By (ER P fl σ t p q v=some σ1))(hf:Fr (bE fr dst (.aH [])=aL))(k:SQ P call fl ops l aL σ1 K) :
  SQ P call fl ops (⟨dst,.mapUpdate t x y z,ty,pos,edges,guard⟩::l) fr σ K:=
 .step hw.h (tB rfl rfl (by simp only[dL,dV hx,dV hy,dV hz,hr.h])) (hf.h▸k)
theorem SL.makeMap{kt e:TypeId}(hw:Wt (Region.wanted ⟨dst,.makeMap t none,ty,pos,edges,guard⟩ (bI ops fr)=true))(hx:By (P.underlying t=some (.map kt e)))(hr:Ns (σ++[.map []]=σ1)){n:Nat}(hn:Ns (σ.length=n))(hf:Fr (bE fr dst (.fD n)=aL))(k:SQ P call fl ops l aL σ1 K) :
  SQ P call fl ops (⟨dst,.makeMap t none,ty,pos,edges,guard⟩::l) fr σ K:=by
 obtain⟨rfl⟩:=hr.h
 obtain⟨rfl⟩:=hn.h
 exact .step hw.h (tB rfl rfl (by simp only[dL,hx.h])) (hf.h▸k)
end
theorem lN{R G:Prop}(r:R)(h:Hd R->G:=by
  (intro hh
   (repeat(first
    |(refine Fr.i ?_;simp only[bE,List.set_cons_zero,List.set_cons_succ];try rfl)
    |(refine By.i ?_;(focus(simp(disch:=first|omega|(simp;done)|(simp;omega)) [wrap_i64,wrap_u64,gx,entry,uH,b9,fQ,D1];first|done|rfl|exact⟨rfl,rfl⟩)))
    |(refine By.i ?_;simp(disch:=first|omega|(simp;done)|(simp;omega)) [wrap_i64,wrap_u64,gx,entry,uH,b9,fQ,D1];refine⟨(by(try simp only[yAa,List.length_cons,List.length_nil,maxLen]);omega),rfl⟩)
    |(refine Wt.i ?_;first|rfl|(focus(simp[gx,entry,uH,b9,fQ,D1];done)))
    |(refine Ns.i ?_;(try simp only[yAl,List.nil_append,List.cons_append,yAi,yAa,List.length_cons,List.length_nil,yAp,Nat.reduceAdd]);rfl)|rfl
    |(apply SL.pass;(focus(refine Wt.i ?_;rfl)))|(apply SL.K6;(focus decide +kernel))|(apply SL.G4;(focus rfl))|apply SL.move|apply SL.assign|apply SL.load|apply SL.D2|apply SL.G5|apply SL.make
    |apply SL.binOp|apply SL.append|apply SL.copy|apply SL.builtin|apply SL.fieldAddr|apply SL.indexAddr|apply SL.field|apply SL.extract|apply SL.D3|apply SL.pick|apply SL.store|apply SL.unOp|apply SL.convert|apply SL.index
    |apply SL.slice|apply SL.build|apply SL.nilCheck|apply SL.buildSlice|apply SL.box|apply SL.alloc|apply SL.makeFunc|apply SL.lookup|apply SL.mapUpdate|apply SL.makeMap|apply SQ.nil|(apply WL.X5;(focus decide +kernel))
    |(apply WL.G6 (by assumption);(focus decide +kernel);(focus decide +kernel))|(apply WL.K9;(focus decide +kernel);(focus decide +kernel))|(apply WL.PM;(focus decide +kernel))
    |(apply WL.X6 (by assumption);(focus decide +kernel);(focus decide +kernel))|(apply WL.X7;(focus decide +kernel);(focus decide +kernel))|(apply WL.X8 (by assumption);(focus decide +kernel);(focus decide +kernel))
    |(apply WL.X9 (by assumption);(focus decide +kernel);(focus decide +kernel))|(apply WL.YA (by assumption);(focus decide +kernel);(focus decide +kernel))
    |(apply WL.YB (by assumption);(focus decide +kernel);(focus decide +kernel))|apply WL.skip|(apply WL.ct;(focus rfl))|(apply WL.cf;(focus rfl))|refine kI.normal ?_|refine kI.ret ?_|refine kI.exit ?_
    |refine mQ.normal ?_|refine mQ.ret ?_|refine mQ.here ?_|refine mQ.there (by decide) ?_|refine Wp.block ?_|refine Wp.skip ?_|refine Wp.ret ?_|refine Wp.exit ?_|refine bP.ret ?_|refine bP.exit ?_
    |refine vV.normal ?_|refine vV.ret ?_|refine vV.exit ?_|refine Wp.seq (Wp.seq ?_)|refine Wp.seq (Wp.block ?_)|(refine Wp.seq ?_;apply WL.ct;(focus rfl))|(refine Wp.seq ?_;apply WL.cf;(focus rfl))))
   exact hh.out)):G:=h ⟨r⟩
end
end Go.Kz
end
