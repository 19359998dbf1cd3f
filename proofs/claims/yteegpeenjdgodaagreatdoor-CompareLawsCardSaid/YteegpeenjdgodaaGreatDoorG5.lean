/- Steps of the proof. -/
import Derived.Test.YteegpeenjdgodaaGreatDoorG3
import Derived.Test.YteegpeenjdgodaaGreatDoorG8
set_option linter.all false
set_option maxHeartbeats 40000000
set_option maxRecDepth 100000
open Go.Proofs.Tryz
noncomputable section
namespace Go.Kz
open Go Go.Proofs
abbrev i64:Em Int:=Em.int .i64
abbrev fM:Em (List Int):=i64.list 1
structure bB where
 name:Gd
 jJ:Gd
 num:Int
 den:Int
 first:Int
 kX:List Int
 deriving DecidableEq
structure dT where
 aG:Int
 shift:Int
 deriving DecidableEq
structure iU where
 lo:Int
 hi:Int
 aX:List dT
 deriving DecidableEq
structure bW where
 name:Gd
 num:Int
 den:Int
 aU:List iU
 deriving DecidableEq
structure bD where
 name:Gd
 eE:Bool
 low:Int
 high:Int
 stops:List bW
 deriving DecidableEq
structure bP where
 name:Gd
 dR:Int
 dst:Int
 shift:Int
 o9:Bool
 deriving DecidableEq
structure aP where
 name:Gd
 aM:List bB
 aD:List bD
 aO:List bP
 deriving DecidableEq
def bO.aG:bO bB:=((bO.one .text).pair ((bO.one .text).pair ((bO.one i64).pair ((bO.one i64).pair ((bO.one i64).pair (.one fM)))))).mK (λr=>(r.name,r.jJ,r.num,r.den,r.first,r.kX)) (λx y h=>Aq)
def Em.aG:Em bB:=.agg .aG
@[simp] theorem nN{r:bB}:Em.aG.aA r=.agg [.str r.name,.str r.jJ,.int .i64 r.num,.int .i64 r.den,.int .i64 r.first,fM.aA r.kX]:=rfl
abbrev aM:Em (List bB):=Em.aG.list 6
def bO.draw:bO dT:=((bO.one i64).pair (.one i64)).mK (λr=>(r.aG,r.shift)) (λx y h=>Aq)
def Em.draw:Em dT:=.agg .draw
@[simp] theorem DF{r:dT}:Em.draw.aA r=.agg [.int .i64 r.aG,.int .i64 r.shift]:=rfl
abbrev fN:Em (List dT):=Em.draw.list 2
def bO.eZ:bO iU:=((bO.one i64).pair ((bO.one i64).pair (.one fN))).mK (λr=>(r.lo,r.hi,r.aX)) (λx y h=>Aq)
def Em.eZ:Em iU:=.agg .eZ
@[simp] theorem MI{r:iU}:Em.eZ.aA r=.agg [.int .i64 r.lo,.int .i64 r.hi,fN.aA r.aX]:=rfl
abbrev nO:Em (List iU):=Em.eZ.list 3
def bO.stop:bO bW:=((bO.one .text).pair ((bO.one i64).pair ((bO.one i64).pair (.one nO)))).mK (λr=>(r.name,r.num,r.den,r.aU)) (λx y h=>Aq)
def Em.stop:Em bW:=.agg .stop
@[simp] theorem pV{r:bW}:Em.stop.aA r=.agg [.str r.name,.int .i64 r.num,.int .i64 r.den,nO.aA r.aU]:=rfl
abbrev mX:Em (List bW):=Em.stop.list 4
def bO.div:bO bD:=((bO.one .text).pair ((bO.one .bool).pair ((bO.one i64).pair ((bO.one i64).pair (.one mX))))).mK (λr=>(r.name,r.eE,r.low,r.high,r.stops)) (λx y h=>Aq)
def Em.div:Em bD:=.agg .div
@[simp] theorem lX{r:bD}:Em.div.aA r=.agg [.str r.name,.bool r.eE,.int .i64 r.low,.int .i64 r.high,mX.aA r.stops]:=rfl
abbrev pX:Em (List bD):=Em.div.list 5
def bO.aK:bO bP:=((bO.one .text).pair ((bO.one i64).pair ((bO.one i64).pair ((bO.one i64).pair (.one .bool))))).mK (λr=>(r.name,r.dR,r.dst,r.shift,r.o9)) (λx y h=>Aq)
def Em.aK:Em bP:=.agg .aK
@[simp] theorem DG{r:bP}:Em.aK.aA r=.agg [.str r.name,.int .i64 r.dR,.int .i64 r.dst,.int .i64 r.shift,.bool r.o9]:=rfl
abbrev oC:Em (List bP):=Em.aK.list 5
def bO.bM:bO aP:=((bO.one .text).pair ((bO.one aM).pair ((bO.one pX).pair (.one oC)))).mK (λr=>(r.name,r.aM,r.aD,r.aO)) (λx y h=>Aq)
def Em.bM:Em aP:=.agg .bM
@[simp] theorem gF{r:aP}:Em.bM.aA r=.agg [.str r.name,aM.aA r.aM,pX.aA r.aD,oC.aA r.aO]:=rfl
def I0(l:List Int):Prop:=l.length<=1000000
def zA(l:List dT):Prop:=l.length<=1000000
def FY(l:List bP):Prop:=l.length<=1000000
def fX(r:bB):Prop:=I0 r.kX
def FZ(l:List bB):Prop:=l.length<=1000000/\∀r∈l,fX r
def vO(g:iU):Prop:=zA g.aX
def MJ(l:List iU):Prop:=l.length<=1000000/\∀r∈l,vO r
def iV(s:bW):Prop:=MJ s.aU
def MK(l:List bW):Prop:=l.length<=1000000/\∀r∈l,iV r
def fY(d:bD):Prop:=MK d.stops
def F0(l:List bD):Prop:=l.length<=1000000/\∀r∈l,fY r
def gG(o:aP):Prop:=FZ o.aM/\F0 o.aD/\FY o.aO
def eU{α:Type}[DecidableEq α](a:Em α)(R:α->Prop):Nat->List PD->List aB->Option (PD×List aB):=entry (dZ a a .bool λx y=>dP (R x/\R y) (some (decide (x=y))))
theorem pA{α:Type}[DecidableEq α]{a:Em α}{R:α->Prop}{p q:PD}{x y:α}(hx:R x)(hy:R y)(hp:p.strip=a.aA x)(hq:q.strip=a.aA y)(fl:Nat)(σ:List aB):eU a R fl [p,q] σ=some (.bool (decide (x=y)),σ):=by
 have e1:=Em.cM hp;have e2:=Em.cM hq;unfold eU entry dZ;simp only[e1,e2];rw[eV ⟨hx,hy⟩];rfl
theorem mM{α:Type}[DecidableEq α]{a:Em α}{R:α->Prop}{x y:α}(hx:R x)(hy:R y)(fl:Nat)(σ:List aB):eU a R fl [a.aA x,a.aA y] σ=some (.bool (decide (x=y)),σ):=pA hx hy (a.str x) (a.str y) fl σ
def RL{α:Type}[DecidableEq α](a:Em α)(R:α->Prop)(f:FuncId):List PD->Option PD:=λargs=>match args with
 | [p,q,.func g []]=>if g=f then dZ a a .bool (λx y=>dP (R x/\R y) (some (decide (x=y)))) [p,q]else none
 |_=>none
def s4{α:Type}[DecidableEq α](a:Em α)(R:α->Prop)(f:FuncId):Nat->List PD->List aB->Option (PD×List aB):=entry (RL a R f)
@[simp] theorem pY{α:Type}[DecidableEq α]{a:Em α}{R:α->Prop}{f:FuncId}{fl:Nat}{p q:PD}{σ:Gb}:s4 a R f fl [p,q,.func f []] σ=eU a R fl [p,q] σ:=by
  unfold s4 eU entry RL;simp only[yAL]
theorem aF.s5{P:Program}{E:aE}(hE:aF P E)(hP:P.follows .mixedOrders=true){α:Type}[DecidableEq α]{a:Em α}{R:α->Prop}{f:FuncId}(h:∀x y,R x->R y->aJ P E f [a.aA x,a.aA y] (Em.bool.aA (decide (x=y)))):aF P (E.add f (eU a R)):=
 hE.qW hP λx y z hz=>by
  obtain⟨⟨hx,hy⟩,e⟩:=fG hz;cases e;exact h x y hx hy
theorem aF.ML{P:Program}{E:aE}(hE:aF P E)(hP:P.follows .mixedOrders=true){α:Type}[DecidableEq α]{a:Em α}{R:α->Prop}{f g:FuncId}(h:∀x y,R x->R y->aJ P E f [a.aA x,a.aA y,.func g []] (Em.bool.aA (decide (x=y)))):aF P (E.add f (s4 a R g)):=by
 refine hE.zE hP λargs p hg=>?_
 unfold RL at hg;split at hg
 rotate_left
 .cases hg
 rename_i p1 q1 g1;split at hg
 rotate_left
 .cases hg
 rename_i e;subst e;simp only[dZ]at hg;split at hg
 rotate_left
 .cases hg
 rename_i x y hx hy;split at hg
 rotate_left
 .cases hg
 rename_i z hz;simp only[yAb]at hg;subst hg;obtain⟨⟨rx,ry⟩,e⟩:=fG hz;cases e;have e1:=Em.mY hx;have e2:=Em.mY hy;obtain⟨p2,σ2,h1,h2⟩:=h x y rx ry;exact⟨p2,σ2,by simpa [e1,e2,PD.strip]using h1,h2,by simp[e1,e2,PD.strip,PD.fH,PD.bQ,a.dX],rfl⟩
theorem rW{α:Type}[DecidableEq α](a b:α)(x y:List α):decide (a::x=b::y)=(decide (a=b)&&decide (x=y)):=by
 by_cases h:a=b<;>by_cases k:x=y<;>simp[h,k]
theorem rX{α:Type}[DecidableEq α]{x y:List α}(h:¬x.length=y.length):decide (x=y)=false:=by
 simp only[decide_eq_false_iff_not];exact λe=>h Da
section
structure mW where
 jJ:Int
 cV:Int
 first:Int
 y9:Int
 w0:Int
 w1:Int
 w2:Int
 w3:Int
 w4:Int
structure o8 where
 aG:Int
 cV:Int
 kind:Int
 at_:Int
structure qV where
 low:Int
 keys:Int
 eE:Bool
 stops:List o8
structure rV where
 dR:Int
 dst:Int
 shift:Int
 o9:Bool
structure oT where
 aM:List mW
 aD:List qV
 aO:List rV
structure aAs where
 kind:Int
 at_:Int
abbrev jK:Em Int:=Em.int .u8
abbrev i8e:Em Int:=Em.int .i8
def Em.xF:Em mW:=.agg (((bO.one jK).pair ((bO.one jK).pair ((bO.one i8e).pair ((bO.one jK).pair ((bO.one jK).pair ((bO.one jK).pair ((bO.one jK).pair ((bO.one jK).pair (.one jK))))))))).mK (λr=>(r.jJ,r.cV,r.first,r.y9,r.w0,r.w1,r.w2,r.w3,r.w4)) (λx y h=>Aq))
@[simp] theorem aAt{r:mW}:Em.xF.aA r=.agg [.int .u8 r.jJ,.int .u8 r.cV,.int .i8 r.first,.int .u8 r.y9,.int .u8 r.w0,.int .u8 r.w1,.int .u8 r.w2,.int .u8 r.w3,.int .u8 r.w4]:=rfl
abbrev IX:Em (List mW):=Em.xF.list 9
def Em.pull:Em o8:=.agg (((bO.one jK).pair ((bO.one jK).pair ((bO.one jK).pair (.one jK)))).mK (λr=>(r.aG,r.cV,r.kind,r.at_)) (λx y h=>Aq))
@[simp] theorem aAu{r:o8}:Em.pull.aA r=.agg [.int .u8 r.aG,.int .u8 r.cV,.int .u8 r.kind,.int .u8 r.at_]:=rfl
abbrev aAv:Em (List o8):=Em.pull.list 4
def Em.DE:Em qV:=.agg (((bO.one jK).pair ((bO.one jK).pair ((bO.one .bool).pair (.one aAv)))).mK (λr=>(r.low,r.keys,r.eE,r.stops)) (λx y h=>Aq))
@[simp] theorem aTE{r:qV}:Em.DE.aA r=.agg [.int .u8 r.low,.int .u8 r.keys,.bool r.eE,aAv.aA r.stops]:=rfl
abbrev IY:Em (List qV):=Em.DE.list 4
def Em.link:Em rV:=.agg (((bO.one jK).pair ((bO.one jK).pair ((bO.one i8e).pair (.one .bool)))).mK (λr=>(r.dR,r.dst,r.shift,r.o9)) (λx y h=>Aq))
@[simp] theorem aTF{r:rV}:Em.link.aA r=.agg [.int .u8 r.dR,.int .u8 r.dst,.int .i8 r.shift,.bool r.o9]:=rfl
abbrev IZ:Em (List rV):=Em.link.list 4
def Em.dV:Em oT:=.agg (((bO.one IX).pair ((bO.one IY).pair (.one IZ))).mK (λr=>(r.aM,r.aD,r.aO)) (λx y h=>Aq))
@[simp] theorem vN{r:oT}:Em.dV.aA r=.agg [IX.aA r.aM,IY.aA r.aD,IZ.aA r.aO]:=rfl
def Em.aHg:Em aAs:=.agg (((bO.one jK).pair (.one jK)).mK (λr=>(r.kind,r.at_)) (λx y h=>Aq))
@[simp] theorem aTG{r:aAs}:Em.aHg.aA r=.agg [.int .u8 r.kind,.int .u8 r.at_]:=rfl
def gE(n:Int):Prop:=0<=n/\n<=255
def aAw(n:Int):Prop:=-128<=n/\n<=127
def BA(r:mW):Prop:=gE r.jJ/\gE r.cV/\aAw r.first/\gE r.y9/\gE r.w0/\gE r.w1/\gE r.w2/\gE r.w3/\gE r.w4
def DD(r:o8):Prop:=gE r.aG/\gE r.cV/\gE r.kind/\gE r.at_
def okB(r:qV):Prop:=gE r.low/\gE r.keys/\∀s∈r.stops,DD s
def RI(r:rV):Prop:=gE r.dR/\gE r.dst/\aAw r.shift
def xD(p:oT):Prop:=(∀r∈p.aM,BA r)/\(∀b∈p.aD,okB b)/\∀l∈p.aO,RI l
def mL(p:oT):Bool:=decide (1<=p.aM.length)&&decide (p.aM.length<=3)&&decide (1<=p.aD.length)&&decide (p.aD.length<=3)&&decide (p.aO.length<=3)&&p.aD.all λb=>decide (b.stops.length<=3)
variable{E:aE}(hU:aH E)
include hU
theorem aHh(h0:E 11=none)(p:oT):aJ prog E 11 [Em.dV.aA p] (Em.bool.aA (mL p)):=by
 obtain⟨R,D,C⟩:=p;simp only[vN,aW];refine aJ.aN 47 h0 func11 (h:=?_)
 by_cases c1:(R.length:Int)<1
 .have z:¬1<=R.length:=by omega
  refine aC c1 ?_;exact fj
 have z1:1<=R.length:=Ah
 by_cases c2:3<(R.length:Int)
 .have z:¬R.length<=3:=by omega
  refine aC (A2 c1 c2) ?_;exact fj
 have z2:R.length<=3:=Ah
 by_cases c3:(D.length:Int)<1
 .have z:¬1<=D.length:=by omega
  refine aC (A3 c1 c2 c3) ?_;exact fj
 have z3:1<=D.length:=Ah
 by_cases c4:3<(D.length:Int)
 .have z:¬D.length<=3:=by omega
  refine aC (A4 c1 c2 c3 c4) ?_;exact fj
 have z4:D.length<=3:=Ah
 by_cases c5:3<(C.length:Int)
 .have z:¬C.length<=3:=by omega
  refine aC (A5 c1 c2 c3 c4 c5) ?_;exact fj
 have z5:C.length<=3:=Ah;obtain⟨B,hB⟩:=gn (mL ⟨R,D,C⟩);have RJ:(D.all λb=>decide (b.stops.length<=3))=B:=by rw[<-hB];simp[mL,z1,z2,z3,z4,z5]
 rw[hB];refine aC (A5 c1 c2 c3 c4 c5) ?_;refine Wp.cZ (λm fr σ=>∃(i:Nat),∃gg:Nat->PD,(i+m=D.length/\((D.drop i).all λb=>decide (b.stops.length<=3))=B)/\fr=[gg 0,.ptr 0 0,.bool false,.int .i64 i,gg 4,gg 5,gg 6,gg 7,gg 8,gg 9,gg 10,gg 11,gg 12,gg 13,gg 14,gg 15,gg 16,gg 17,gg 18,gg 19,gg 20,gg 21,gg 22,gg 23,gg 24,gg 25,gg 26,gg 27,gg 28,gg 29,gg 30,gg 31,gg 32,gg 33,gg 34,gg 35,gg 36,gg 37,gg 38,gg 39,gg 40,gg 41,gg 42,gg 43,gg 44,gg 45,gg 46]/\σ=[.box (.agg [.slice (sz 9 R) (R.map Em.xF.aA) .any,.slice (sz 4 D) (D.map Em.DE.aA) .any,.slice (sz 4 C) (C.map Em.link.aA) .any])]) ?_ (D.length) (by refine⟨0,?_⟩;exact cF (⟨Ah,RJ⟩))
 rintro m fr σ ⟨i,gg,hI,rfl,rfl⟩
 obtain⟨hm,hs⟩:=hI
 by_cases hi:i<D.length
 .have q1:(i:Int)<(D.length:Int):=by omega
  obtain⟨b,hb⟩:=gn (D[i]);have dY:D.drop i=b::D.drop (i+1):=by rw[yAq hi,hb]
  rw[dY,yCv]at hs;obtain⟨b0,b1,b2,b3⟩:=b
  by_cases hl:3<(b3.length:Int)
  .have hz:¬b3.length<=3:=by omega
   simp only[hz,decide_false,yBa]at hs;have bY:B=false:=hs.symm;refine aC (A4 q1 hi @hb hl) ?_;exact aq
  .have hz:b3.length<=3:=by omega
   simp only[hz,decide_true,yBt]at hs;refine aC (A4 q1 hi @hb hl) ?_;exact bl
 .have q1:¬(i:Int)<(D.length:Int):=by omega
  rw[yAs Ah]at hs;have bY:B=true:=hs.symm;exact wu
end
end Go.Kz
namespace Go.Kz
instance:Inhabited mW:=⟨⟨0,0,0,0,0,0,0,0,0⟩⟩
instance:Inhabited o8:=⟨⟨0,0,0,0⟩⟩
instance:Inhabited qV:=⟨⟨0,0,false,[]⟩⟩
instance:Inhabited rV:=⟨⟨0,0,0,false⟩⟩
instance:Inhabited bB:=⟨⟨[],[],0,0,0,[]⟩⟩
def CR:List (Int×Int):=[(8,1),(4,1),(16,1),(8,3),(2,1),(8,5)]
def qP:List (Int×Int):=[(8,1),(4,1),(16,1),(2,1),(8,3),(8,5),(4,3),(1,1),(32,1),(16,3),(16,5),(32,3),(8,7),(2,3),(1,2),(64,1)]
def mS(n:Int):Int×Int:=CR.getD (n%6).toNat (8,1)
def oH(n:Int):Int×Int:=qP.getD (n%16).toNat (8,1)
def FB:List (List UInt8):=[[79,112,101,110],[70,108,117,116,101],[82,101,101,100]]
def AR(n:Int):List UInt8:=FB.getD (n%3).toNat []
def XW:List ((Int×Int)×(Int×Int)×Int):=[((8,1),(8,1),0),((8,1),(4,1),-12),((8,1),(16,1),12),((8,1),(2,1),-24),((8,1),(8,3),-19),((8,1),(8,5),-28),((8,1),(4,3),-31),((8,1),(1,1),-36),((8,1),(32,1),24),((8,1),(16,3),-7),((8,1),(16,5),-16),((8,1),(32,3),5),((8,1),(8,7),-34),((8,1),(2,3),-43),((8,1),(1,2),-48),((8,1),(64,1),36),((4,1),(8,1),12),((4,1),(4,1),0),((4,1),(16,1),24),((4,1),(2,1),-12),((4,1),(8,3),-7),((4,1),(8,5),-16),((4,1),(4,3),-19),((4,1),(1,1),-24),((4,1),(32,1),36),((4,1),(16,3),5),((4,1),(16,5),-4),((4,1),(32,3),17),((4,1),(8,7),-22),((4,1),(2,3),-31),((4,1),(1,2),-36),((4,1),(64,1),48),((16,1),(8,1),-12),((16,1),(4,1),-24),((16,1),(16,1),0),((16,1),(2,1),-36),((16,1),(8,3),-31),((16,1),(8,5),-40),((16,1),(4,3),-43),((16,1),(1,1),-48),((16,1),(32,1),12),((16,1),(16,3),-19),((16,1),(16,5),-28),((16,1),(32,3),-7),((16,1),(8,7),-46),((16,1),(2,3),-55),((16,1),(1,2),-60),((16,1),(64,1),24),((8,3),(8,1),19),((8,3),(4,1),7),((8,3),(16,1),31),((8,3),(2,1),-5),((8,3),(8,3),0),((8,3),(8,5),-9),((8,3),(4,3),-12),((8,3),(1,1),-17),((8,3),(32,1),43),((8,3),(16,3),12),((8,3),(16,5),3),((8,3),(32,3),24),((8,3),(8,7),-15),((8,3),(2,3),-24),((8,3),(1,2),-29),((8,3),(64,1),55),((2,1),(8,1),24),((2,1),(4,1),12),((2,1),(16,1),36),((2,1),(2,1),0),((2,1),(8,3),5),((2,1),(8,5),-4),((2,1),(4,3),-7),((2,1),(1,1),-12),((2,1),(32,1),48),((2,1),(16,3),17),((2,1),(16,5),8),((2,1),(32,3),29),((2,1),(8,7),-10),((2,1),(2,3),-19),((2,1),(1,2),-24),((2,1),(64,1),60),((8,5),(8,1),28),((8,5),(4,1),16),((8,5),(16,1),40),((8,5),(2,1),4),((8,5),(8,3),9),((8,5),(8,5),0),((8,5),(4,3),-3),((8,5),(1,1),-8),((8,5),(32,1),52),((8,5),(16,3),21),((8,5),(16,5),12),((8,5),(32,3),33),((8,5),(8,7),-6),((8,5),(2,3),-15),((8,5),(1,2),-20),((8,5),(64,1),64)]
def vE(f o:Int×Int):Int:=((XW.find? λt=>decide (t.1=f)&&decide (t.2.1=o)).map (·.2.2)).getD 0
def wU(x:mW)(k:Nat):Int:=[x.w0,x.w1,x.w2,x.w3,x.w4].getD (k%5) 0
def wV(x:mW)(n:Nat):List Int:=(List.range n).map (wU x)
def digit(i:Nat):UInt8:=UInt8.ofNat (48+i)
def sU(x:mW)(i:Nat):bB:=⟨[82,digit (i%10)],AR x.jJ,(oH x.cV).1,(oH x.cV).2,x.first,wV x (1+(x.y9%25).toNat)⟩
def gL(l:List mW)(n:Nat):List bB:=(List.range n).map λi=>sU (l.getD i default) i
def rO(k n sh lo hi at_ m other:Int):List iU:=
 if k=2 then [⟨lo,hi,[⟨n,sh⟩,⟨n,sh+7⟩]⟩]
 else if k=3\/k=4 then(if lo<at_ then [⟨lo,at_-1,[⟨n,sh⟩]⟩]else [])++[⟨at_,hi,if k=3 then [⟨m,other⟩]else [⟨n,sh-12⟩]⟩]
 else if k=5 then [⟨at_,hi,[⟨n,sh⟩]⟩]
 else [⟨lo,hi,[⟨n,sh⟩]⟩]
def CS(rs:List bB)(n:Nat):Int×Int:=((rs.getD n default).num,(rs.getD n default).den)
def tX(rs:List bB)(lo hi:Int)(x:o8)(i:Nat):bW:=
 ⟨[83,digit i],(mS x.cV).1,(mS x.cV).2,rO (x.kind%6) (x.aG%rs.length) (vE (mS x.cV) (CS rs (x.aG%rs.length).toNat)) lo hi (lo+x.at_%(hi-lo+1))
   ((x.aG%rs.length+1)%rs.length) (vE (mS x.cV) (CS rs ((x.aG%rs.length+1)%rs.length).toNat))⟩
def tV(rs:List bB)(lo hi:Int)(l:List o8)(n:Nat):List bW:=(List.range n).map λi=>tX rs lo hi (l.getD i default) i
def x9(rs:List bB)(b:qV)(i:Nat):bD:=⟨[68,digit i],b.eE,36+b.low%12,36+b.low%12+b.keys%9,tV rs (36+b.low%12) (36+b.low%12+b.keys%9) b.stops b.stops.length⟩
def j7(rs:List bB)(l:List qV)(n:Nat):List bD:=(List.range n).map λi=>x9 rs (l.getD i default) i
def HW(n:Nat)(c:rV)(i:Nat):bP:=
 ⟨[67,digit i],c.dR%n,c.dst%n,if c.dR%n=c.dst%n/\c.shift.tmod 25=0 then 12 else c.shift.tmod 25,c.o9⟩
def lU(n:Nat)(l:List rV)(k:Nat):List bP:=(List.range k).map λi=>HW n (l.getD i default) i
def fE(p:oT):aP:=⟨[79,114,103,97,110],gL p.aM p.aM.length,j7 (gL p.aM p.aM.length) p.aD p.aD.length,lU p.aD.length p.aO p.aO.length⟩
end Go.Kz
namespace Go.Kz
open Go Go.Proofs
section
def Em.cV:Em (Int×Int):=.agg (((bO.one i64).pair (.one i64)).mK (λr=>(r.1,r.2)) (λx y h=>Aq))
@[simp] theorem aWj{r:Int×Int}:Em.cV.aA r=.agg [.int .i64 r.1,.int .i64 r.2]:=rfl
variable{E:aE}(hU:aH E)
include hU
theorem aLZ(h0:E 68=none)(n:Int)(hn:gE n):aJ prog E 68 [.int .u8 n] (Em.cV.aA (mS n)):=by
 obtain⟨k,rfl⟩:∃k:Nat,n=k:=⟨n.toNat,by have:=hn.1;omega⟩;have hm:(k:Int).tmod 6=((k%6:Nat):Int):=rfl;refine aJ.aN 14 h0 func68 (h:=?_);have hlt:k%6<6:=yBs _ Al;have hs:mS k=CR.getD (k%6) (8,1):=by
  unfold mS
  congr 1
 rw[hs];clear hs;obtain⟨j,hj⟩:=gn (k%6);rw[hj]at hm hlt ⊢
 match j,hlt with
 |0,_=>
  exact bt
 |1,_=>
  exact bt
 |2,_=>
  exact bt
 |3,_=>
  exact bt
 |4,_=>
  exact bt
 |5,_=>
  exact bt
 |j+6,h=>exact absurd h Ah
theorem aLX(h0:E 67=none)(n:Int)(hn:gE n):aJ prog E 67 [.int .u8 n] (Em.cV.aA (oH n)):=by
 obtain⟨k,rfl⟩:∃k:Nat,n=k:=⟨n.toNat,by have:=hn.1;omega⟩;have hm:(k:Int).tmod 16=((k%16:Nat):Int):=rfl;refine aJ.aN 24 h0 func67 (h:=?_);have hlt:k%16<16:=yBs _ Al;have hs:oH k=qP.getD (k%16) (8,1):=by
  unfold oH
  congr 1
 rw[hs];clear hs;obtain⟨j,hj⟩:=gn (k%16);rw[hj]at hm hlt ⊢
 match j,hlt with
 |0,_=>
  exact bt
 |1,_=>
  exact bt
 |2,_=>
  exact bt
 |3,_=>
  exact bt
 |4,_=>
  exact bt
 |5,_=>
  exact bt
 |6,_=>
  exact bt
 |7,_=>
  exact bt
 |8,_=>
  exact bt
 |9,_=>
  exact bt
 |10,_=>
  exact bt
 |11,_=>
  exact bt
 |12,_=>
  exact bt
 |13,_=>
  exact bt
 |14,_=>
  exact bt
 |15,_=>
  exact bt
 |j+16,h=>exact absurd h Ah
end
section
def uD(n:Int):Bool:=(decide (65<=n)&&decide (n<=90))||(decide (97<=n)&&decide (n<=122))
def vJ(c:UInt8):Bool:=uD c.toNat||(decide (48<=(c.toNat:Int))&&decide ((c.toNat:Int)<=57))||decide (c.toNat=95)
def eL:List UInt8->Bool
 | []=>false
 |c::r=>decide ((c::r).length<=32)&&uD c.toNat&&r.all vJ
def mE(lo hi:Int):Int:=if lo<0\/127<hi then 3 else if hi<lo then 23 else 0
def OM:Nat->List PD->List aB->Option (PD×List aB):=entry (bZ (Em.int .u8) Em.bool λn=>some (uD n))
theorem FG(n:Int)(fl:Nat)(σ:List aB):OM fl [.int .u8 n] σ=some (.bool (uD n),σ):=by
 have e:(Em.int .u8).dec (.int .u8 n)=some n:=Em.cM rfl;unfold OM entry bZ;simp only[e];rfl
variable{E:aE}(hU:aH E)
include hU
theorem aKK(h0:E 92=none)(n:Int):aJ prog E 92 [.int .u8 n] (Em.bool.aA (uD n)):=by
 refine aJ.aN 17 h0 func92 (h:=?_)
 by_cases a:65<=n
 .by_cases b:n<=90
  .refine aC (A2 @a @b) ?_;simp(disch:=first|omega|(simp;done)|(simp;omega)) [yAu,uD,a,b]<;>try rfl
  .by_cases c:97<=n
   .exact ou
   .exact ou
 .by_cases c:97<=n
  .exact ql
  .exact ql
theorem aKO(h0:E 96=none)(lo hi:Int):aJ prog E 96 [.agg [.int .i64 lo,.int .i64 hi]] (.int .i64 (mE lo hi)):=by
 refine aJ.aN 18 h0 func96 (h:=?_)
 by_cases a:lo<0
 .refine aC @a ?_;simp(disch:=first|omega|(simp;done)|(simp;omega)) [yAu,mE,a]<;>try rfl
 by_cases b:127<hi
 .refine aC (A2 @a @b) ?_;simp(disch:=first|omega|(simp;done)|(simp;omega)) [yAu,mE,a,b]<;>try rfl
 by_cases c:hi<lo
 .exact qh
 .exact qh
theorem aK6(h0:E 94=none)(n:Int):aJ prog E 94 [.int .i64 n] (Em.bool.aA (decide (-256<=n)&&decide (n<=256))):=by
 refine aJ.aN 9 h0 func94 (h:=?_)
 by_cases a:-256<=n
 .by_cases b:n<=256
  .exact qq
  .exact qq
 .refine aC @a ?_;simp(disch:=first|omega|(simp;done)|(simp;omega)) [yAu,a]<;>try rfl
theorem aKM(h0:E 60=none)(h1:E 92=some OM)(s:List UInt8)(hs:s.length<=100000):aJ prog E 60 [.str s] (Em.bool.aA (eL s)):=by
 by_cases hs0:s=[]
 .subst hs0;refine aJ.aN 42 h0 func60 (h:=?_);refine aC trivial ?_;simp(disch:=first|omega|(simp;done)|(simp;omega)) [yAu,eL]<;>try rfl
 obtain⟨c,r,hcr⟩:∃c r,s=c::r:=by cases s with|nil=>exact absurd rfl hs0|cons c r=>exact⟨c,r,rfl⟩
 have hs1:s.isEmpty=false:=by rw[hcr];rfl
 have hx0:s[0]?=some c:=by rw[hcr];rfl
 obtain⟨gC,hx1⟩:=yA.1 hx0;refine aJ.aN 42 h0 func60 (h:=?_)
 by_cases a:32<(s.length:Int)
 .have hB:eL s=false:=by rw[hcr];simp[eL,show ¬r.length+1<=32 by rw[hcr]at a;simp at a;omega]
  rw[hB];refine aC (A3 hs0 hs1 @a) ?_;exact ag
 .cases hc:uD c.toNat with
  |false=>
   have hB:eL s=false:=by rw[hcr];simp[eL,hc]
   rw[hB];refine aC (A9 h1 hs0 hs1 @a hx0 hx1 gC @FG hc) ?_;exact ag
  |true=>
   have hB:eL s=(s.drop 1).all vJ:=by rw[hcr];simp only[eL,hc];simp[show r.length+1<=32 by rw[hcr]at a;simp at a;omega]
   rw[hB];clear hB;obtain⟨B,hB⟩:=gn ((s.drop 1).all vJ);rw[hB];refine aC (A9 h1 hs0 hs1 @a hx0 hx1 gC @FG hc) ?_;refine Wp.cZ (λm fr σ=>∃(k:Nat),∃gg:Nat->PD,(k+m=s.length/\1<=k/\(s.drop k).all vJ=B)/\fr=[.str s,gg 1,gg 2,.int .i64 k,gg 4,gg 5,gg 6,gg 7,gg 8,gg 9,gg 10,gg 11,gg 12,gg 13,gg 14,gg 15,gg 16,gg 17,gg 18,gg 19,gg 20,gg 21,gg 22,gg 23,gg 24,gg 25,gg 26,gg 27,gg 28,gg 29,gg 30,gg 31,gg 32,gg 33,gg 34,gg 35,gg 36,gg 37,gg 38,gg 39,gg 40,gg 41]/\σ=[]) ?_ (s.length-1) (by refine⟨1,?_⟩;exact cF (⟨Ah,Ah,hB⟩))
   rintro m fr σ ⟨k,gg,hI,rfl,rfl⟩
   obtain⟨hm,hk1,hkB⟩:=hI
   by_cases hk:k<s.length
   .have q1:(k:Int)<(s.length:Int):=by omega
    obtain⟨v,hv⟩:=gn (s[k]);have D7:s[k]?=some v:=by rw[yAh hk,hv]
    have hd:s.drop k=v::s.drop (k+1):=by rw[yAq hk,hv]
    have hw:IntKind.i64.wrap ((k:Int)+1)=((k+1:Nat):Int):=Am;rw[hd,yCv]at hkB;cases hl:uD v.toNat with
    |true=>
     have hn:vJ v=true:=by unfold vJ;rw[hl];rfl
     rw[hn,yBt]at hkB;refine aC (A8 h1 q1 @hk hv D7 @FG hl @hw) ?_;exact ir
    |false=>
     have l95:uD 95=false:=Al;have nC:vJ v=((decide (48<=(v.toNat:Int))&&decide ((v.toNat:Int)<=57))||decide (v.toNat=95)):=by unfold vJ;rw[hl];rfl
     by_cases b1:(v.toNat:Int)<48
     .have hn:vJ v=false:=by rw[nC];simp;omega
      rw[hn,yBa]at hkB;subst hkB;have b3:¬(v.toNat:Int)=95:=Ah;refine aC (A10 h1 q1 @hk hv D7 @FG hl @hw b1 b3) ?_;exact ag
     .by_cases b2:57<(v.toNat:Int)
      .by_cases b3:(v.toNat:Int)=95
       .have hn:vJ v=true:=by rw[nC];simp;omega
        rw[hn,yBt]at hkB;refine aC (A12 h1 q1 @hk hv D7 @FG hl @hw b1 b2 b3 l95) ?_;exact ir
       .have hn:vJ v=false:=by rw[nC];simp;omega
        rw[hn,yBa]at hkB;subst hkB;refine aC (A11 h1 q1 @hk hv D7 @FG hl @hw b1 b2 b3) ?_;exact ag
      .have hn:vJ v=true:=by rw[nC];simp;omega
       rw[hn,yBt]at hkB;refine aC (A10 h1 q1 @hk hv D7 @FG hl @hw b1 b2) ?_;exact ir
   .have q1:¬(k:Int)<(s.length:Int):=by omega
    obtain rfl:k=s.length:=Ah;rw[yCl]at hkB;subst hkB;refine aC q1 ?_;exact ag
end
section
variable{E:aE}(hU:aH E)
include hU
theorem aKm(h0:E 70=none)(l r:List Int)(hl:l.length<=1000000)(hr:r.length<=1000000):aJ prog E 70 [(fM).aA l,(fM).aA r] (Em.bool.aA (decide (l=r))):=by
 refine aJ.aN 26 h0 func70 (h:=?_)
 by_cases hq:l.length=r.length
 .have cX:(l.length:Int)=(r.length:Int):=by omega
  obtain⟨B,hB⟩:∃B,decide (l=r)=B:=⟨_,rfl⟩;rw[hB];refine aC zk ?_;refine Wp.cZ (λm fr σ=>∃(i:Nat),∃gg:Nat->PD,(i+m=l.length/\decide (l.drop i=r.drop i)=B)/\fr=[(fM).aA l,(fM).aA r,gg 2,gg 3,.bool false,gg 5,gg 6,gg 7,gg 8,gg 9,gg 10,(fM).aA l,.int .i64 l.length,.int .i64 i,gg 14,gg 15,gg 16,gg 17,gg 18,gg 19,gg 20,gg 21,gg 22,gg 23,gg 24,gg 25]/\σ=[]) ?_ (l.length) (by refine⟨0,?_⟩;exact j6 (⟨Ah,hB⟩) Ak Ak)
  rintro m fr σ ⟨i,gg,hI,rfl,rfl⟩
  obtain⟨hm,hs⟩:=hI
  by_cases hi:i<l.length
  .have q1:(i:Int)<(l.length:Int):=by omega
   have hir:i<r.length:=Ah;have q2:(i:Int)<(r.length:Int):=Ah;obtain⟨a,ha⟩:=gn (l[i]);obtain⟨b,hb⟩:=gn (r[i]);have dY:l.drop i=a::l.drop (i+1):=At;have hc2:r.drop i=b::r.drop (i+1):=Bm;exact xo
  .have q1:¬(i:Int)<(l.length:Int):=by omega
   exact wm
 .exact bh
theorem aKo(h0:E 108=none)(l r:List dT)(hl:l.length<=1000000)(hr:r.length<=1000000):aJ prog E 108 [(fN).aA l,(fN).aA r] (Em.bool.aA (decide (l=r))):=by
 refine aJ.aN 26 h0 func108 (h:=?_)
 by_cases hq:l.length=r.length
 .have cX:(l.length:Int)=(r.length:Int):=by omega
  obtain⟨B,hB⟩:∃B,decide (l=r)=B:=⟨_,rfl⟩;rw[hB];refine aC zk ?_;refine Wp.cZ (λm fr σ=>∃(i:Nat),∃gg:Nat->PD,(i+m=l.length/\decide (l.drop i=r.drop i)=B)/\fr=[(fN).aA l,(fN).aA r,gg 2,gg 3,.bool false,gg 5,gg 6,gg 7,gg 8,gg 9,gg 10,(fN).aA l,.int .i64 l.length,.int .i64 i,gg 14,gg 15,gg 16,gg 17,gg 18,gg 19,gg 20,gg 21,gg 22,gg 23,gg 24,gg 25]/\σ=[]) ?_ (l.length) (by refine⟨0,?_⟩;exact j6 (⟨Ah,hB⟩) Ak Ak);exact wg
 .exact bh
theorem aKq(h0:E 36=none)(l r:List bP)(hl:l.length<=1000000)(hr:r.length<=1000000):aJ prog E 36 [(oC).aA l,(oC).aA r] (Em.bool.aA (decide (l=r))):=by
 refine aJ.aN 26 h0 func36 (h:=?_)
 by_cases hq:l.length=r.length
 .have cX:(l.length:Int)=(r.length:Int):=by omega
  obtain⟨B,hB⟩:∃B,decide (l=r)=B:=⟨_,rfl⟩;rw[hB];refine aC zk ?_;refine Wp.cZ (λm fr σ=>∃(i:Nat),∃gg:Nat->PD,(i+m=l.length/\decide (l.drop i=r.drop i)=B)/\fr=[(oC).aA l,(oC).aA r,gg 2,gg 3,.bool false,gg 5,gg 6,gg 7,gg 8,gg 9,gg 10,(oC).aA l,.int .i64 l.length,.int .i64 i,gg 14,gg 15,gg 16,gg 17,gg 18,gg 19,gg 20,gg 21,gg 22,gg 23,gg 24,gg 25]/\σ=[]) ?_ (l.length) (by refine⟨0,?_⟩;exact j6 (⟨Ah,hB⟩) Ak Ak)
  rintro m fr σ ⟨i,gg,hI,rfl,rfl⟩
  obtain⟨hm,hs⟩:=hI
  by_cases hi:i<l.length
  .have q1:(i:Int)<(l.length:Int):=by omega
   have hir:i<r.length:=Ah;have q2:(i:Int)<(r.length:Int):=Ah;obtain⟨a,ha⟩:=gn (l[i]);obtain⟨b,hb⟩:=gn (r[i]);have dY:l.drop i=a::l.drop (i+1):=At;have hc2:r.drop i=b::r.drop (i+1):=Bm;rw[dY,hc2,rW]at hs;obtain⟨a0,a1,a2,a3,a4⟩:=a;obtain⟨b0,b1,b2,b3,b4⟩:=b
   by_cases e0:a0=b0
   rotate_left
   .rw[show decide ((⟨a0,a1,a2,a3,a4⟩:bP)=⟨b0,b1,b2,b3,b4⟩)=false by simp[e0],yBa]at hs;refine aC (A7 q1 q2 hi hir ha @hb @e0) ?_;exact cg
   by_cases e1:a1=b1
   rotate_left
   .rw[show decide ((⟨a0,a1,a2,a3,a4⟩:bP)=⟨b0,b1,b2,b3,b4⟩)=false by simp[e1],yBa]at hs;refine aC (A8 q1 q2 hi hir ha @hb @e0 e1) ?_;exact cg
   by_cases e2:a2=b2
   rotate_left
   .rw[show decide ((⟨a0,a1,a2,a3,a4⟩:bP)=⟨b0,b1,b2,b3,b4⟩)=false by simp[e2],yBa]at hs;refine aC (A9 q1 q2 hi hir ha @hb @e0 e1 e2) ?_;exact cg
   by_cases e3:a3=b3
   rotate_left
   .rw[show decide ((⟨a0,a1,a2,a3,a4⟩:bP)=⟨b0,b1,b2,b3,b4⟩)=false by simp[e3],yBa]at hs;refine aC (A10 q1 q2 hi hir ha @hb @e0 e1 e2 e3) ?_;exact cg
   by_cases e4:a4=b4
   rotate_left
   .rw[show decide ((⟨a0,a1,a2,a3,a4⟩:bP)=⟨b0,b1,b2,b3,b4⟩)=false by simp[e4],yBa]at hs;refine aC (A11 q1 q2 hi hir ha @hb @e0 e1 e2 e3 e4) ?_;exact cg
   rw[show decide ((⟨a0,a1,a2,a3,a4⟩:bP)=⟨b0,b1,b2,b3,b4⟩)=true by simp[e0,e1,e2,e3,e4],yBt]at hs;refine aC (A11 q1 q2 hi hir ha @hb @e0 e1 e2 e3 e4) ?_;exact bl
  .have q1:¬(i:Int)<(l.length:Int):=by omega
   exact wm
 .exact bh
end
section
variable{E:aE}(hU:aH E)
include hU
theorem aKu(h0:E 32=none)(h1:E 33=some (eU Em.aG fX))(l r:List bB)(hl:l.length<=1000000/\∀x∈l,fX x)(hr:r.length<=1000000/\∀x∈r,fX x) :
  aJ prog E 32 [(aM).aA l,(aM).aA r,.func 33 []] (Em.bool.aA (decide (l=r))):=by
 have hl1:=hl.1;have oE:=hr.1;refine aJ.aN 32 h0 func32 (h:=?_)
 by_cases hq:l.length=r.length
 .have cX:(l.length:Int)=(r.length:Int):=by omega
  obtain⟨B,hB⟩:∃B,decide (l=r)=B:=⟨_,rfl⟩;rw[hB];refine aC zk ?_;refine Wp.cZ (λm fr σ=>∃(i:Nat) (σ1:List aB),∃gg:Nat->PD,(i+m=l.length/\decide (l.drop i=r.drop i)=B)/\fr=[(aM).aA l,(aM).aA r,.func 33 [],gg 3,gg 4,gg 5,.bool false,gg 7,gg 8,gg 9,(aM).aA l,gg 11,gg 12,gg 13,gg 14,(aM).aA l,.int .i64 l.length,.int .i64 i,gg 18,gg 19,gg 20,gg 21,gg 22,gg 23,gg 24,gg 25,gg 26,gg 27,gg 28,gg 29,gg 30,gg 31]/\σ=σ1) ?_ (l.length) (by refine⟨0,[],?_⟩;exact j6 (⟨Ah,hB⟩) Ak Ak)
  rintro m fr σ ⟨i,σ1,gg,hI,rfl,rfl⟩
  obtain⟨hm,hs⟩:=hI
  by_cases hi:i<l.length
  .have q1:(i:Int)<(l.length:Int):=by omega
   have hir:i<r.length:=Ah;obtain⟨a,ha⟩:=gn (l[i]);obtain⟨b,hb⟩:=gn (r[i]);have dY:l.drop i=a::l.drop (i+1):=At;have hc2:r.drop i=b::r.drop (i+1):=Bm;rw[dY,hc2,rW]at hs;have j0:∀x y:aB,(σ++[x,y])[σ.length]?=some x:=λx y=>Ai
   have j1:∀x y:aB,(σ++[x,y])[σ.length+1]?=some y:=λx y=>Ai
   have q2:(i:Int)<(r.length:Int):=Ah;have hE:=λfl σ=>mM (a:=Em.aG) (hl.2 a (ha▸yAm hi)) (hr.2 b (hb▸yAm hir)) fl σ
   by_cases hab:a=b
   rotate_left
   .rw[yBd hab,yBa]at hs;rw[yBd hab]at hE;simp only[nN,aW]at hE;exact wj
   .rw[yAY hab,yBt]at hs;rw[yAY hab]at hE;simp only[nN,aW]at hE;exact cj
  .exact wo
 .exact bh
theorem aKG(h0:E 34=none)(h1:E 35=some (eU Em.div fY))(l r:List bD)(hl:l.length<=1000000/\∀x∈l,fY x)(hr:r.length<=1000000/\∀x∈r,fY x) :
  aJ prog E 34 [(pX).aA l,(pX).aA r,.func 35 []] (Em.bool.aA (decide (l=r))):=by
 have hl1:=hl.1;have oE:=hr.1;refine aJ.aN 32 h0 func34 (h:=?_)
 by_cases hq:l.length=r.length
 .have cX:(l.length:Int)=(r.length:Int):=by omega
  obtain⟨B,hB⟩:∃B,decide (l=r)=B:=⟨_,rfl⟩;rw[hB];refine aC zk ?_;refine Wp.cZ (λm fr σ=>∃(i:Nat) (σ1:List aB),∃gg:Nat->PD,(i+m=l.length/\decide (l.drop i=r.drop i)=B)/\fr=[(pX).aA l,(pX).aA r,.func 35 [],gg 3,gg 4,gg 5,.bool false,gg 7,gg 8,gg 9,(pX).aA l,gg 11,gg 12,gg 13,gg 14,(pX).aA l,.int .i64 l.length,.int .i64 i,gg 18,gg 19,gg 20,gg 21,gg 22,gg 23,gg 24,gg 25,gg 26,gg 27,gg 28,gg 29,gg 30,gg 31]/\σ=σ1) ?_ (l.length) (by refine⟨0,[],?_⟩;exact j6 (⟨Ah,hB⟩) Ak Ak)
  rintro m fr σ ⟨i,σ1,gg,hI,rfl,rfl⟩
  obtain⟨hm,hs⟩:=hI
  by_cases hi:i<l.length
  .have q1:(i:Int)<(l.length:Int):=by omega
   have hir:i<r.length:=Ah;obtain⟨a,ha⟩:=gn (l[i]);obtain⟨b,hb⟩:=gn (r[i]);have dY:l.drop i=a::l.drop (i+1):=At;have hc2:r.drop i=b::r.drop (i+1):=Bm;rw[dY,hc2,rW]at hs;have j0:∀x y:aB,(σ++[x,y])[σ.length]?=some x:=λx y=>Ai
   have j1:∀x y:aB,(σ++[x,y])[σ.length+1]?=some y:=λx y=>Ai
   have q2:(i:Int)<(r.length:Int):=Ah;have hE:=λfl σ=>mM (a:=Em.div) (hl.2 a (ha▸yAm hi)) (hr.2 b (hb▸yAm hir)) fl σ
   by_cases hab:a=b
   rotate_left
   .rw[yBd hab,yBa]at hs;rw[yBd hab]at hE;simp only[lX,aW]at hE;exact wj
   .rw[yAY hab,yBt]at hs;rw[yAY hab]at hE;simp only[lX,aW]at hE;exact cj
  .exact wo
 .exact bh
theorem aKC(h0:E 71=none)(h1:E 72=some (eU Em.stop iV))(l r:List bW)(hl:l.length<=1000000/\∀x∈l,iV x)(hr:r.length<=1000000/\∀x∈r,iV x) :
  aJ prog E 71 [(mX).aA l,(mX).aA r,.func 72 []] (Em.bool.aA (decide (l=r))):=by
 have hl1:=hl.1;have oE:=hr.1;refine aJ.aN 32 h0 func71 (h:=?_)
 by_cases hq:l.length=r.length
 .have cX:(l.length:Int)=(r.length:Int):=by omega
  obtain⟨B,hB⟩:∃B,decide (l=r)=B:=⟨_,rfl⟩;rw[hB];refine aC zk ?_;refine Wp.cZ (λm fr σ=>∃(i:Nat) (σ1:List aB),∃gg:Nat->PD,(i+m=l.length/\decide (l.drop i=r.drop i)=B)/\fr=[(mX).aA l,(mX).aA r,.func 72 [],gg 3,gg 4,gg 5,.bool false,gg 7,gg 8,gg 9,(mX).aA l,gg 11,gg 12,gg 13,gg 14,(mX).aA l,.int .i64 l.length,.int .i64 i,gg 18,gg 19,gg 20,gg 21,gg 22,gg 23,gg 24,gg 25,gg 26,gg 27,gg 28,gg 29,gg 30,gg 31]/\σ=σ1) ?_ (l.length) (by refine⟨0,[],?_⟩;exact j6 (⟨Ah,hB⟩) Ak Ak)
  rintro m fr σ ⟨i,σ1,gg,hI,rfl,rfl⟩
  obtain⟨hm,hs⟩:=hI
  by_cases hi:i<l.length
  .have q1:(i:Int)<(l.length:Int):=by omega
   have hir:i<r.length:=Ah;obtain⟨a,ha⟩:=gn (l[i]);obtain⟨b,hb⟩:=gn (r[i]);have dY:l.drop i=a::l.drop (i+1):=At;have hc2:r.drop i=b::r.drop (i+1):=Bm;rw[dY,hc2,rW]at hs;have j0:∀x y:aB,(σ++[x,y])[σ.length]?=some x:=λx y=>Ai
   have j1:∀x y:aB,(σ++[x,y])[σ.length+1]?=some y:=λx y=>Ai
   have q2:(i:Int)<(r.length:Int):=Ah;have hE:=λfl σ=>mM (a:=Em.stop) (hl.2 a (ha▸yAm hi)) (hr.2 b (hb▸yAm hir)) fl σ
   by_cases hab:a=b
   rotate_left
   .rw[yBd hab,yBa]at hs;rw[yBd hab]at hE;simp only[pV,aW]at hE;exact wj
   .rw[yAY hab,yBt]at hs;rw[yAY hab]at hE;simp only[pV,aW]at hE;exact cj
  .exact wo
 .exact bh
theorem aKy(h0:E 106=none)(h1:E 107=some (eU Em.eZ vO))(l r:List iU)(hl:l.length<=1000000/\∀x∈l,vO x)(hr:r.length<=1000000/\∀x∈r,vO x) :
  aJ prog E 106 [(nO).aA l,(nO).aA r,.func 107 []] (Em.bool.aA (decide (l=r))):=by
 have hl1:=hl.1;have oE:=hr.1;refine aJ.aN 32 h0 func106 (h:=?_)
 by_cases hq:l.length=r.length
 .have cX:(l.length:Int)=(r.length:Int):=by omega
  obtain⟨B,hB⟩:∃B,decide (l=r)=B:=⟨_,rfl⟩;rw[hB];refine aC zk ?_;refine Wp.cZ (λm fr σ=>∃(i:Nat) (σ1:List aB),∃gg:Nat->PD,(i+m=l.length/\decide (l.drop i=r.drop i)=B)/\fr=[(nO).aA l,(nO).aA r,.func 107 [],gg 3,gg 4,gg 5,.bool false,gg 7,gg 8,gg 9,(nO).aA l,gg 11,gg 12,gg 13,gg 14,(nO).aA l,.int .i64 l.length,.int .i64 i,gg 18,gg 19,gg 20,gg 21,gg 22,gg 23,gg 24,gg 25,gg 26,gg 27,gg 28,gg 29,gg 30,gg 31]/\σ=σ1) ?_ (l.length) (by refine⟨0,[],?_⟩;exact j6 (⟨Ah,hB⟩) Ak Ak)
  rintro m fr σ ⟨i,σ1,gg,hI,rfl,rfl⟩
  obtain⟨hm,hs⟩:=hI
  by_cases hi:i<l.length
  .have q1:(i:Int)<(l.length:Int):=by omega
   have hir:i<r.length:=Ah;obtain⟨a,ha⟩:=gn (l[i]);obtain⟨b,hb⟩:=gn (r[i]);have dY:l.drop i=a::l.drop (i+1):=At;have hc2:r.drop i=b::r.drop (i+1):=Bm;rw[dY,hc2,rW]at hs;have j0:∀x y:aB,(σ++[x,y])[σ.length]?=some x:=λx y=>Ai
   have j1:∀x y:aB,(σ++[x,y])[σ.length+1]?=some y:=λx y=>Ai
   have q2:(i:Int)<(r.length:Int):=Ah;have hE:=λfl σ=>mM (a:=Em.eZ) (hl.2 a (ha▸yAm hi)) (hr.2 b (hb▸yAm hir)) fl σ
   by_cases hab:a=b
   rotate_left
   .rw[yBd hab,yBa]at hs;rw[yBd hab]at hE;simp only[MI,aW]at hE;exact wj
   .rw[yAY hab,yBt]at hs;rw[yAY hab]at hE;simp only[MI,aW]at hE;exact cj
  .exact wo
 .exact bh
end
section
variable{E:aE}(hU:aH E)
include hU
theorem aKs(h0:E 33=none)(h1:E 70=some (eU fM I0))(a b:bB)(hx:fX a)(hy:fX b):aJ prog E 33 [Em.aG.aA a,Em.aG.aA b] (Em.bool.aA (decide (a=b))):=by
 obtain⟨a0,a1,a2,a3,a4,a5⟩:=a;obtain⟨b0,b1,b2,b3,b4,b5⟩:=b;simp only[nN,aW];refine aJ.aN 38 h0 func33 (h:=?_)
 by_cases e0:a0=b0
 rotate_left
 .have f0:(a0==b0)=false:=by simpa using e0
  refine aC (A3 h1 @e0 @f0) ?_;exact ud
 by_cases e1:a1=b1
 rotate_left
 .have f1:(a1==b1)=false:=by simpa using e1
  refine aC (A4 h1 @e0 e1 @f1) ?_;exact ue
 by_cases e2:a2=b2
 rotate_left
 .refine aC (A4 h1 @e0 e1 e2) ?_;exact uf
 by_cases e3:a3=b3
 rotate_left
 .refine aC (A5 h1 @e0 e1 e2 e3) ?_;exact ug
 by_cases e4:a4=b4
 rotate_left
 .refine aC (A6 h1 @e0 e1 e2 e3 e4) ?_;exact uh
 have l5:=λfl σ=>mM (a:=fM) (R:=I0) (x:=a5) (y:=b5) (hx) (hy) fl σ
 simp only[aW]at l5;obtain⟨B5,hB5⟩:∃B,decide (a5=b5)=B:=⟨_,rfl⟩;rw[hB5]at l5;refine aC (A7 h1 @e0 e1 e2 e3 e4 l5) ?_;simp(disch:=first|omega|(simp;done)|(simp;omega)) [yAu,bB.mk.injEq,e0,e1,e2,e3,e4,hB5]<;>try rfl
theorem aKw(h0:E 107=none)(h1:E 108=some (eU fN zA))(a b:iU)(hx:vO a)(hy:vO b):aJ prog E 107 [Em.eZ.aA a,Em.eZ.aA b] (Em.bool.aA (decide (a=b))):=by
 obtain⟨a0,a1,a2⟩:=a;obtain⟨b0,b1,b2⟩:=b;simp only[MI,aW];refine aJ.aN 24 h0 func107 (h:=?_)
 by_cases e0:a0=b0
 rotate_left
 .refine aC (A2 h1 @e0) ?_;simp(disch:=first|omega|(simp;done)|(simp;omega)) [yAu,iU.mk.injEq,e0]<;>try rfl
 by_cases e1:a1=b1
 rotate_left
 .refine aC (A3 h1 @e0 e1) ?_;simp(disch:=first|omega|(simp;done)|(simp;omega)) [yAu,iU.mk.injEq,e1]<;>try rfl
 have l2:=λfl σ=>mM (a:=fN) (R:=zA) (x:=a2) (y:=b2) (hx) (hy) fl σ
 simp only[aW]at l2;obtain⟨B2,bY⟩:∃B,decide (a2=b2)=B:=⟨_,rfl⟩;rw[bY]at l2;refine aC (A4 h1 @e0 e1 l2) ?_;simp(disch:=first|omega|(simp;done)|(simp;omega)) [yAu,iU.mk.injEq,e0,e1,bY]<;>try rfl
theorem aKA(h0:E 72=none)(h1:E 106=some (s4 nO MJ 107))(a b:bW)(hx:iV a)(hy:iV b):aJ prog E 72 [Em.stop.aA a,Em.stop.aA b] (Em.bool.aA (decide (a=b))):=by
 obtain⟨a0,a1,a2,a3⟩:=a;obtain⟨b0,b1,b2,b3⟩:=b;simp only[pV,aW];refine aJ.aN 24 h0 func72 (h:=?_)
 by_cases e0:a0=b0
 rotate_left
 .have f0:(a0==b0)=false:=by simpa using e0
  refine aC (A4 h1 @pY @e0 @f0) ?_;exact uj
 by_cases e1:a1=b1
 rotate_left
 .refine aC (A4 h1 @pY @e0 e1) ?_;exact uk
 by_cases e2:a2=b2
 rotate_left
 .refine aC (A5 h1 @pY @e0 e1 e2) ?_;exact um
 have l3:=λfl σ=>mM (a:=nO) (R:=MJ) (x:=a3) (y:=b3) (hx) (hy) fl σ
 simp only[aW]at l3;obtain⟨B3,C3⟩:∃B,decide (a3=b3)=B:=⟨_,rfl⟩;rw[C3]at l3;refine aC (A6 h1 @pY @e0 e1 e2 l3) ?_;simp(disch:=first|omega|(simp;done)|(simp;omega)) [yAu,bW.mk.injEq,e0,e1,e2,C3]<;>try rfl
theorem aKE(h0:E 35=none)(h1:E 71=some (s4 mX MK 72))(a b:bD)(hx:fY a)(hy:fY b):aJ prog E 35 [Em.div.aA a,Em.div.aA b] (Em.bool.aA (decide (a=b))):=by
 obtain⟨a0,a1,a2,a3,a4⟩:=a;obtain⟨b0,b1,b2,b3,b4⟩:=b;simp only[lX,aW];refine aJ.aN 31 h0 func35 (h:=?_)
 by_cases e0:a0=b0
 rotate_left
 .have f0:(a0==b0)=false:=by simpa using e0
  refine aC (A4 h1 @pY @e0 @f0) ?_;exact uo
 by_cases e1:a1=b1
 rotate_left
 .have f1:(a1==b1)=false:=by simpa using e1
  refine aC (A5 h1 @pY @e0 e1 @f1) ?_;exact uq
 by_cases e2:a2=b2
 rotate_left
 .refine aC (A5 h1 @pY @e0 e1 e2) ?_;exact ur
 by_cases e3:a3=b3
 rotate_left
 .refine aC (A6 h1 @pY @e0 e1 e2 e3) ?_;exact uu
 have l4:=λfl σ=>mM (a:=mX) (R:=MK) (x:=a4) (y:=b4) (hx) (hy) fl σ
 simp only[aW]at l4;obtain⟨B4,hB4⟩:∃B,decide (a4=b4)=B:=⟨_,rfl⟩;rw[hB4]at l4;refine aC (A7 h1 @pY @e0 e1 e2 e3 l4) ?_;simp(disch:=first|omega|(simp;done)|(simp;omega)) [yAu,bD.mk.injEq,e0,e1,e2,e3,hB4]<;>try rfl
theorem aKI(h0:E 14=none)(h1:E 32=some (s4 aM FZ 33))(h2:E 34=some (s4 pX F0 35))(h3:E 36=some (eU oC FY))(a b:aP)(hx:gG a)(hy:gG b):aJ prog E 14 [Em.bM.aA a,Em.bM.aA b] (Em.bool.aA (decide (a=b))):=by
 obtain⟨a0,a1,a2,a3⟩:=a;obtain⟨b0,b1,b2,b3⟩:=b;simp only[gF,aW];refine aJ.aN 31 h0 func14 (h:=?_)
 by_cases e0:a0=b0
 rotate_left
 .have f0:(a0==b0)=false:=by simpa using e0
  refine aC (A6 h1 h2 h3 @pY @e0 @f0) ?_;exact uv
 have l1:=λfl σ=>mM (a:=aM) (R:=FZ) (x:=a1) (y:=b1) (hx.1) (hy.1) fl σ
 simp only[aW]at l1;obtain⟨B1,II⟩:∃B,decide (a1=b1)=B:=⟨_,rfl⟩;rw[II]at l1;cases B1 with
 |false=>
  have e1:¬a1=b1:=by simpa using II
  refine aC (A6 h1 h2 h3 @pY @e0 l1) ?_;simp(disch:=first|omega|(simp;done)|(simp;omega)) [yAu,aP.mk.injEq,e1]<;>try rfl
 |true=>
 have e1:a1=b1:=by simpa using II
 have l2:=λfl σ=>mM (a:=pX) (R:=F0) (x:=a2) (y:=b2) (hx.2.1) (hy.2.1) fl σ
 simp only[aW]at l2;obtain⟨B2,bY⟩:∃B,decide (a2=b2)=B:=⟨_,rfl⟩;rw[bY]at l2;cases B2 with
 |false=>
  have e2:¬a2=b2:=by simpa using bY
  refine aC (A7 h1 h2 h3 @pY @e0 l1 l2) ?_;simp(disch:=first|omega|(simp;done)|(simp;omega)) [yAu,aP.mk.injEq,e2]<;>try rfl
 |true=>
 have e2:a2=b2:=by simpa using bY
 have l3:=λfl σ=>mM (a:=oC) (R:=FY) (x:=a3) (y:=b3) (hx.2.2) (hy.2.2) fl σ
 simp only[aW]at l3;obtain⟨B3,C3⟩:∃B,decide (a3=b3)=B:=⟨_,rfl⟩;rw[C3]at l3;refine aC (A8 h1 h2 h3 @pY @e0 l1 l2 l3) ?_;simp(disch:=first|omega|(simp;done)|(simp;omega)) [yAu,aP.mk.injEq,e0,e1,e2,C3]<;>try rfl
end
section
variable{E:aE}(hU:aH E)
include hU
theorem aLM(h0:E 88=none)(l r:List dT)(hl:l.length<=1000000)(hr:r.length<=1000000):aJ prog E 88 [fN.aA l,fN.aA r] (Em.bool.aA (decide (l=r))):=by
 refine aJ.aN 26 h0 func88 (h:=?_)
 by_cases hq:l.length=r.length
 .have cX:(l.length:Int)=(r.length:Int):=by omega
  obtain⟨B,hB⟩:∃B,decide (l=r)=B:=⟨_,rfl⟩;rw[hB];refine aC zk ?_;refine Wp.cZ (λm fr σ=>∃(i:Nat),∃gg:Nat->PD,(i+m=l.length/\decide (l.drop i=r.drop i)=B)/\fr=[fN.aA l,fN.aA r,gg 2,gg 3,.bool false,.int .i64 i,gg 6,gg 7,gg 8,gg 9,gg 10,gg 11,gg 12,gg 13,gg 14,gg 15,gg 16,gg 17,gg 18,gg 19,gg 20,gg 21,gg 22,gg 23,gg 24,gg 25]/\σ=[]) ?_ (l.length) (by refine⟨0,?_⟩;exact j6 (⟨Ah,hB⟩) Ak Ak);exact wg
 .exact bh
theorem aLO(h0:E 37=none)(a b:bB)(hx:fX a)(hy:fX b):aJ prog E 37 [Em.aG.aA a,Em.aG.aA b] (Em.bool.aA (decide (a=b))):=by
 obtain⟨a0,a1,a2,a3,a4,a5⟩:=a;obtain⟨b0,b1,b2,b3,b4,b5⟩:=b;simp only[nN,aW];refine aJ.aN 59 h0 func37 (h:=?_)
 by_cases e0:a0=b0
 rotate_left
 .have f0:(a0==b0)=false:=by simpa using e0
  refine aC (A2 @e0 @f0) ?_;exact ud
 by_cases e1:a1=b1
 rotate_left
 .have f1:(a1==b1)=false:=by simpa using e1
  refine aC (A3 @e0 e1 @f1) ?_;exact ue
 by_cases e2:a2=b2
 rotate_left
 .refine aC (A3 @e0 e1 e2) ?_;exact uf
 by_cases e3:a3=b3
 rotate_left
 .refine aC (A4 @e0 e1 e2 e3) ?_;exact ug
 by_cases e4:a4=b4
 rotate_left
 .refine aC (A5 @e0 e1 e2 e3 e4) ?_;exact uh
 by_cases hq:a5.length=b5.length
 rotate_left
 .have cX:¬(a5.length:Int)=(b5.length:Int):=by omega
  have hF:=rX hq;have hne:¬a5=b5:=by simpa using hF
  refine aC (A7 @e0 e1 e2 e3 e4 @hq cX) ?_;simp(disch:=first|omega|(simp;done)|(simp;omega)) [yAu,bB.mk.injEq,hne]<;>try rfl
 have cX:(a5.length:Int)=(b5.length:Int):=Ah;have hx1:a5.length<=1000000:=hx;obtain⟨B,hB⟩:∃B,decide (a5=b5)=B:=⟨_,rfl⟩;rw[show decide ((⟨a0,a1,a2,a3,a4,a5⟩:bB)=⟨b0,b1,b2,b3,b4,b5⟩)=B by rw[<-hB];simp[e0,e1,e2,e3,e4]];refine aC (A7 @e0 e1 e2 e3 e4 @hq cX) ?_;refine Wp.cZ (λm fr σ=>∃(i:Nat),∃gg:Nat->PD,(i+m=a5.length/\decide (a5.drop i=b5.drop i)=B)/\fr=[gg 0,gg 1,.ptr 0 0,.ptr 1 0,.bool false,.int .i64 i,gg 6,gg 7,gg 8,gg 9,gg 10,gg 11,gg 12,gg 13,gg 14,gg 15,gg 16,gg 17,gg 18,gg 19,gg 20,gg 21,gg 22,gg 23,gg 24,gg 25,gg 26,gg 27,gg 28,gg 29,gg 30,gg 31,gg 32,gg 33,gg 34,gg 35,gg 36,gg 37,gg 38,gg 39,gg 40,gg 41,gg 42,gg 43,gg 44,gg 45,gg 46,gg 47,gg 48,gg 49,gg 50,gg 51,gg 52,gg 53,gg 54,gg 55,gg 56,gg 57,gg 58]/\σ=[.box (.agg [.str a0,.str a1,.int .i64 a2,.int .i64 a3,.int .i64 a4,.slice (sz 1 a5) (a5.map i64.aA) .any]),.box (.agg [.str b0,.str b1,.int .i64 b2,.int .i64 b3,.int .i64 b4,.slice (sz 1 b5) (b5.map i64.aA) .any])]) ?_ (a5.length) (by refine⟨0,?_⟩;exact j6 (⟨Ah,hB⟩) Ak Ak)
 rintro m fr σ ⟨i,gg,hI,rfl,rfl⟩
 obtain⟨hm,hs⟩:=hI
 by_cases hi:i<a5.length
 .have q1:(i:Int)<(a5.length:Int):=by omega
  have hir:i<b5.length:=Ah;have q2:(i:Int)<(b5.length:Int):=Ah;obtain⟨a,ha⟩:=gn (a5[i]);obtain⟨b,hb⟩:=gn (b5[i]);have dY:a5.drop i=a::a5.drop (i+1):=At;have hc2:b5.drop i=b::b5.drop (i+1):=Bm;exact xo
 .have q1:¬(i:Int)<(a5.length:Int):=by omega
  exact wm
end
end Go.Kz
end
