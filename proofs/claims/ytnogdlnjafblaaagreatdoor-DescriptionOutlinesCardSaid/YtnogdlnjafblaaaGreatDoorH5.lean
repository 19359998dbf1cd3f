/- Steps of the proof. -/
import Derived.Test.YtnogdlnjafblaaaGreatDoorH4
import Derived.Test.YtnogdlnjafblaaaGreatDoorH3
import Derived.Shelf.Strconv.Itoa3
import Derived.Lib.AppendIntMem
set_option linter.all false
set_option maxHeartbeats 40000000
set_option maxRecDepth 100000
open Go.Proofs.Tryz
noncomputable section
namespace Go.Kz
open Go Go.Proofs
section
structure mP where
 o9:Int
 bB:Int
 first:Int
 NA:Int
 w0:Int
 w1:Int
 w2:Int
 w3:Int
 w4:Int
structure pI where
 bC:Int
 bB:Int
 kind:Int
 at_:Int
structure sR where
 low:Int
 keys:Int
 RM:Bool
 stops:List pI
structure vB where
 iR:Int
 dst:Int
 shift:Int
 M9:Bool
structure sS where
 aU:List mP
 bR:List sR
 iL:List vB
structure aLB where
 kind:Int
 at_:Int
abbrev jW:Em Int:=Em.int .u8
abbrev i8e:Em Int:=Em.int .i8
def Em.GV:Em mP:=.agg (((bJ.one jW).pair ((bJ.one jW).pair ((bJ.one i8e).pair ((bJ.one jW).pair ((bJ.one jW).pair ((bJ.one jW).pair ((bJ.one jW).pair ((bJ.one jW).pair (.one jW))))))))).nQ (λr=>(r.o9,r.bB,r.first,r.NA,r.w0,r.w1,r.w2,r.w3,r.w4)) (λx y h=>zg))
@[simp] theorem aLC{r:mP}:Em.GV.aA r=.agg [.int .u8 r.o9,.int .u8 r.bB,.int .i8 r.first,.int .u8 r.NA,.int .u8 r.w0,.int .u8 r.w1,.int .u8 r.w2,.int .u8 r.w3,.int .u8 r.w4]:=rfl
abbrev aLD:Em (List mP):=Em.GV.list 9
def Em.pull:Em pI:=.agg (((bJ.one jW).pair ((bJ.one jW).pair ((bJ.one jW).pair (.one jW)))).nQ (λr=>(r.bC,r.bB,r.kind,r.at_)) (λx y h=>zg))
@[simp] theorem aLE{r:pI}:Em.pull.aA r=.agg [.int .u8 r.bC,.int .u8 r.bB,.int .u8 r.kind,.int .u8 r.at_]:=rfl
abbrev aLF:Em (List pI):=Em.pull.list 4
def Em.OI:Em sR:=.agg (((bJ.one jW).pair ((bJ.one jW).pair ((bJ.one .bool).pair (.one aLF)))).nQ (λr=>(r.low,r.keys,r.RM,r.stops)) (λx y h=>zg))
@[simp] theorem a8G{r:sR}:Em.OI.aA r=.agg [.int .u8 r.low,.int .u8 r.keys,.bool r.RM,aLF.aA r.stops]:=rfl
abbrev aLG:Em (List sR):=Em.OI.list 4
def Em.link:Em vB:=.agg (((bJ.one jW).pair ((bJ.one jW).pair ((bJ.one i8e).pair (.one .bool)))).nQ (λr=>(r.iR,r.dst,r.shift,r.M9)) (λx y h=>zg))
@[simp] theorem a8H{r:vB}:Em.link.aA r=.agg [.int .u8 r.iR,.int .u8 r.dst,.int .i8 r.shift,.bool r.M9]:=rfl
abbrev aLH:Em (List vB):=Em.link.list 4
def Em.GW:Em sS:=.agg (((bJ.one aLD).pair ((bJ.one aLG).pair (.one aLH))).nQ (λr=>(r.aU,r.bR,r.iL)) (λx y h=>zg))
@[simp] theorem VD{r:sS}:Em.GW.aA r=.agg [aLD.aA r.aU,aLG.aA r.bR,aLH.aA r.iL]:=rfl
def Em.aVb:Em aLB:=.agg (((bJ.one jW).pair (.one jW)).nQ (λr=>(r.kind,r.at_)) (λx y h=>zg))
@[simp] theorem a8I{r:aLB}:Em.aVb.aA r=.agg [.int .u8 r.kind,.int .u8 r.at_]:=rfl
def gG(n:Int):Prop:=0<=n/\n<=255
def aLI(n:Int):Prop:=-128<=n/\n<=127
def OH(r:mP):Prop:=gG r.o9/\gG r.bB/\aLI r.first/\gG r.NA/\gG r.w0/\gG r.w1/\gG r.w2/\gG r.w3/\gG r.w4
def QO(r:pI):Prop:=gG r.bC/\gG r.bB/\gG r.kind/\gG r.at_
def okB(r:sR):Prop:=gG r.low/\gG r.keys/\∀s∈r.stops,QO s
def aEm(r:vB):Prop:=gG r.iR/\gG r.dst/\aLI r.shift
def TV(p:sS):Prop:=(∀r∈p.aU,OH r)/\(∀b∈p.bR,okB b)/\∀l∈p.iL,aEm l
def oO(p:sS):Bool:=decide (1<=p.aU.length)&&decide (p.aU.length<=3)&&decide (1<=p.bR.length)&&decide (p.bR.length<=3)&&decide (p.iL.length<=3)&&p.bR.all λb=>decide (b.stops.length<=3)
variable{E:aE}(hU:aG E)
include hU
theorem aVc(h0:E 19=none)(p:sS):aJ prog E 19 [Em.GW.aA p] (Em.bool.aA (oO p)):=by
 obtain⟨R,D,C⟩:=p;simp only[VD,eN];refine aJ.aV 47 h0 func19 (h:=?_)
 by_cases c1:(R.length:Int)<1
 .have z:¬1<=R.length:=by omega
  refine aD c1 ?_;exact dc
 have z1:1<=R.length:=ym
 by_cases c2:3<(R.length:Int)
 .have z:¬R.length<=3:=by omega
  refine aD (A2 c1 c2) ?_;exact dc
 have z2:R.length<=3:=ym
 by_cases c3:(D.length:Int)<1
 .have z:¬1<=D.length:=by omega
  refine aD (A3 c1 c2 c3) ?_;exact dc
 have z3:1<=D.length:=ym
 by_cases c4:3<(D.length:Int)
 .have z:¬D.length<=3:=by omega
  refine aD (A4 c1 c2 c3 c4) ?_;exact dc
 have z4:D.length<=3:=ym
 by_cases c5:3<(C.length:Int)
 .have z:¬C.length<=3:=by omega
  refine aD (A5 c1 c2 c3 c4 c5) ?_;exact dc
 have z5:C.length<=3:=ym;obtain⟨B,hB⟩:=gn (oO ⟨R,D,C⟩);have hB0:(D.all λb=>decide (b.stops.length<=3))=B:=by rw[<-hB];simp[oO,z1,z2,z3,z4,z5]
 rw[hB];refine aD (A5 c1 c2 c3 c4 c5) ?_;refine Wp.dK (λm fr σ=>∃(i:Nat),∃gg:Nat->PD,(i+m=D.length/\((D.drop i).all λb=>decide (b.stops.length<=3))=B)/\fr=[gg 0,.ptr 0 0,.bool false,.int .i64 i,gg 4,gg 5,gg 6,gg 7,gg 8,gg 9,gg 10,gg 11,gg 12,gg 13,gg 14,gg 15,gg 16,gg 17,gg 18,gg 19,gg 20,gg 21,gg 22,gg 23,gg 24,gg 25,gg 26,gg 27,gg 28,gg 29,gg 30,gg 31,gg 32,gg 33,gg 34,gg 35,gg 36,gg 37,gg 38,gg 39,gg 40,gg 41,gg 42,gg 43,gg 44,gg 45,gg 46]/\σ=[.box (.agg [.slice (sz 9 R) (R.map Em.GV.aA) .any,.slice (sz 4 D) (D.map Em.OI.aA) .any,.slice (sz 4 C) (C.map Em.link.aA) .any])]) ?_ (D.length) (by refine⟨0,?_⟩;exact bV (⟨ym,hB0⟩))
 rintro m fr σ ⟨i,gg,hI,rfl,rfl⟩
 obtain⟨hm,hs⟩:=hI
 by_cases hi:i<D.length
 .have q1:(i:Int)<(D.length:Int):=by omega
  obtain⟨b,hb⟩:=gn (D[i]);have qY:D.drop i=b::D.drop (i+1):=by rw[yAq hi,hb]
  rw[qY,yBK]at hs;obtain⟨b0,b1,b2,b3⟩:=b
  by_cases hl:3<(b3.length:Int)
  .have hz:¬b3.length<=3:=by omega
   simp only[hz,decide_false,yCh]at hs;have fZ:B=false:=hs.symm;refine aD (A4 q1 hi hb hl) ?_;exact au
  .have hz:b3.length<=3:=by omega
   simp only[hz,decide_true,yCV]at hs;refine aD (A4 q1 hi hb hl) ?_;exact ec
 .have q1:¬(i:Int)<(D.length:Int):=by omega
  rw[yAs ym]at hs;have fZ:B=true:=hs.symm;exact vm
end
end Go.Kz
namespace Go.Kz
instance:Inhabited mP:=⟨⟨0,0,0,0,0,0,0,0,0⟩⟩
instance:Inhabited pI:=⟨⟨0,0,0,0⟩⟩
instance:Inhabited sR:=⟨⟨0,0,false,[]⟩⟩
instance:Inhabited vB:=⟨⟨0,0,0,false⟩⟩
instance:Inhabited aX:=⟨⟨[],[],0,0,0,[]⟩⟩
def PI:List (Int×Int):=[(8,1),(4,1),(16,1),(8,3),(2,1),(8,5)]
def qZ:List (Int×Int):=[(8,1),(4,1),(16,1),(2,1),(8,3),(8,5),(4,3),(1,1),(32,1),(16,3),(16,5),(32,3),(8,7),(2,3),(1,2),(64,1)]
def mG(n:Int):Int×Int:=PI.getD (n%6).toNat (8,1)
def oP(n:Int):Int×Int:=qZ.getD (n%16).toNat (8,1)
def SU:List (List UInt8):=[[79,112,101,110],[70,108,117,116,101],[82,101,101,100]]
def NU(n:Int):List UInt8:=SU.getD (n%3).toNat []
def aHG:List ((Int×Int)×(Int×Int)×Int):=[((8,1),(8,1),0),((8,1),(4,1),-12),((8,1),(16,1),12),((8,1),(2,1),-24),((8,1),(8,3),-19),((8,1),(8,5),-28),((8,1),(4,3),-31),((8,1),(1,1),-36),((8,1),(32,1),24),((8,1),(16,3),-7),((8,1),(16,5),-16),((8,1),(32,3),5),((8,1),(8,7),-34),((8,1),(2,3),-43),((8,1),(1,2),-48),((8,1),(64,1),36),((4,1),(8,1),12),((4,1),(4,1),0),((4,1),(16,1),24),((4,1),(2,1),-12),((4,1),(8,3),-7),((4,1),(8,5),-16),((4,1),(4,3),-19),((4,1),(1,1),-24),((4,1),(32,1),36),((4,1),(16,3),5),((4,1),(16,5),-4),((4,1),(32,3),17),((4,1),(8,7),-22),((4,1),(2,3),-31),((4,1),(1,2),-36),((4,1),(64,1),48),((16,1),(8,1),-12),((16,1),(4,1),-24),((16,1),(16,1),0),((16,1),(2,1),-36),((16,1),(8,3),-31),((16,1),(8,5),-40),((16,1),(4,3),-43),((16,1),(1,1),-48),((16,1),(32,1),12),((16,1),(16,3),-19),((16,1),(16,5),-28),((16,1),(32,3),-7),((16,1),(8,7),-46),((16,1),(2,3),-55),((16,1),(1,2),-60),((16,1),(64,1),24),((8,3),(8,1),19),((8,3),(4,1),7),((8,3),(16,1),31),((8,3),(2,1),-5),((8,3),(8,3),0),((8,3),(8,5),-9),((8,3),(4,3),-12),((8,3),(1,1),-17),((8,3),(32,1),43),((8,3),(16,3),12),((8,3),(16,5),3),((8,3),(32,3),24),((8,3),(8,7),-15),((8,3),(2,3),-24),((8,3),(1,2),-29),((8,3),(64,1),55),((2,1),(8,1),24),((2,1),(4,1),12),((2,1),(16,1),36),((2,1),(2,1),0),((2,1),(8,3),5),((2,1),(8,5),-4),((2,1),(4,3),-7),((2,1),(1,1),-12),((2,1),(32,1),48),((2,1),(16,3),17),((2,1),(16,5),8),((2,1),(32,3),29),((2,1),(8,7),-10),((2,1),(2,3),-19),((2,1),(1,2),-24),((2,1),(64,1),60),((8,5),(8,1),28),((8,5),(4,1),16),((8,5),(16,1),40),((8,5),(2,1),4),((8,5),(8,3),9),((8,5),(8,5),0),((8,5),(4,3),-3),((8,5),(1,1),-8),((8,5),(32,1),52),((8,5),(16,3),21),((8,5),(16,5),12),((8,5),(32,3),33),((8,5),(8,7),-6),((8,5),(2,3),-15),((8,5),(1,2),-20),((8,5),(64,1),64)]
def E8(f o:Int×Int):Int:=((aHG.find? λt=>decide (t.1=f)&&decide (t.2.1=o)).map (·.2.2)).getD 0
def HY(x:mP)(k:Nat):Int:=[x.w0,x.w1,x.w2,x.w3,x.w4].getD (k%5) 0
def HZ(x:mP)(n:Nat):List Int:=(List.range n).map (HY x)
def digit(i:Nat):UInt8:=UInt8.ofNat (48+i)
def vZ(x:mP)(i:Nat):aX:=⟨[82,digit (i%10)],NU x.o9,(oP x.bB).1,(oP x.bB).2,x.first,HZ x (1+(x.NA%25).toNat)⟩
def fV(l:List mP)(n:Nat):List aX:=(List.range n).map λi=>vZ (l.getD i default) i
def tC(k n sh lo hi at_ m other:Int):List jV:=
 if k=2 then [⟨lo,hi,[⟨n,sh⟩,⟨n,sh+7⟩]⟩]
 else if k=3\/k=4 then(if lo<at_ then [⟨lo,at_-1,[⟨n,sh⟩]⟩]else [])++[⟨at_,hi,if k=3 then [⟨m,other⟩]else [⟨n,sh-12⟩]⟩]
 else if k=5 then [⟨at_,hi,[⟨n,sh⟩]⟩]
 else [⟨lo,hi,[⟨n,sh⟩]⟩]
def P7(rs:List aX)(n:Nat):Int×Int:=((rs.getD n default).num,(rs.getD n default).den)
def yX(rs:List aX)(lo hi:Int)(x:pI)(i:Nat):cM:=
 ⟨[83,digit i],(mG x.bB).1,(mG x.bB).2,tC (x.kind%6) (x.bC%rs.length) (E8 (mG x.bB) (P7 rs (x.bC%rs.length).toNat)) lo hi (lo+x.at_%(hi-lo+1))
   ((x.bC%rs.length+1)%rs.length) (E8 (mG x.bB) (P7 rs ((x.bC%rs.length+1)%rs.length).toNat))⟩
def yY(rs:List aX)(lo hi:Int)(l:List pI)(n:Nat):List cM:=(List.range n).map λi=>yX rs lo hi (l.getD i default) i
def LA(rs:List aX)(b:sR)(i:Nat):bY:=⟨[68,digit i],b.RM,36+b.low%12,36+b.low%12+b.keys%9,yY rs (36+b.low%12) (36+b.low%12+b.keys%9) b.stops b.stops.length⟩
def kE(rs:List aX)(l:List sR)(n:Nat):List bY:=(List.range n).map λi=>LA rs (l.getD i default) i
def WK(n:Nat)(c:vB)(i:Nat):dY:=
 ⟨[67,digit i],c.iR%n,c.dst%n,if c.iR%n=c.dst%n/\c.shift.tmod 25=0 then 12 else c.shift.tmod 25,c.M9⟩
def lJ(n:Nat)(l:List vB)(k:Nat):List dY:=(List.range k).map λi=>WK n (l.getD i default) i
def tD(p:sS):eK:=⟨[79,114,103,97,110],fV p.aU p.aU.length,kE (fV p.aU p.aU.length) p.bR p.bR.length,lJ p.bR.length p.iL p.iL.length⟩
end Go.Kz
namespace Go.Kz
open Go Go.Proofs
section
def Em.bB:Em (Int×Int):=.agg (((bJ.one i64).pair (.one i64)).nQ (λr=>(r.1,r.2)) (λx y h=>zg))
@[simp] theorem a8P{r:Int×Int}:Em.bB.aA r=.agg [.int .i64 r.1,.int .i64 r.2]:=rfl
variable{E:aE}(hU:aG E)
include hU
theorem aVk(h0:E 100=none)(n:Int)(hn:gG n):aJ prog E 100 [.int .u8 n] (Em.bB.aA (mG n)):=by
 obtain⟨k,rfl⟩:∃k:Nat,n=k:=⟨n.toNat,by have:=hn.1;omega⟩;have hm:(k:Int).tmod 6=((k%6:Nat):Int):=rfl;refine aJ.aV 14 h0 func100 (h:=?_);have hlt:k%6<6:=yBj _ yx;have hs:mG k=PI.getD (k%6) (8,1):=by
  unfold mG
  congr 1
 rw[hs];clear hs;obtain⟨j,hj⟩:=gn (k%6);rw[hj]at hm hlt ⊢
 match j,hlt with
 |0,_=>
  exact aq
 |1,_=>
  exact aq
 |2,_=>
  exact aq
 |3,_=>
  exact aq
 |4,_=>
  exact aq
 |5,_=>
  exact aq
 |j+6,h=>exact absurd h ym
theorem aVi(h0:E 99=none)(n:Int)(hn:gG n):aJ prog E 99 [.int .u8 n] (Em.bB.aA (oP n)):=by
 obtain⟨k,rfl⟩:∃k:Nat,n=k:=⟨n.toNat,by have:=hn.1;omega⟩;have hm:(k:Int).tmod 16=((k%16:Nat):Int):=rfl;refine aJ.aV 24 h0 func99 (h:=?_);have hlt:k%16<16:=yBj _ yx;have hs:oP k=qZ.getD (k%16) (8,1):=by
  unfold oP
  congr 1
 rw[hs];clear hs;obtain⟨j,hj⟩:=gn (k%16);rw[hj]at hm hlt ⊢
 match j,hlt with
 |0,_=>
  exact aq
 |1,_=>
  exact aq
 |2,_=>
  exact aq
 |3,_=>
  exact aq
 |4,_=>
  exact aq
 |5,_=>
  exact aq
 |6,_=>
  exact aq
 |7,_=>
  exact aq
 |8,_=>
  exact aq
 |9,_=>
  exact aq
 |10,_=>
  exact aq
 |11,_=>
  exact aq
 |12,_=>
  exact aq
 |13,_=>
  exact aq
 |14,_=>
  exact aq
 |15,_=>
  exact aq
 |j+16,h=>exact absurd h ym
end
section
def rF(n:Int):Bool:=(decide (65<=n)&&decide (n<=90))||(decide (97<=n)&&decide (n<=122))
def yP(c:UInt8):Bool:=rF c.toNat||(decide (48<=(c.toNat:Int))&&decide ((c.toNat:Int)<=57))||decide (c.toNat=95)
def cV:List UInt8->Bool
 | []=>false
 |c::r=>decide ((c::r).length<=32)&&rF c.toNat&&r.all yP
def kB(lo hi:Int):Int:=if lo<0\/127<hi then 3 else if hi<lo then 23 else 0
def aCB:Nat->List PD->List U->Option (PD×List U):=entry (aY (Em.int .u8) Em.bool λn=>some (rF n))
theorem SR(n:Int)(fl:Nat)(σ:List U):aCB fl [.int .u8 n] σ=some (.bool (rF n),σ):=by
 have e:(Em.int .u8).dec (.int .u8 n)=some n:=Em.cJ rfl;unfold aCB entry aY;simp only[e];rfl
variable{E:aE}(hU:aG E)
include hU
theorem aV1(h0:E 104=none)(n:Int):aJ prog E 104 [.int .u8 n] (Em.bool.aA (rF n)):=by
 refine aJ.aV 17 h0 func104 (h:=?_)
 by_cases a:65<=n
 .by_cases b:n<=90
  .refine aD (A2 @a @b) ?_;simp(disch:=first|omega|(simp;done)|(simp;omega)) [yAu,rF,a,b]<;>try rfl
  .by_cases c:97<=n
   .exact ob
   .exact ob
 .by_cases c:97<=n
  .exact oz
  .exact oz
theorem aV5(h0:E 108=none)(lo hi:Int):aJ prog E 108 [.agg [.int .i64 lo,.int .i64 hi]] (.int .i64 (kB lo hi)):=by
 refine aJ.aV 18 h0 func108 (h:=?_)
 by_cases a:lo<0
 .refine aD @a ?_;simp(disch:=first|omega|(simp;done)|(simp;omega)) [yAu,kB,a]<;>try rfl
 by_cases b:127<hi
 .refine aD (A2 @a @b) ?_;simp(disch:=first|omega|(simp;done)|(simp;omega)) [yAu,kB,a,b]<;>try rfl
 by_cases c:hi<lo
 .exact om
 .exact om
theorem aWn(h0:E 106=none)(n:Int):aJ prog E 106 [.int .i64 n] (Em.bool.aA (decide (-256<=n)&&decide (n<=256))):=by
 refine aJ.aV 9 h0 func106 (h:=?_)
 by_cases a:-256<=n
 .by_cases b:n<=256
  .exact pq
  .exact pq
 .refine aD @a ?_;simp(disch:=first|omega|(simp;done)|(simp;omega)) [yAu,a]<;>try rfl
theorem aV3(h0:E 49=none)(h1:E 104=some aCB)(s:List UInt8)(hs:s.length<=100000):aJ prog E 49 [.str s] (Em.bool.aA (cV s)):=by
 by_cases hs0:s=[]
 .subst hs0;refine aJ.aV 42 h0 func49 (h:=?_);refine aD trivial ?_;simp(disch:=first|omega|(simp;done)|(simp;omega)) [yAu,cV]<;>try rfl
 obtain⟨c,r,hcr⟩:∃c r,s=c::r:=by cases s with|nil=>exact absurd rfl hs0|cons c r=>exact⟨c,r,rfl⟩
 have hs1:s.isEmpty=false:=by rw[hcr];rfl
 have hx0:s[0]?=some c:=by rw[hcr];rfl
 obtain⟨fP,hx1⟩:=yA.1 hx0;refine aJ.aV 42 h0 func49 (h:=?_)
 by_cases a:32<(s.length:Int)
 .have hB:cV s=false:=by rw[hcr];simp[cV,show ¬r.length+1<=32 by rw[hcr]at a;simp at a;omega]
  rw[hB];refine aD (A3 hs0 hs1 @a) ?_;exact aa
 .cases hc:rF c.toNat with
  |false=>
   have hB:cV s=false:=by rw[hcr];simp[cV,hc]
   rw[hB];refine aD (A9 h1 hs0 hs1 @a hx0 hx1 fP @SR hc) ?_;exact aa
  |true=>
   have hB:cV s=(s.drop 1).all yP:=by rw[hcr];simp only[cV,hc];simp[show r.length+1<=32 by rw[hcr]at a;simp at a;omega]
   rw[hB];clear hB;obtain⟨B,hB⟩:=gn ((s.drop 1).all yP);rw[hB];refine aD (A9 h1 hs0 hs1 @a hx0 hx1 fP @SR hc) ?_;refine Wp.dK (λm fr σ=>∃(k:Nat),∃gg:Nat->PD,(k+m=s.length/\1<=k/\(s.drop k).all yP=B)/\fr=[.str s,gg 1,gg 2,.int .i64 k,gg 4,gg 5,gg 6,gg 7,gg 8,gg 9,gg 10,gg 11,gg 12,gg 13,gg 14,gg 15,gg 16,gg 17,gg 18,gg 19,gg 20,gg 21,gg 22,gg 23,gg 24,gg 25,gg 26,gg 27,gg 28,gg 29,gg 30,gg 31,gg 32,gg 33,gg 34,gg 35,gg 36,gg 37,gg 38,gg 39,gg 40,gg 41]/\σ=[]) ?_ (s.length-1) (by refine⟨1,?_⟩;exact bV (⟨ym,ym,hB⟩))
   rintro m fr σ ⟨k,gg,hI,rfl,rfl⟩
   obtain⟨hm,hk1,hkB⟩:=hI
   by_cases hk:k<s.length
   .have q1:(k:Int)<(s.length:Int):=by omega
    obtain⟨v,hv⟩:=gn (s[k]);have M6:s[k]?=some v:=by rw[yAh hk,hv]
    have hd:s.drop k=v::s.drop (k+1):=by rw[yAq hk,hv]
    have hw:IntKind.i64.wrap ((k:Int)+1)=((k+1:Nat):Int):=zd;rw[hd,yBK]at hkB;cases hl:rF v.toNat with
    |true=>
     have hn:yP v=true:=by unfold yP;rw[hl];rfl
     rw[hn,yCV]at hkB;refine aD (A8 h1 q1 hk hv M6 @SR hl @hw) ?_;exact gh
    |false=>
     have l95:rF 95=false:=yx;have nC:yP v=((decide (48<=(v.toNat:Int))&&decide ((v.toNat:Int)<=57))||decide (v.toNat=95)):=by unfold yP;rw[hl];rfl
     by_cases b1:(v.toNat:Int)<48
     .have hn:yP v=false:=by rw[nC];simp;omega
      rw[hn,yCh]at hkB;subst hkB;have b3:¬(v.toNat:Int)=95:=ym;refine aD (A10 h1 q1 hk hv M6 @SR hl @hw b1 b3) ?_;exact aa
     .by_cases b2:57<(v.toNat:Int)
      .by_cases b3:(v.toNat:Int)=95
       .have hn:yP v=true:=by rw[nC];simp;omega
        rw[hn,yCV]at hkB;refine aD (A12 h1 q1 hk hv M6 @SR hl @hw b1 b2 b3 l95) ?_;exact gh
       .have hn:yP v=false:=by rw[nC];simp;omega
        rw[hn,yCh]at hkB;subst hkB;refine aD (A11 h1 q1 hk hv M6 @SR hl @hw b1 b2 b3) ?_;exact aa
      .have hn:yP v=true:=by rw[nC];simp;omega
       rw[hn,yCV]at hkB;refine aD (A10 h1 q1 hk hv M6 @SR hl @hw b1 b2) ?_;exact gh
   .have q1:¬(k:Int)<(s.length:Int):=by omega
    obtain rfl:k=s.length:=ym;rw[yCe]at hkB;subst hkB;refine aD q1 ?_;exact aa
end
section
variable{E:aE}(hU:aG E)
include hU
end
section
def oE(n d:Int):Int:=if d<=0\/1000000<d\/n < -1000000\/1000000<n\/Nat.gcd n.natAbs d.toNat≠1 then 2 else 0
def mI(n d:Int):Int:=if oE n d≠0 then 2 else if n<=0\/128*d<n then 3 else if 128<d then 4 else 0
abbrev P6:Em Int:=Em.int .u64
def aCC:Nat->List PD->List U->Option (PD×List U):=entry (cU P6 P6 P6 λa b=>bE (0<=a/\a<=1000000/\0<=b/\b<=1000000) (some (Nat.gcd a.toNat b.toNat)))
theorem a0M{a b:Nat}(ha:a<=1000000)(hb:b<=1000000)(fl:Nat)(σ:List U):aCC fl [.int .u64 a,.int .u64 b] σ=some (.int .u64 (Nat.gcd a b),σ):=by
 have e1:P6.dec (.int .u64 a)=some (a:Int):=Em.cJ rfl;have e2:P6.dec (.int .u64 b)=some (b:Int):=Em.cJ rfl;unfold aCC entry cU;simp only[e1,e2];rw[dC ⟨ym,ym,ym,ym⟩];rfl
variable{E:aE}(hU:aG E)
include hU
theorem aV7(h0:E 36=none)(a b:Nat)(ha:a<=1000000)(hb:b<=1000000):aJ prog E 36 [.int .u64 a,.int .u64 b] (P6.aA (Nat.gcd a b)):=by
 obtain⟨G,hG⟩:=gn (Nat.gcd a b);rw[hG];refine aJ.aV 12 h0 func36 (h:=?_);refine aD trivial ?_;refine Wp.dK (λm fr σ=>∃(u v:Nat),∃gg:Nat->PD,(v<=m/\u<=1000000/\v<=1000000/\Nat.gcd u v=G)/\fr=[.int .u64 u,.int .u64 v,gg 2,gg 3,gg 4,gg 5,gg 6,gg 7,gg 8,gg 9,gg 10,gg 11]/\σ=[]) ?_ (b) (by refine⟨a,b,?_⟩;exact bV (⟨yAk _,ha,hb,hG⟩))
 rintro m fr σ ⟨u,v,gg,hI,rfl,rfl⟩
 obtain⟨hm,hu,hv,hg⟩:=hI
 by_cases q:v=0
 .subst q;rw[Nat.gcd_zero_right]at hg;subst hg;exact vl
 .have q1:0<v:=by omega
  have q2:¬(v:Int)=0:=ym;have hml:u%v<v:=yBj _ ym;have hgr:Nat.gcd v (u%v)=G:=by rw[yDm v (u%v),<-Nat.gcd_rec,yDm,hg]
  obtain⟨r,hr⟩:=gn (u%v);have w1:((u:Int)).tmod (v:Int)=(r:Int):=by rw[<-hr];rfl
  rw[hr]at hml hgr;have w2:IntKind.u64.wrap (r:Int)=(r:Int):=zf;refine aD (A5 @q q1 q2 w1 w2) ?_;refine aL.normal (m-1) ym (by refine⟨v,r,?_⟩;exact bV (⟨ym,hv,ym,hgr⟩))
theorem aV9(h0:E 37=none)(n:Int)(h:-1000000<=n/\n<=1000000):aJ prog E 37 [.int .i64 n] (P6.aA n.natAbs):=by
 refine aJ.aV 10 h0 func37 (h:=?_)
 by_cases a:n<0
 .have w1:IntKind.u64.wrap n=n+18446744073709551616:=by simp only[IntKind.wrap,IntKind.bits,IntKind.signed];simp;omega
  have w2:IntKind.u64.wrap (-(n+18446744073709551616))=(n.natAbs:Int):=zf;refine aD (A3 @a w1 w2) ?_;exact aa
 .have w1:IntKind.u64.wrap n=(n.natAbs:Int):=by simp only[IntKind.wrap,IntKind.bits,IntKind.signed];simp;omega
  refine aD (A2 @a w1) ?_;exact aa
def aCD:Nat->List PD->List U->Option (PD×List U):=entry (aY i64 P6 λn=>bE (-1000000<=n/\n<=1000000) (some (n.natAbs:Int)))
omit hU in
theorem a0N{n:Int}(h:-1000000<=n/\n<=1000000)(fl:Nat)(σ:List U):aCD fl [.int .i64 n] σ=some (.int .u64 n.natAbs,σ):=by
 have e1:i64.dec (.int .i64 n)=some n:=Em.cJ rfl;unfold aCD entry aY;exact iu
theorem aWb(h0:E 13=none)(h1:E 37=some aCD)(h2:E 36=some aCC)(n d:Int):aJ prog E 13 [.agg [.int .i64 n,.int .i64 d]] (i64.aA (oE n d)):=by
 by_cases a:d<=0
 .skip
  refine aJ.aV 31 h0 func13 (h:=?_);refine aD @a ?_;simp(disch:=first|omega|(simp;done)|(simp;omega)) [yAu,oE,a]<;>try rfl
 by_cases b:1000000<d
 .skip
  refine aJ.aV 31 h0 func13 (h:=?_);refine aD (A2 @a @b) ?_;simp(disch:=first|omega|(simp;done)|(simp;omega)) [yAu,oE,a,b]<;>try rfl
 by_cases c:n < -1000000
 .skip
  refine aJ.aV 31 h0 func13 (h:=?_);refine aD (A3 @a @b @c) ?_;simp(disch:=first|omega|(simp;done)|(simp;omega)) [yAu,oE,a,b,c]<;>try rfl
 by_cases e:1000000<n
 .skip
  refine aJ.aV 31 h0 func13 (h:=?_);refine aD (A4 @a @b @c @e) ?_;simp(disch:=first|omega|(simp;done)|(simp;omega)) [yAu,oE,a,b,c,e]<;>try rfl
 have hM:=a0N (n:=n) ym;obtain⟨D,rfl⟩:∃D:Nat,d=D:=⟨d.toNat,ym⟩;obtain⟨N,hN⟩:=gn (n.natAbs);rw[hN]at hM;have hG:=a0M (a:=N) (b:=D) ym ym;have w:IntKind.u64.wrap (D:Int)=D:=zf;obtain⟨g,hg⟩:=gn (Nat.gcd N D);have a2:¬D=0:=ym;have b2:¬1000000<D:=ym;have hE:oE n D=if g=1 then 0 else 2:=by
  unfold oE;rw[hN,yBk]
  by_cases q:g=1
  .rw[yAJ q,yAI ym]
  .rw[yAI q,yAJ ym]
 rw[hE];rw[hg]at hG
 by_cases q:g=1
 .have q1:(g:Int)=1:=by omega
  exact jd
 .have q1:¬(g:Int)=1:=by omega
  exact jd
def Z7:Nat->List PD->List U->Option (PD×List U):=entry (aY Em.bB i64 λx=>some (oE x.1 x.2))
omit hU in
theorem aNu(n d:Int)(fl:Nat)(σ:List U):Z7 fl [.agg [.int .i64 n,.int .i64 d]] σ=some (.int .i64 (oE n d),σ):=by
 have e1:Em.bB.dec (.agg [.int .i64 n,.int .i64 d])=some (n,d):=Em.cJ rfl;unfold Z7 entry aY;simp only[e1];rfl
theorem aWd(h0:E 105=none)(h1:E 13=some Z7)(n d:Int):aJ prog E 105 [.agg [.int .i64 n,.int .i64 d]] (i64.aA (mI n d)):=by
 have hF:=aNu n d
 by_cases a:oE n d=0
 .have hd:0<d/\d<=1000000:=by
   unfold oE at a;split at a
   .cases a
   .omega
  have w:IntKind.i64.wrap (128*d)=128*d:=zd;rw[a]at hF;unfold mI;rw[a];refine aJ.aV 23 h0 func105 (h:=?_)
  by_cases b:n<=0
  .refine aD (A3 h1 hF @b) ?_;simp(disch:=first|omega|(simp;done)|(simp;omega)) [yAu,b]<;>try rfl
  by_cases c:128*d<n
  .refine aD (A5 h1 hF @b @w @c) ?_;simp(disch:=first|omega|(simp;done)|(simp;omega)) [yAu,b,c]<;>try rfl
  by_cases e:128<d
  .exact nh
  .exact nh
 .unfold mI;rw[yAJ a];obtain⟨f,hf⟩:=gn (oE n d);rw[hf]at a hF;refine aJ.aV 23 h0 func105 (h:=?_);refine aD (A3 h1 hF @a) ?_;exact aa
end
section
def lH{α:Type}(p:α->Bool):List α->Nat->Int
 | [],_=>-1
 |x::r,i=>if p x=true then(i:Int)else lH p r (i+1)
theorem aDn{α:Type}(p:α->Bool):∀(l:List α) (i:Nat),decide (0<=lH p l i)=l.any p
 | [],_=>rfl
 |x::r,i=>by
  unfold lH;cases h:p x with
  |true=>rw[yAJ rfl,yDI,h];simp
  |false=>rw[yAI yx,yDI,h,aDn p r (i+1)];rfl
def kT(w:Int):Bool:=decide (w<0)||decide (1000000<w)
def aCE:Nat->List PD->List U->Option (PD×List U):=entry (aY i64 Em.bool λn=>some (kT n))
theorem a0H(n:Int)(fl:Nat)(σ:List U):aCE fl [.int .i64 n] σ=some (.bool (kT n),σ):=by
 have e:i64.dec (.int .i64 n)=some n:=Em.cJ rfl;unfold aCE entry aY;simp only[e];rfl
variable{E:aE}(hU:aG E)
include hU
theorem aWf(h0:E 140=none)(n:Int):aJ prog E 140 [.int .i64 n] (Em.bool.aA (kT n)):=by
 refine aJ.aV 9 h0 func140 (h:=?_)
 by_cases a:n<0
 .refine aD @a ?_;simp(disch:=first|omega|(simp;done)|(simp;omega)) [yAu,kT,a]<;>try rfl
 .by_cases b:1000000<n
  .exact pg
  .exact pg
theorem aWh(h0:E 164=none)(h1:E 140=some aCE)(l:List Int)(hl:l.length<=1000000):aJ prog E 164 [nZ.aA l,.func 140 []] (i64.aA (lH kT l 0)):=by
 obtain⟨B,hB⟩:=gn (lH kT l 0);rw[hB];refine aJ.aV 19 h0 func164 (h:=?_);refine aD trivial ?_;refine Wp.dK (λm fr σ=>∃(i:Nat),∃gg:Nat->PD,(i+m=l.length/\lH kT (l.drop i) i=B)/\fr=[nZ.aA l,.func 140 [],gg 2,gg 3,gg 4,gg 5,nZ.aA l,.int .i64 l.length,.int .i64 i,gg 9,gg 10,gg 11,gg 12,gg 13,gg 14,gg 15,gg 16,gg 17,gg 18]/\σ=[]) ?_ (l.length) (by refine⟨0,?_⟩;exact bV (⟨ym,hB⟩))
 rintro m fr σ ⟨i,gg,hI,rfl,rfl⟩
 obtain⟨hm,hs⟩:=hI
 by_cases hi:i<l.length
 .have q1:(i:Int)<(l.length:Int):=by omega
  obtain⟨a,ha⟩:=gn (l[i]);have hc:l.drop i=a::l.drop (i+1):=zq;have hE:=a0H a;rw[hc]at hs;unfold lH at hs;cases hb:kT a with
  |true=>
   rw[hb]at hE;rw[yAJ hb]at hs;have fZ:B=(i:Int):=hs.symm;clear hs;refine aD xd ?_
   first|refine Wp.seq ?_|skip
   apply Wp.dU;refine j9 (A4 h1 hE hi ha) ?_;apply SQ.nil;exact vm
  |false=>
   rw[hb]at hE;rw[yAI (by rw[hb];decide)]at hs;refine aD xd ?_
   first|refine Wp.seq ?_|skip
   apply Wp.dU;refine j9 (A4 h1 hE hi ha) ?_;apply SQ.nil;refine aD q1 ?_;exact ec
 .have q1:¬(i:Int)<(l.length:Int):=by omega
  rw[yAs ym]at hs;have fZ:B=-1:=hs.symm;exact vm
def aCF:Nat->List PD->List U->Option (PD×List U):=entry (λargs=>match args with
 | [p,.func g []]=>if g=140 then aY nZ i64 (λl=>bE (l.length<=1000000) (some (lH kT l 0))) [p]else none
 |_=>none)
omit hU in
theorem a0I{l:List Int}(hl:l.length<=1000000)(fl:Nat)(σ:List U):aCF fl [nZ.aA l,.func 140 []] σ=some (.int .i64 (lH kT l 0),σ):=by
 have e1:=Em.cJ (nZ.str l);unfold aCF entry aY;simp only[e1,yAM];rw[dC hl];rfl
def aCG:Nat->List PD->List U->Option (PD×List U):=entry (λargs=>match args with
 | [p,.func g []]=>if g=140 then aY nZ Em.bool (λl=>bE (l.length<=1000000) (some (l.any kT))) [p]else none
 |_=>none)
omit hU in
theorem a0J{l:List Int}(hl:l.length<=1000000)(fl:Nat)(σ:List U):aCG fl [nZ.aA l,.func 140 []] σ=some (.bool (l.any kT),σ):=by
 have e1:=Em.cJ (nZ.str l);unfold aCG entry aY;simp only[e1,yAM];rw[dC hl];rfl
theorem aWj(h0:E 139=none)(h1:E 164=some aCF)(l:List Int)(hl:l.length<=1000000):aJ prog E 139 [nZ.aA l,.func 140 []] (Em.bool.aA (l.any kT)):=by
 have hE:=a0I hl;rw[<-aDn kT l 0];refine aJ.aV 9 h0 func139 (h:=?_);simp only[eN]at hE;exact vz
def lU(r:aX):Int:=
 if cV r.name=false\/cV r.o9=false then 8 else if mI r.num r.den≠0 then mI r.num r.den else if ¬(-256<=r.first/\r.first<=256)then 3 else if r.oA.length=0 then 13 else if 128<r.oA.length then 4 else if r.oA.any kT=true then 3 else 0
def RW:Nat->List PD->List U->Option (PD×List U):=entry (aY Em.text Em.bool λs=>bE (s.length<=100000) (some (cV s)))
omit hU in
theorem WJ{s:Dr}(h:s.length<=100000)(fl:Nat)(σ:List U):RW fl [.str s] σ=some (.bool (cV s),σ):=by
 have e1:Em.text.dec (.str s)=some s:=Em.cJ rfl;unfold RW entry aY;exact iu
theorem aWl(h0:E 107=none)(h1:E 139=some aCG)(l:List Int)(hl:l.length<=1000000):aJ prog E 107 [nZ.aA l] (i64.aA (if l.any kT=true then 3 else 0)):=by
 have hE:=a0J hl;simp only[eN]at hE;cases hb:l.any kT with
 |true=>
  rw[hb]at hE;refine aJ.aV 5 h0 func107 (h:=?_);exact vz
 |false=>
  rw[hb]at hE;refine aJ.aV 5 h0 func107 (h:=?_);exact vz
def Z8:Nat->List PD->List U->Option (PD×List U):=entry (aY Em.bB i64 λx=>some (mI x.1 x.2))
omit hU in
theorem aOe(n d:Int)(fl:Nat)(σ:List U):Z8 fl [.agg [.int .i64 n,.int .i64 d]] σ=some (.int .i64 (mI n d),σ):=by
 have e1:Em.bB.dec (.agg [.int .i64 n,.int .i64 d])=some (n,d):=Em.cJ rfl;unfold Z8 entry aY;simp only[e1];rfl
def gFi:Nat->List PD->List U->Option (PD×List U):=entry (aY i64 Em.bool λn=>some (decide (-256<=n)&&decide (n<=256)))
omit hU in
theorem a0K(n:Int)(fl:Nat)(σ:List U):gFi fl [.int .i64 n] σ=some (.bool (decide (-256<=n)&&decide (n<=256)),σ):=by
 have e1:i64.dec (.int .i64 n)=some n:=Em.cJ rfl;unfold gFi entry aY;simp only[e1];rfl
def gWi:Nat->List PD->List U->Option (PD×List U):=entry (aY nZ i64 λl=>bE (l.length<=1000000) (some (if l.any kT=true then 3 else 0)))
omit hU in
theorem a0L{l:List Int}(h:l.length<=1000000)(fl:Nat)(σ:List U):gWi fl [nZ.aA l] σ=some (.int .i64 (if l.any kT=true then 3 else 0),σ):=by
 have e1:=Em.cJ (nZ.str l);unfold gWi entry aY;exact iu
def iA(s:List UInt8):Prop:=s.length<=100000
theorem aWp(h0:E 50=none)(h1:E 49=some RW)(h2:E 105=some Z8)(h3:E 106=some gFi)(h4:E 107=some gWi)(r:aX)(hr:okR r)(hn:iA r.name)(ht:iA r.o9):aJ prog E 50 [Em.bC.aA r] (i64.aA (lU r)):=by
 obtain⟨n,t,a,b,f,w⟩:=r;have e1:=WJ hn;have e2:=WJ ht;have e3:=aOe a b;have e4:=a0K f;have e5:=a0L (show w.length<=1000000 from hr);have hw:w.length<=1000000:=hr;unfold lU;simp only[eN]at e1 e2 e5;simp only[RN,eN];cases c1:cV n with
 |false=>
  rw[c1]at e1;rw[yAJ (.inl rfl)];refine aJ.aV 38 h0 func50 (h:=?_);refine aD (A2 h1 e1) ?_;exact aa
 |true=>
 rw[c1]at e1;cases c2:cV t with
 |false=>
  rw[c2]at e2;rw[yAJ (.inr rfl)];refine aJ.aV 38 h0 func50 (h:=?_);refine aD (A3 h1 e1 e2) ?_;exact aa
 |true=>
 rw[c2]at e2;rw[yAI yo];obtain⟨p,hp⟩:=gn (mI a b);rw[hp]at e3 ⊢
 by_cases c3:p=0
 rotate_left
 .rw[yAJ c3];refine aJ.aV 38 h0 func50 (h:=?_);refine aD (A6 h1 h2 e1 e2 e3 c3) ?_;exact aa
 subst c3;rw[yAI yo]
 by_cases c4:-256<=f/\f<=256
 rotate_left
 .rw[yAJ c4];have gA:(decide (-256<=f)&&decide (f<=256))=false:=by simpa using λh=>Int.not_le.1 (λg=>c4 ⟨h,g⟩)
  rw[gA]at e4;exact wo
 rw[yAI (not_not_intro c4)];have gA:(decide (-256<=f)&&decide (f<=256))=true:=by simpa using c4
 rw[gA]at e4
 by_cases c5:w.length=0
 .rw[yAJ c5];have KQ:(w.length:Int)=0:=ym;have c6:w=[]:=yAf c5;subst c6;exact wo
 rw[yAI c5];have KQ:¬w=[]:=λh=>c5 zn
 by_cases c6:128<w.length
 .rw[yAJ c6];have c7:128<(w.length:Int):=ym;refine aJ.aV 38 h0 func50 (h:=?_);refine aD (A11 h1 h2 h3 e1 e2 e3 e4 c5 KQ c6 c7) ?_;exact aa
 rw[yAI c6];have c7:¬128<(w.length:Int):=ym;obtain⟨q,hq⟩:∃q,(if w.any kT=true then(3:Int)else 0)=q:=⟨_,rfl⟩;rw[hq]at e5 ⊢;refine aJ.aV 38 h0 func50 (h:=?_);refine aD (A13 h1 h2 h3 h4 e1 e2 e3 e4 e5 c5 KQ c6 c7) ?_;exact aa
end
section
def K0(k:Nat):List gU->List gU->Int
 |_,[]=>0
 |pre,d::r=>if d.bC<0\/(k:Int)<=d.bC then 10 else if d.shift < -127\/127<d.shift then 3 else if (pre.any λx=>decide (x=d))=true then 9 else K0 k (pre++[d]) r
def mK(k:Nat)(l:List gU):Int:=if 8<l.length then 4 else K0 k [] l
variable{E:aE}(hU:aG E)
include hU
theorem aWr(h0:E 184=none)(l:List gU)(v:gU)(hl:l.length<=1000000):aJ prog E 184 [oN.aA l,Em.draw.aA v] (i64.aA (lH (λx=>decide (x=v)) l 0)):=by
 obtain⟨B,hB⟩:∃B,lH (λx=>decide (x=v)) l 0=B:=⟨_,rfl⟩;rw[hB];obtain⟨v0,v1⟩:=v;simp only[aCn];refine aJ.aV 19 h0 func184 (h:=?_);refine aD trivial ?_;refine Wp.dK (λm fr σ=>∃(i:Nat),∃gg:Nat->PD,(i+m=l.length/\lH (λx=>decide (x=gU.mk v0 v1)) (l.drop i) i=B)/\fr=[oN.aA l,gg 1,gg 2,.ptr 0 0,gg 4,gg 5,oN.aA l,.int .i64 l.length,.int .i64 i,gg 9,gg 10,gg 11,gg 12,gg 13,gg 14,gg 15,gg 16,gg 17,gg 18]/\σ=[.box (.agg [.int .i64 v0,.int .i64 v1])]) ?_ (l.length) (by refine⟨0,?_⟩;exact bV (⟨ym,hB⟩))
 rintro m fr σ ⟨i,gg,hI,rfl,rfl⟩
 obtain⟨hm,hs⟩:=hI
 by_cases hi:i<l.length
 .have q1:(i:Int)<(l.length:Int):=by omega
  obtain⟨a,ha⟩:=gn (l[i]);have hc:l.drop i=a::l.drop (i+1):=zq;rw[hc]at hs;unfold lH at hs;obtain⟨a0,a1⟩:=a
  by_cases hb:a0=v0
  .by_cases mW:a1=v1
   .rw[yAJ (by rw[hb,mW];simp)]at hs;have fZ:B=(i:Int):=hs.symm;clear hs;refine aD (A5 q1 hi ha hb mW) ?_;exact au
   .rw[yAI (by simpa using λ_=>mW)]at hs;refine aD (An @q1 (An @hi (An @ha (An @hb (An @mW ((yBd mW))))))) ?_;exact ec
  .rw[yAI (by simpa using λh=>absurd h hb)]at hs;refine aD (An @q1 (An @hi (An @ha (An @hb ((yBd hb)))))) ?_;exact ec
 .have q1:¬(i:Int)<(l.length:Int):=by omega
  rw[yAs ym]at hs;have fZ:B=-1:=hs.symm;exact vm
def aCH:Nat->List PD->List U->Option (PD×List U):=entry (cU oN Em.draw i64 λl v=>bE (l.length<=1000000) (some (lH (λx=>decide (x=v)) l 0)))
omit hU in
theorem a0F{l:List gU}{v:gU}(hl:l.length<=1000000)(fl:Nat)(σ:List U):aCH fl [oN.aA l,Em.draw.aA v] σ=some (.int .i64 (lH (λx=>decide (x=v)) l 0),σ):=by
 have e1:=Em.cJ (oN.str l);have e2:=Em.cJ (Em.draw.str v);unfold aCH entry cU;simp only[e1,e2];rw[dC hl];rfl
def aCI:Nat->List PD->List U->Option (PD×List U):=entry (cU oN Em.draw Em.bool λl v=>bE (l.length<=1000000) (some (l.any λx=>decide (x=v))))
omit hU in
theorem a0G{l:List gU}{v:gU}{p:PD}(hl:l.length<=1000000)(hp:p.strip=oN.aA l)(fl:Nat)(σ:List U):aCI fl [p,Em.draw.aA v] σ=some (.bool (l.any λx=>decide (x=v)),σ):=by
 have e1:=Em.cJ hp;have e2:=Em.cJ (Em.draw.str v);unfold aCI entry cU;simp only[e1,e2];rw[dC hl];rfl
theorem aWt(h0:E 165=none)(h1:E 184=some aCH)(l:List gU)(v:gU)(hl:l.length<=1000000):aJ prog E 165 [oN.aA l,Em.draw.aA v] (Em.bool.aA (l.any λx=>decide (x=v))):=by
 have hE:=a0F (v:=v) hl;rw[<-aDn _ l 0];simp only[eN,aCn]at hE;simp only[aCn];refine aJ.aV 9 h0 func165 (h:=?_);exact vz
theorem aWv(h0:E 142=none)(h1:E 165=some aCI)(rs:List aX)(hrs:rs.length<=1000000)(lo hg:Int)(l:List gU)(hl:l.length<=1000000) :
  aJ prog E 142 [.agg [aU.aA rs,.int .i64 lo,.int .i64 hg],oN.aA l] (i64.aA (mK rs.length l)):=by
 unfold mK
 by_cases c:8<l.length
 .have c1:8<(l.length:Int):=by omega
  rw[yAJ c];refine aJ.aV 45 h0 func142 (h:=?_);refine aD (A2 @c c1) ?_;exact aa
 have c1:¬8<(l.length:Int):=ym;rw[yAI c];obtain⟨B,hB⟩:=gn (K0 rs.length [] l);rw[hB];refine aJ.aV 45 h0 func142 (h:=?_);refine aD (A2 @c c1) ?_;obtain⟨X,hX⟩:=gn (U.box (.agg [.slice (sz 6 rs) (rs.map Em.bC.aA) .any,.int .i64 lo,.int .i64 hg]));refine Wp.dK (λm fr σ=>∃(i:Nat) (σ1:List U),∃gg:Nat->PD,(i+m=l.length/\σ1[0]?=some X/\K0 rs.length (l.take i) (l.drop i)=B)/\fr=[gg 0,oN.aA l,.ptr 0 0,gg 3,gg 4,gg 5,gg 6,gg 7,gg 8,gg 9,oN.aA l,.int .i64 l.length,.int .i64 i,gg 13,gg 14,gg 15,gg 16,gg 17,gg 18,gg 19,gg 20,gg 21,gg 22,gg 23,gg 24,gg 25,gg 26,gg 27,gg 28,gg 29,gg 30,gg 31,gg 32,gg 33,gg 34,gg 35,gg 36,gg 37,gg 38,gg 39,gg 40,gg 41,gg 42,gg 43,gg 44]/\σ=σ1) ?_ (l.length) (by refine⟨0,[X],?_⟩;exact fL (⟨ym,rfl,hB⟩) @hX)
 rintro m fr σ ⟨i,σ1,gg,hI,rfl,rfl⟩
 obtain⟨hm,hx0,hs⟩:=hI
 by_cases hi:i<l.length
 .have q1:(i:Int)<(l.length:Int):=by omega
  obtain⟨a,ha⟩:=gn (l[i]);have hc:l.drop i=a::l.drop (i+1):=zq;rw[hc]at hs;unfold K0 at hs;obtain⟨a0,a1⟩:=a;have fP:0<σ.length:=(yA.1 hx0).1;have j0:∀x:U,(σ++[x])[σ.length]?=some x:=λx=>yo
  have j1:∀x:U,(σ++[x])[0]?=some X:=λx=>Aw
  rw[<-hX]at j1;have hx1:=hx0;rw[<-hX]at hx1;obtain⟨hltx,hxe⟩:=yA.1 hx1
  by_cases c2:a0<0
  .rw[yAJ (.inl c2)]at hs;subst hs;refine aD (A9 q1 hi ha j0 j1 hx1 fP hxe c2) ?_;exact aa
  by_cases c3:(rs.length:Int)<=a0
  .rw[yAJ (.inr c3)]at hs;subst hs;refine aD (A10 q1 hi ha j0 j1 hx1 fP hxe c2 c3) ?_;exact aa
  rw[yAI (λh=>h.elim c2 c3)]at hs
  by_cases c4:a1 < -127
  .rw[yAJ (.inl c4)]at hs;subst hs;refine aD (A11 q1 hi ha j0 j1 hx1 fP hxe c2 c3 c4) ?_;exact aa
  by_cases c5:127<a1
  .rw[yAJ (.inr c5)]at hs;subst hs;refine aD (A12 q1 hi ha j0 j1 hx1 fP hxe c2 c3 c4 c5) ?_;exact aa
  rw[yAI (λh=>h.elim c4 c5)]at hs;have hsl:(PD.slice (sz 2 l) ((l.map Em.draw.aA).take i) .any).strip=oN.aA (l.take i):=by
   rw[PD.lD,<-yCG,show((l.take i).map Em.draw.aA).map PD.strip=(l.take i).map Em.draw.aA by rw[yBc];exact yAG λx _=>Em.draw.str x];have hne:l≠[]:=λh=>by rw[h]at hi;simp at hi
   rw[eN];simp[sz,hne]
  have hE:=a0G (v:=⟨a0,a1⟩) (l:=l.take i) (p:=PD.slice (sz 2 l) ((l.map Em.draw.aA).take i) .any) Ah hsl;simp only[aCn]at hE;have hle:i<=l.length:=ym;have htk:l.take (i+1)=l.take i++[⟨a0,a1⟩]:=by rw[yBX hi,ha]
  cases hb:(l.take i).any λx=>decide (x=gU.mk a0 a1)with
  |true=>
   rw[hb]at hE hs;rw[yAJ rfl]at hs;subst hs;refine aD xw ?_;exact aa
  |false=>
   rw[hb]at hE hs;rw[yAI yx]at hs;refine aD xw ?_;refine aL.normal (m-1) ym (by refine⟨i+1,σ++[.box (.agg [.int .i64 a0,.int .i64 a1])],?_⟩;exact bV (⟨ym,Aw,by rw[htk];exact hs⟩))
 .have q1:¬(i:Int)<(l.length:Int):=by omega
  rw[yAs ym]at hs;have fZ:B=0:=hs.symm;exact vm
end
section
def WB(r:aX):Prop:=okR r/\iA r.name/\iA r.o9
def K9:List aX->Int
 | []=>0
 |r::t=>if lU r≠0 then lU r else K9 t
def HV(rs:List aX)(lo hg:Int):Int:=if 60<rs.length then 4 else if K9 rs≠0 then K9 rs else kB lo hg
def Z9:Nat->List PD->List U->Option (PD×List U):=entry (aY Em.bC i64 λr=>bE (WB r) (some (lU r)))
theorem aN7{r:aX}(h:WB r)(fl:Nat)(σ:List U):Z9 fl [Em.bC.aA r] σ=some (.int .i64 (lU r),σ):=by
 have e1:=Em.cJ (Em.bC.str r);unfold Z9 entry aY;exact iu
def VI:Nat->List PD->List U->Option (PD×List U):=entry (aY Em.bB i64 λx=>some (kB x.1 x.2))
theorem aHC(n d:Int)(fl:Nat)(σ:List U):VI fl [.agg [.int .i64 n,.int .i64 d]] σ=some (.int .i64 (kB n d),σ):=by
 have e1:Em.bB.dec (.agg [.int .i64 n,.int .i64 d])=some (n,d):=Em.cJ rfl;unfold VI entry aY;simp only[e1];rfl
variable{E:aE}(hU:aG E)
include hU
theorem aWx(h0:E 141=none)(h1:E 50=some Z9)(h2:E 108=some VI)(rs:List aX)(hrs:∀r∈rs,WB r)(hrl:rs.length<=1000000)(lo hg:Int) :
  aJ prog E 141 [.agg [aU.aA rs,.int .i64 lo,.int .i64 hg]] (i64.aA (HV rs lo hg)):=by
 unfold HV
 by_cases c:60<rs.length
 .have c1:60<(rs.length:Int):=by omega
  rw[yAJ c];refine aJ.aV 26 h0 func141 (h:=?_);refine aD (A2 @c c1) ?_;exact aa
 have c1:¬60<(rs.length:Int):=ym;rw[yAI c];obtain⟨B,hB⟩:=gn ((if K9 rs≠0 then K9 rs else kB lo hg));rw[hB];have hC:=aHC lo hg;refine aJ.aV 26 h0 func141 (h:=?_);refine aD (A2 @c c1) ?_;obtain⟨X,hX⟩:=gn (U.box (.agg [.slice (sz 6 rs) (rs.map Em.bC.aA) .any,.int .i64 lo,.int .i64 hg]));refine Wp.dK (λm fr σ=>∃(i:Nat) (σ1:List U),∃gg:Nat->PD,(i+m=rs.length/\σ1[0]?=some X/\(if K9 (rs.drop i)≠0 then K9 (rs.drop i)else kB lo hg)=B)/\fr=[gg 0,.ptr 0 0,gg 2,gg 3,gg 4,gg 5,gg 6,gg 7,gg 8,gg 9,gg 10,aU.aA rs,.int .i64 rs.length,.int .i64 i,gg 14,gg 15,gg 16,gg 17,gg 18,gg 19,gg 20,gg 21,gg 22,gg 23,gg 24,gg 25]/\σ=σ1) ?_ (rs.length) (by refine⟨0,[X],?_⟩;exact fL (⟨ym,rfl,hB⟩) @hX)
 rintro m fr σ ⟨i,σ1,gg,hI,rfl,rfl⟩
 obtain⟨hm,hx0,hs⟩:=hI;have hx1:=hx0;rw[<-hX]at hx1;obtain⟨fP,hxe⟩:=yA.1 hx1
 by_cases hi:i<rs.length
 .have q1:(i:Int)<(rs.length:Int):=by omega
  obtain⟨a,ha⟩:=gn (rs[i]);have hc:rs.drop i=a::rs.drop (i+1):=zq;rw[hc]at hs;unfold K9 at hs;have hE:=aN7 (hrs a (ha▸yAm hi));have j0:∀x:U,(σ++[x])[σ.length]?=some x:=λx=>yo
  obtain⟨e,he⟩:=gn (lU a);rw[he]at hE hs;simp only[RN,eN]at hE
  by_cases c2:e=0
  .subst c2;simp only[ne_eq,yBr,yAO]at hs;refine aD (A6 q1 hi ha j0 h1 hE) ?_;refine aL.normal (m-1) ym (by refine⟨i+1,σ++[.box (.agg [.str a.name,.str a.o9,.int .i64 a.num,.int .i64 a.den,.int .i64 a.first,.slice (sz 1 a.oA) (a.oA.map i64.aA) .any])],?_⟩;exact bV (⟨ym,Aw,hs⟩))
  .simp only[ne_eq,c2,yCu,yAM]at hs;subst hs;refine aD (A7 q1 hi ha j0 h1 hE c2) ?_;exact aa
 .have q1:¬(i:Int)<(rs.length:Int):=by omega
  rw[yAs ym]at hs;have hs2:kB lo hg=B:=hs;rw[hs2]at hC;refine aD (A6 q1 hx1 fP hxe h2 hC) ?_;exact aa
end
end Go.Kz
namespace Go.Kz
section
open Go
section
variable{P:Program}{call:b9}{fl:Nat}{ops:Du}{l:List Oper}{fr aH:Dq}{σ σ1:Dp}{K:List PD->List U->Prop}
variable{dst:Option Tmp}{x y z:Operand}{t ty:TypeId}{pos:String}{edges:Array Edge}{guard:Option (Nat×Bool)}{p q v r:PD}{ok:Bool}
theorem SL.lookup(hw:Wt (Region.wanted ⟨dst,.lookup t x y ok,ty,pos,edges,guard⟩ (bA ops fr)=true))(hx:bF fr x=some p)(hy:bF fr y=some q)(hr:By (UZ P σ t p q ok=some r))(hf:Fr (aM fr dst r=aH))(k:SQ P call fl ops l aH σ K) :
  SQ P call fl ops (⟨dst,.lookup t x y ok,ty,pos,edges,guard⟩::l) fr σ K:=
 .step hw.h (ES rfl rfl (by simp only[cO,cS hx,cS hy,hr.h])) (hf.h▸k)
theorem SL.mapUpdate(hw:Wt (Region.wanted ⟨dst,.mapUpdate t x y z,ty,pos,edges,guard⟩ (bA ops fr)=true))(hx:bF fr x=some p)(hy:bF fr y=some q)(hz:bF fr z=some v)(hr:By (U0 P fl σ t p q v=some σ1))(hf:Fr (aM fr dst (.aI [])=aH))(k:SQ P call fl ops l aH σ1 K) :
  SQ P call fl ops (⟨dst,.mapUpdate t x y z,ty,pos,edges,guard⟩::l) fr σ K:=
 .step hw.h (ES rfl rfl (by simp only[cO,cS hx,cS hy,cS hz,hr.h])) (hf.h▸k)
theorem SL.makeMap{kt e:TypeId}(hw:Wt (Region.wanted ⟨dst,.makeMap t none,ty,pos,edges,guard⟩ (bA ops fr)=true))(hx:By (P.underlying t=some (.map kt e)))(hr:Ns (σ++[.map []]=σ1)){n:Nat}(hn:Ns (σ.length=n))(hf:Fr (aM fr dst (.fA n)=aH))(k:SQ P call fl ops l aH σ1 K) :
  SQ P call fl ops (⟨dst,.makeMap t none,ty,pos,edges,guard⟩::l) fr σ K:=by
 obtain⟨rfl⟩:=hr.h;obtain⟨rfl⟩:=hn.h;exact .step hw.h (ES rfl rfl (by simp only[cO,hx.h])) (hf.h▸k)
end
theorem lW{X R G:Prop}(gx:X)(r:R)(h:X->Hd R->G:=by
  (intro gx hh
   (repeat(first
    |(refine Fr.i ?_;simp only[aM,yAT,yAU];try rfl)
    |(refine By.i ?_;(focus(simp(disch:=first|omega|(simp;done)|(simp;omega)) [wrap_i64,wrap_u64,gx,entry,UF,aY,cU,UG];first|done|rfl|exact⟨rfl,rfl⟩)))
    |(refine By.i ?_;simp(disch:=first|omega|(simp;done)|(simp;omega)) [wrap_i64,wrap_u64,gx,entry,UF,aY,cU,UG];refine⟨yw,rfl⟩)
    |(refine Wt.i ?_;first|rfl|(focus(simp[gx,entry,UF,aY,cU,UG];done)))
    |(refine Ns.i ?_;(try simp only[yAl,yAQ,yAR,yAi,yAa,yAK,yAL,yAp,Nat.reduceAdd]);rfl)|rfl
    |(apply SL.pass;(focus(refine Wt.i ?_;rfl)))|(apply SL.RI;(focus decide +kernel))|(apply tu;(focus rfl))|apply SL.move|apply SL.assign|apply SL.load|apply SL.gC|apply tu|apply SL.make
    |apply SL.binOp|apply SL.append|apply tu|apply SL.builtin|apply SL.fieldAddr|apply SL.indexAddr|apply SL.field|apply SL.extract|apply SL.gD|apply SL.pick|apply SL.store|apply SL.unOp|apply SL.convert|apply SL.index
    |apply SL.slice|apply SL.build|apply SL.nilCheck|apply SL.buildSlice|apply SL.box|apply SL.alloc|apply SL.makeFunc|apply SL.lookup|apply SL.mapUpdate|apply SL.makeMap|apply SQ.nil|(apply WL.kN;(focus decide +kernel))
    |(apply WL.eI yq;(focus decide +kernel);(focus decide +kernel))|(apply WL.jP;(focus decide +kernel);(focus decide +kernel))|(apply WL.lC;(focus decide +kernel))
    |(apply WL.lA yq;(focus decide +kernel);(focus decide +kernel))|(apply WL.lB;(focus decide +kernel);(focus decide +kernel))|(apply WL.kZ yq;(focus decide +kernel);(focus decide +kernel))
    |(apply WL.kY yq;(focus decide +kernel);(focus decide +kernel))|(apply WL.lZ yq;(focus decide +kernel);(focus decide +kernel))
    |(apply tu yq;(focus decide +kernel);(focus decide +kernel))|apply tu|(apply WL.ct;(focus rfl))|(apply WL.cf;(focus rfl))|refine aS.normal ?_|refine aS.ret ?_|refine aS.exit ?_
    |refine aO.normal ?_|refine aO.ret ?_|refine aO.here ?_|refine aO.there yx ?_|refine Wp.block ?_|refine Wp.skip ?_|refine Wp.ret ?_|refine Wp.exit ?_|refine aL.ret ?_|refine aL.exit ?_
    |refine tu ?_|refine tu ?_|refine tu ?_|refine Wp.seq (Wp.seq ?_)|refine Wp.seq (Wp.block ?_)|(refine Wp.seq ?_;apply WL.ct;(focus rfl))|(refine Wp.seq ?_;apply WL.cf;(focus rfl))))
   exact hh.out)):G:=h gx ⟨r⟩
end
end Go.Kz
namespace Go.Kz
open Go Go.Proofs
section
def SP(pv:Option Int)(n:Int):Bool:=match pv with|none=>false|some t=>decide (n<=t)
def KZ(k:Nat)(lo hg:Int):Option Int->List jV->Int
 |_,[]=>0
 |pv,g::r=>if min g.lo g.hi<lo\/hg<max g.lo g.hi then 23 else if g.hi<g.lo\/SP pv g.lo=true then 6 else if mK k g.oB≠0 then mK k g.oB else KZ k lo hg (some g.hi) r
def aAP(l:List jV):Nat->Option Int
 |0=>none
 |j+1=>(l[j]?).map jV.hi
def HS(k:Nat)(lo hg:Int)(l:List jV):Int:=if l.length=0 then 13 else if 12<l.length then 4 else KZ k lo hg none l
def rJ(rs:List aX)(lo hg:Int)(s:cM):Int:=
 if HV rs lo hg≠0 then HV rs lo hg else if cV s.name=false then 8 else if mI s.num s.den≠0 then mI s.num s.den else HS rs.length lo hg s.yF
def bJ.place:bJ (List aX×Int×Int):=((bJ.one aU).pair ((bJ.one i64).pair (.one i64))).nQ (λr=>(r.1,r.2.1,r.2.2)) (λx y h=>by obtain⟨_,_,_⟩:=x;obtain⟨_,_,_⟩:=y;simpa using h)
def Em.place:Em (List aX×Int×Int):=.agg .place
@[simp] theorem aHB{r:List aX×Int×Int}:Em.place.aA r=.agg [aU.aA r.1,.int .i64 r.2.1,.int .i64 r.2.2]:=rfl
def NT(rs:List aX):Prop:=(∀r∈rs,WB r)/\rs.length<=1000000
def aCJ:Nat->List PD->List U->Option (PD×List U):=entry (aY Em.place i64 λx=>bE (NT x.1) (some (HV x.1 x.2.1 x.2.2)))
theorem a0D{rs:List aX}(h:NT rs)(lo hg:Int)(fl:Nat)(σ:List U):aCJ fl [.agg [aU.aA rs,.int .i64 lo,.int .i64 hg]] σ=some (.int .i64 (HV rs lo hg),σ):=by
 have e1:=Em.cJ (Em.place.str (rs,lo,hg));rw[aHB]at e1;unfold aCJ entry aY;exact iu
def gDr:Nat->List PD->List U->Option (PD×List U):=entry (cU Em.place oN i64 λx l=>bE (x.1.length<=1000000/\l.length<=1000000) (some (mK x.1.length l)))
theorem a0E{rs:List aX}{l:List gU}(h:rs.length<=1000000)(hl:l.length<=1000000)(lo hg:Int)(fl:Nat)(σ:List U):gDr fl [.agg [aU.aA rs,.int .i64 lo,.int .i64 hg],oN.aA l] σ=some (.int .i64 (mK rs.length l),σ):=by
 have e1:=Em.cJ (Em.place.str (rs,lo,hg));rw[aHB]at e1;have e2:=Em.cJ (oN.str l);unfold gDr entry cU;simp only[e1,e2];rw[dC ⟨h,hl⟩];rfl
variable{E:aE}(hU:aG E)
include hU
theorem aWz(h0:E 109=none)(h1:E 141=some aCJ)(h2:E 49=some RW)(h3:E 105=some Z8)(h4:E 142=some gDr)(rs:List aX)(hrs:NT rs)(lo hg:Int)(s:cM)(hs:okS s)(hn:iA s.name) :
  aJ prog E 109 [.agg [aU.aA rs,.int .i64 lo,.int .i64 hg],Em.stop.aA s] (i64.aA (rJ rs lo hg s)):=by
 obtain⟨n,a,b,l⟩:=s;have e1:=a0D hrs lo hg;have e2:=WJ hn;have e3:=aOe a b;have hl:l.length<=1000000:=hs.1;unfold rJ;obtain⟨p,hp⟩:=gn (HV rs lo hg);obtain⟨q,hq⟩:=gn (mI a b);rw[hp]at e1 ⊢;simp only[eN]at e1;simp only[hq]at e3 ⊢;simp only[PE,eN]
 by_cases c1:p=0
 rotate_left
 .rw[yAJ c1];refine aJ.aV 94 h0 func109 (h:=?_);refine aD (A3 h1 e1 c1) ?_;exact aa
 subst c1;simp only[ne_eq,yBr,yAO];cases c2:cV n with
 |false=>
  simp only at e2;rw[c2]at e2;rw[yAJ rfl];refine aJ.aV 94 h0 func109 (h:=?_);refine aD (A4 h1 h2 e1 e2) ?_;exact aa
 |true=>
 simp only at e2;rw[c2]at e2;rw[yAI yo]
 by_cases c3:q=0
 rotate_left
 .rw[yAJ c3];refine aJ.aV 94 h0 func109 (h:=?_);refine aD (A7 h1 h2 h3 e1 e2 e3 c3) ?_;exact aa
 subst c3;simp only[yBr,yAO];unfold HS
 by_cases c4:l.length=0
 .rw[yAJ c4];have c6:l=[]:=yAf c4;subst c6;refine aJ.aV 94 h0 func109 (h:=?_);refine aD (A6 h1 h2 h3 e1 e2 e3) ?_;exact aa
 rw[yAI c4];have gA:¬l=[]:=λh=>c4 zn
 by_cases c5:12<l.length
 .rw[yAJ c5];have c6:12<(l.length:Int):=ym;refine aJ.aV 94 h0 func109 (h:=?_);refine aD (A10 h1 h2 h3 e1 e2 e3 c4 gA c5 c6) ?_;exact aa
 rw[yAI c5];have c6:¬12<(l.length:Int):=ym;obtain⟨B,hB⟩:=gn (KZ rs.length lo hg none l);rw[hB];refine aJ.aV 94 h0 func109 (h:=?_);refine aD (A10 h1 h2 h3 e1 e2 e3 c4 gA c5 c6) ?_;obtain⟨X,hX⟩:=gn (U.box (.agg [.slice (sz 6 rs) (rs.map Em.bC.aA) .any,.int .i64 lo,.int .i64 hg]));obtain⟨Y,hY⟩:=gn (U.box (.agg [.str n,.int .i64 a,.int .i64 b,.slice (sz 3 l) (l.map Em.cK.aA) .any]));refine Wp.dK (λm fr σ=>∃(i:Nat) (σ1:List U),∃gg:Nat->PD,(i+m=l.length/\σ1[0]?=some X/\σ1[1]?=some Y/\KZ rs.length lo hg (aAP l i) (l.drop i)=B)/\fr=gg 0::gg 1::.ptr 0 0::.ptr 1 0::gg 4::gg 5::gg 6::gg 7::gg 8::gg 9::gg 10::gg 11::gg 12::gg 13::gg 14::gg 15::gg 16::gg 17::gg 18::gg 19::gg 20::gg 21::gg 22::gg 23::gg 24::gg 25::gg 26::gg 27::gg 28::gg 29::gg 30::gg 31::gg 32::gg 33::gg 34::gg 35::aCo.aA l::.int .i64 l.length::.int .i64 i::gg 39::gg 40::gg 41::gg 42::gg 43::gg 44::gg 45::gg 46::gg 47::gg 48::gg 49::gg 50::gg 51::gg 52::gg 53::gg 54::gg 55::gg 56::gg 57::gg 58::gg 59::gg 60::gg 61::gg 62::gg 63::gg 64::gg 65::gg 66::gg 67::gg 68::gg 69::gg 70::gg 71::gg 72::gg 73::gg 74::gg 75::gg 76::gg 77::gg 78::gg 79::gg 80::gg 81::gg 82::gg 83::gg 84::gg 85::gg 86::gg 87::gg 88::gg 89::gg 90::gg 91::gg 92::gg 93::[]/\σ=σ1) ?_ (l.length) (by refine⟨0,[X,Y],?_⟩;exact fL (⟨ym,rfl,rfl,hB⟩) (A2 hX hY))
 rintro m fr σ ⟨i,σ1,gg,hI,rfl,rfl⟩
 obtain⟨hm,hx0,hy0,hs2⟩:=hI
 by_cases hi:i<l.length
 .have q1:(i:Int)<(l.length:Int):=by omega
  obtain⟨g,mE⟩:=gn (l[i]);have hc:l.drop i=g::l.drop (i+1):=by rw[yAq hi,mE]
  have hpv:aAP l (i+1)=some g.hi:=by
   show(l[i]?).map jV.hi=_
   rw[yAh hi,mE];rfl
  rw[hc]at hs2;unfold KZ at hs2;have hgm:g∈l:=mE▸yAm hi
  have hgl:g.oB.length<=1000000:=hs.2 g hgm;have hD:=a0E hrs.2 hgl lo hg;have hx1:=hx0;have hy1:=hy0;rw[<-hX]at hx1;rw[<-hY]at hy1;obtain⟨fP,hxe⟩:=yA.1 hx1;obtain⟨kP,hye⟩:=yA.1 hy1;obtain⟨g0,g1,gd⟩:=g;simp only[eN]at hD;simp only at hs2 hpv hgl hD;have j0:∀x:U,(σ++[x])[σ.length]?=some x:=λx=>yo
  obtain⟨MN,hMN⟩:=gn (min g0 g1);obtain⟨MX,hMX⟩:=gn (max g0 g1);have hmn:(if g1<g0 then g1 else g0)=MN:=by rw[<-hMN];split<;>omega
  have hmx:(if g0<g1 then g1 else g0)=MX:=by rw[<-hMX];split<;>omega
  rw[hMN,hMX]at hs2
  by_cases c7:MN<lo
  .rw[yAJ (.inl c7)]at hs2;subst hs2;refine aD (A13 q1 hi mE j0 hx1 hy1 fP kP hxe hye hmn hmx c7) ?_;exact aa
  by_cases c8:hg<MX
  .rw[yAJ (.inr c8)]at hs2;subst hs2;refine aD (A14 q1 hi mE j0 hx1 hy1 fP kP hxe hye hmn hmx c7 c8) ?_;exact aa
  rw[yAI (λh=>h.elim c7 c8)]at hs2
  by_cases c9:g1<g0
  .rw[yAJ (.inl c9)]at hs2;subst hs2;have c9':¬g0<g1:=ym;have d7:¬g1<lo:=ym;have d8:¬hg<g0:=ym;refine aD (A14 q1 hi mE j0 hx1 hy1 fP kP hxe hye c9 c9' @d7 @d8) ?_;exact aa
  have d7:¬g0<lo:=ym;have d8:¬hg<g1:=ym;have hm2:(if g0<g1 then g1 else g0)=g1:=by split<;>omega
  clear hmn hmx hMN hMX c7 c8;obtain⟨dr,hdr⟩:=gn (mK rs.length gd);rw[hdr]at hD hs2;obtain⟨Z,hZ⟩:=gn (U.box (.agg [.int .i64 g0,.int .i64 g1,.slice (sz 2 gd) (gd.map Em.draw.aA) .any]))
  by_cases ci:i=0
  .subst ci;rw[show aAP l 0=none from rfl,yAI (λh=>h.elim c9 (by simp[SP]))]at hs2
   by_cases yW:dr=0
   .subst yW;simp only[ne_eq,yBr,yAO]at hs2;refine aD (A16 q1 hi mE j0 hx1 hy1 fP kP hxe hye c9 hm2 @d7 @d8 h4 hD) ?_;refine aL.normal (m-1) ym (by refine⟨1,σ++[Z],?_⟩;exact fL (⟨ym,Aw,by rw[yAg kP];exact hy0,by rw[show aAP l 1=some g1 from hpv];exact hs2⟩) @hZ)
   .simp only[ne_eq,yW,yCu,yAM]at hs2;subst hs2;refine aD (A17 q1 hi mE j0 hx1 hy1 fP kP hxe hye c9 hm2 @d7 @d8 h4 hD yW) ?_;exact aa
  .obtain⟨j,hji⟩:∃j,i=j+1:=⟨i-1,ym⟩;have hj:j<l.length:=ym;obtain⟨p,nS⟩:=gn (l[j]);have hpo:aAP l i=some p.hi:=by
    rw[hji];show(l[j]?).map jV.hi=_
    rw[yAh hj,nS];rfl
   rw[hpo]at hs2;obtain⟨p0,p1,pd⟩:=p;have w1:IntKind.i64.wrap ((i:Int)-1)=(j:Int):=zd;have q3:0<i:=ym
   by_cases K8:g0<=p1
   .rw[yAJ (.inr (by simpa [SP]using K8))]at hs2;subst hs2;refine aD (A19 q1 hi mE j0 hx1 hy1 fP kP hxe hye c9 hm2 @d7 @d8 q3 w1 hj nS K8) ?_;exact aa
   rw[yAI (λh=>h.elim c9 (by simpa [SP]using K8))]at hs2
   by_cases yW:dr=0
   .subst yW;simp only[ne_eq,yBr,yAO]at hs2;refine aD (A20 q1 hi mE j0 hx1 hy1 fP kP hxe hye c9 hm2 @d7 @d8 h4 hD q3 w1 hj (A2 nS K8)) ?_;refine aL.normal (m-1) ym (by refine⟨i+1,σ++[Z],?_⟩;exact fL (⟨ym,Aw,by rw[yAg kP];exact hy0,by rw[hpv];exact hs2⟩) @hZ)
   .simp only[ne_eq,yW,yCu,yAM]at hs2;subst hs2;refine aD (A20 q1 hi mE j0 hx1 hy1 fP kP hxe hye c9 hm2 @d7 @d8 h4 hD q3 w1 hj (A3 nS K8 yW)) ?_;exact aa
 .have q1:¬(i:Int)<(l.length:Int):=by omega
  rw[yAs ym]at hs2;have fZ:B=0:=hs2.symm;exact vm
end
end Go.Kz
namespace Go.Kz
section
open Go Go.Proofs Go.RowKit
def aHJ:List PD->Option PD:=λargs=>match args with
 | [.str l,.int .i64 n]=>if 0<=n/\n<=1000/\l.length<=1000 then some (.str (Lib.repeatL l n.toNat))else none
 |_=>none
def aHK:List PD->Option PD:=λargs=>match args with
 | [.str a,.str b]=>some (.int .i64 (Lib.compareBytes a b))
 |_=>none
theorem a0Y{w w':World}(h:Below w.heap.size w w'):w.grownBy w' none:=⟨h.os,h.tape,h.output,h.size,λk hk _=>h.block k hk⟩
theorem a0Z{E:aE}(hE:aF prog E):aF prog (E.add 191 (entry aHJ)):=by
 refine hE.J5 ⟨_,func191,rfl⟩ λargs c vs p hg hs hv=>?_
 unfold aHJ at hg;split at hg
 .rename_i l n;split at hg
  .rename_i hc;obtain⟨h0,h1,h2⟩:=hc;simp only[yAb]at hg;subst hg;obtain⟨v,u,rfl,q1,q2⟩:=MI hv;rw[q1.EL,q2.int_eq];obtain⟨k,rfl⟩:∃k:Nat,n=k:=⟨n.toNat,ym⟩;have hle:(⟨l.toArray⟩:ByteArray).size*k<=140737488355328:=by
    have hsz:(⟨l.toArray⟩:ByteArray).size=l.length:=Aj;rw[hsz];have:l.length*k<=1000*1000:=Nat.mul_le_mul h2 ym;omega
   refine yBp (Tryz.strings_Repeat ⟨l.toArray⟩ k c.w ym hle) λe w' he=>?_
   obtain⟨rfl,hb⟩:=he;exact⟨_,rfl,a0Y hb,λ_=>.str _⟩
  .cases hg
 .cases hg
theorem a00{E:aE}(hE:aF prog E):aF prog (E.add 183 (entry aHK)):=by
 refine hE.J5 ⟨_,func183,rfl⟩ λargs c vs p hg hs hv=>?_
 unfold aHK at hg;split at hg
 .rename_i a b;simp only[yAb]at hg;subst hg;obtain⟨v,u,rfl,q1,q2⟩:=MI hv;rw[q1.EL,q2.EL];refine yBp (Tryz.strings_Compare ⟨a.toArray⟩ ⟨b.toArray⟩ c.w) λe w' he=>?_
  exact uq
 .cases hg
def Bs0:aE:=aE.nil
theorem a01:aF prog Bs0:=⟨λ_ hg=>Ao,λ_ hg=>Ao⟩
def Bs1:aE:=Bs0.add 137 aEs
theorem a02:aF prog Bs1:=aRK a01
def Bs2:aE:=Bs1.add 47 aEt
theorem a03:aF prog Bs2:=aRL a02
def Bs3:aE:=Bs2.add 191 (entry aHJ)
theorem a04:aF prog Bs3:=a0Z a03
def Bs4:aE:=Bs3.add 183 (entry aHK)
theorem a0X:aF prog Bs4:=a00 a04
end
end Go.Kz
namespace Go.Proofs
open Go Go.Shelf Go.RowKit Go.Sort Go.Lib
set_option maxHeartbeats 6400000 in
set_option maxRecDepth 100000 in
theorem Tryz.a0T(u:Nat)(hu64:u<18446744073709551616)(w:World)(htab:Lib.TabIs prog w "internal/strconv.uint64pow10" .u64 Lib.pow10Tab) :
  Calls prog 196 #[.int .u64 u,.int .i64 10] w fun e w'=>e=.returned (.string ⟨(Lib.decDigits u).toArray⟩)/\∃k os,w'=grow (w.drewN k) os:=by
 have mixed:prog.follows .mixedOrders=true:=by kernel_rfl
 have t3:=underlying3;have a3:=Tryz.isAgg3;have z3:=Tryz.sizeOf3;have v3:=Tryz.zeroValue3
 have t9:=underlying9;have a9:=Tryz.isAgg9;have z9:=Tryz.sizeOf9;have v9:=Tryz.zeroValue9
 have t4:=underlying4;have a4:=Tryz.isAgg4;have z4:=Tryz.sizeOf4;have v4:=Tryz.zeroValue4
 have t171:=underlying224;have a171:=Tryz.isAgg224;have z171:=Tryz.sizeOf224;have v171:=Tryz.zeroValue224
 have t53:=underlying96;have a53:=Tryz.isAgg96;have z53:=Tryz.sizeOf96;have v53:=Tryz.zeroValue96
 have t37:=underlying45;have a37:=Tryz.isAgg45;have z37:=Tryz.sizeOf45;have v37:=Tryz.zeroValue45
 have t5:=underlying5;have a5:=Tryz.isAgg5;have z5:=Tryz.sizeOf5;have v5:=Tryz.zeroValue5
 have a8Q:∀args w,(callFunc 150 args).run prog w=.ok (.enter 150 args) w:=enters_of func150 (by kernel_rfl) rfl
 have a8R:∀args w,(callFunc 151 args).run prog w=.ok (.enter 151 args) w:=enters_of func151 (by kernel_rfl) rfl
 have a8S:∀args w,(callFunc 152 args).run prog w=.ok (.enter 152 args) w:=enters_of func152 (by kernel_rfl) rfl
 by_cases hs:u<100
 ·have hws:IntKind.i64.wrap (u:Int)=(u:Int):=by rw[IntKind.wrap_i64];omega
  have hlt:(u:Int)<100:=by omega
  go_enter func196,Tryz.ntmps196
  go_wp2_with (go_at_fn 150;refine(Tryz.internal_strconv_small u hs _).mono ?_;rintro e w' ⟨rfl,rfl⟩)
  go_ret
  exact⟨rfl,0,#[],by simp[World.drewN_zero]⟩
 ·have hu1:1<=u:=by omega
  have hnlt:¬(u:Int)<100:=by omega
  have hnd20:Lib.nDigits u<=20:=by have:=Lib.numDigits_eq u hu1 hu64;split at this<;>omega
  have hal:prog.arrayLen 224=24:=by simp[Program.arrayLen,underlying224]
  have a8T:∀W,(Instr.sliceAt 224 (.pointer (some ⟨w.heap.size,0,none⟩)) none (some (.int .i64 (Lib.nDigits u:Int))) none).run prog W=.ok (.slice (some ⟨w.heap.size,0,none⟩) (Lib.nDigits u) 24) W:=fun W=>by
   rw[run_sliceAt_array_h W 224 ⟨w.heap.size,0,none⟩ (by simp[Program.arrayLen,Program.elem,underlying224]) .i64 (Lib.nDigits u:Int) (by omega) (by rw[hal];omega)]
   go_simp
  have hH0:Holds (fun(b:UInt8)=>Value.int .u8 (b.toNat:Int)) (w.alloc (.cells Lib.zeros24 224)) w.heap.size 0 (Array.replicate (Lib.nDigits u) 0):=
   Lib.holds_zero0 w _ _ (by omega)
  have hfmt:=Tryz.internal_strconv_formatBase10 w.heap.size 0 24 u (Array.replicate (Lib.nDigits u) 0) (w.alloc (.cells Lib.zeros24 224)) hH0 (by rw[Array.size_replicate];exact Lib.lt_pow_nDigits u) hu64 (by rw[Array.size_replicate];omega)
  rw[Array.size_replicate]at hfmt
  have HH0:=Lib.hid hH0
  clear hH0 hal
  go_enter func196,Tryz.ntmps196
  go_wp2_with (first
   |(go_at_fn 151;refine(Tryz.internal_strconv_numDigits u hu1 hu64 _ (Lib.tabIs_alloc htab _)).mono ?_;rintro e w' ⟨rfl,rfl⟩))
  go_at_fn 152
  refine hfmt.mono ?_
  rintro e w' ⟨rfl,k,v',dk,rfl,hF⟩
  have hcv:(convert 45 9 (.slice (some ⟨w.heap.size,0,none⟩) (Lib.nDigits u) 24)).run prog ((putRow (fun(b:UInt8)=>Value.int .u8 (b.toNat:Int)) (w.alloc (.cells Lib.zeros24 224)) w.heap.size 0 dk).drewN k)=.ok (.string ⟨(Lib.decDigits u).toArray⟩) ((putRow (fun(b:UInt8)=>Value.int .u8 (b.toNat:Int)) (w.alloc (.cells Lib.zeros24 224)) w.heap.size 0 dk).drewN k):=by
   have h:=run_convert_bytes_back (P:=prog) ((putRow (fun(b:UInt8)=>Value.int .u8 (b.toNat:Int)) (w.alloc (.cells Lib.zeros24 224)) w.heap.size 0 dk).drewN k) 45 9 5 ⟨w.heap.size,0,none⟩ 24 (Lib.decDigits u) underlying45 underlying5 underlying9 (fun j hj=>by
    rw[Lib.row_is_numeral hF j hj,Lib.add_plain,World.cell?_drewN]
    exact cell?_putRow (fun(b:UInt8)=>Value.int .u8 (b.toNat:Int)) _ w.heap.size 0 _ dk HH0.out (by rw[hF.size,Array.size_replicate]) j (by rw[hF.size];rw[Lib.decDigits_length]at hj;exact hj))
   rw[Lib.decDigits_length]at h
   exact h
  go_wp2
  go_ret
  obtain⟨os,eo⟩:=Lib.fin_at w (.cells Lib.zeros24 224) dk k 0
  exact⟨rfl,k,os,eo⟩
end Go.Proofs
namespace Go.Kz
open Go Go.Proofs Go.RowKit
def gFU:List PD->Option PD:=λargs=>match args with
 | [.int .u64 n,.int .i64 b]=>if 0<=n/\n<18446744073709551616/\b=10 then some (.str (Lib.decDigits n.toNat))else none
 |_=>none
theorem a0V{E:aE}(hE:aF prog E):aF prog (E.add 196 (entry gFU)):=by
 refine hE.J5 ⟨_,func196,rfl⟩ λargs c vs p hg hs hv=>?_
 unfold gFU at hg;split at hg
 .rename_i n b;split at hg
  .rename_i hc;obtain⟨h0,h1,rfl⟩:=hc;simp only[yAb]at hg;subst hg;obtain⟨v,u,rfl,q1,q2⟩:=MI hv;rw[q1.int_eq,q2.int_eq];obtain⟨k,rfl⟩:∃k:Nat,n=k:=⟨n.toNat,ym⟩;obtain⟨⟨cs,T,fz,hheap,hh⟩,_⟩:=hs.iG.2 1 rfl;have hcs:=hh.1 .u64 _ rfl;have htab:Lib.TabIs prog c.w "internal/strconv.uint64pow10" .u64 Lib.pow10Tab:=by
    unfold Lib.TabIs World.var?;have hg:prog.globalNamed "internal/strconv.uint64pow10" = some 1:=yp;rw[hg];simp only[Option.bind_some,hheap];rw[hcs];rfl
   refine Calls.mono (Tryz.a0T k ym c.w htab) λe w' he=>?_
   obtain⟨rfl,k',os,rfl⟩:=he;exact⟨_,rfl,⟨rfl,rfl,rfl,by simp[Go.Sort.grow],λi hi _=>by simp[Go.Sort.grow,Array.getElem?_append,hi]⟩,λ_=>.str _⟩
  .cases hg
 .cases hg
set_option maxRecDepth 100000
def Bs5:aE:=Bs4.add 196 (entry gFU)
theorem a0W:aF prog Bs5:=a0V a0X
end Go.Kz
namespace Go.Kz
open Go Go.Proofs
section
abbrev cN:Em Int:=Em.int .u64
def jY(l:List Int):Nat:=(l.reverse.dropWhile λx=>decide (x=0)).length
theorem aOi(l:List Int):jY (l++[0])=jY l:=by simp[jY,List.dropWhile]
theorem aOj(l:List Int)(x:Int)(h:x≠0):jY (l++[x])=l.length+1:=by simp[jY,List.dropWhile,h]
theorem aHI(l:List Int):jY l<=l.length:=by
 unfold jY;exact yBe (List.dropWhile_sublist _).length_le yo
theorem aOk(l:List Int)(n:Nat)(h:n<l.length):l.take (n+1)=l.take n++[l[n]]:=yo
variable{E:aE}(hU:aG E)
include hU
theorem a0P(h0:E 192=none)(fl z:Nat)(l:List Int)(tok:Tok)(τ:List U)(hz:l=[]\/z=1)(hl:l.length<=100000):cF prog E fl (.inl 192) [.slice z (l.map cN.aA) tok] τ
  (λp1 σ1=>p1=.slice z ((l.take (jY l)).map cN.aA) (if jY l=l.length then tok else .any)/\σ1=τ):=by
 obtain⟨T,hT⟩:=gn (jY l);rw[hT];refine cF.aV 21 h0 func192 (h:=?_);refine aD trivial ?_;refine Wp.dK (λm fr σ=>∃(n:Nat),∃gg:Nat->PD,(n=m/\n<=l.length/\jY (l.take n)=T)/\fr=[.slice z ((l.take n).map cN.aA) (if n=l.length then tok else .any),gg 1,gg 2,gg 3,gg 4,gg 5,gg 6,gg 7,gg 8,gg 9,gg 10,gg 11,gg 12,gg 13,gg 14,gg 15,gg 16,gg 17,gg 18,gg 19,gg 20]/\σ=τ) ?_ (l.length) Cg
 rintro m fr σ ⟨n,gg,hI,rfl,rfl⟩
 obtain⟨rfl,hn,hs⟩:=hI;have hlen:(l.take n).length=n:=Ah;obtain⟨A,hA⟩:=gn (l.take n);rw[hA]at hs hlen;cases n with
 |zero=>
  exact vw
 |succ n=>
  have ht:=aOk l n ym;rw[hA]at ht;obtain⟨x,hx⟩:=gn (l[n]);rw[hx]at ht;have hz1:z=1:=hz.resolve_left (λh=>by rw[h]at hn;simp at hn);subst hz1;obtain⟨tk,htk⟩:∃t,(if n+1=l.length then tok else .any)=t:=⟨_,rfl⟩;have w1:IntKind.i64.wrap ((n:Int)+1-1)=(n:Int):=zd;obtain⟨M,hM⟩:=gn ((l.take (n+1)).map cN.aA);have hMl:M.length=n+1:=by rw[<-hM,yAe,hA,hlen]
  have hMn:M[n]?=some (.int .u64 x):=by
   rw[<-hM,hA,ht,yAH,yCo (by rw[yAe,yAt];omega)];rw[yAe,yAt,yCC ym,Nat.sub_self];rfl
  obtain⟨hlt,hMe⟩:=yA.1 hMn;have hMt:M.take n=(l.take n).map cN.aA:=by
   rw[<-hM,<-yCG,yDv,yCC ym]
  rw[htk,hM]
  by_cases hx0:x=0
  .have OM:¬n=l.length:=by omega
   have hn2:¬n=n+1:=ym;have hs':jY (l.take n)=T:=by rw[<-hs,ht,hx0,aOi]
   have hpr:∀t,UE 1 1 M t (some (0,n))=some (.slice 1 ((l.take n).map cN.aA) .any):=λt=>by
    unfold UE;simp only[hMl,yDf,yDJ,hMt];simp[hn2]
   refine aD (A7 hMl hMn hMe hx0 w1 hpr hn2) ?_;refine aL.normal (n) ym (by refine⟨n,?_⟩;exact fL (⟨rfl,ym,hs'⟩) @OM)
  .have hT1:T=n+1:=by rw[<-hs,ht,aOj _ _ hx0,yAt];omega
   subst hT1;refine aD (A4 hMl hMn hMe hx0) ?_;exact⟨_,_,rfl,by rw[hM,htk];rfl,rfl⟩
theorem a0Q(h0:E 192=none)(fl id off:Nat)(l:List Int)(cs:List PD)(τ:List U)(hq:τ[id]?=some (.box (.agg cs)))(hc:∀j (h:j<l.length),cs[off+j]?=some (.int .u64 (l[j])))(hl:l.length<=100000) :
  cF prog E fl (.inl 192) [.cL id off l.length 1] τ (λp1 σ1=>p1=.cL id off (jY l) 1/\σ1=τ):=by
 obtain⟨T,hT⟩:=gn (jY l);rw[hT];refine cF.aV 21 h0 func192 (h:=?_);refine aD trivial ?_;refine Wp.dK (λm fr σ=>∃(n:Nat),∃gg:Nat->PD,(n=m/\n<=l.length/\jY (l.take n)=T)/\fr=[.cL id off n 1,gg 1,gg 2,gg 3,gg 4,gg 5,gg 6,gg 7,gg 8,gg 9,gg 10,gg 11,gg 12,gg 13,gg 14,gg 15,gg 16,gg 17,gg 18,gg 19,gg 20]/\σ=τ) ?_ (l.length) Cg
 rintro m fr σ ⟨n,gg,hI,rfl,rfl⟩
 obtain⟨rfl,hn,hs⟩:=hI;have hlen:(l.take n).length=n:=Ah;obtain⟨A,hA⟩:=gn (l.take n);rw[hA]at hs hlen;cases n with
 |zero=>
  exact vw
 |succ n=>
  have ht:=aOk l n ym;rw[hA]at ht;obtain⟨x,hx⟩:=gn (l[n]);have hcn:=hc n ym;rw[hx]at ht hcn;obtain⟨hlt,hce⟩:=yA.1 hcn;have w1:IntKind.i64.wrap ((n:Int)+1-1)=(n:Int):=zd
  by_cases hx0:x=0
  .have hs':jY (l.take n)=T:=by rw[<-hs,ht,hx0,aOi]
   subst hx0;refine aD (A4 hq hcn hce w1) ?_;refine aL.normal (n) ym (by refine⟨n,?_⟩;exact bV (⟨rfl,ym,hs'⟩))
  .have hT1:T=n+1:=by rw[<-hs,ht,aOj _ _ hx0,yAt];omega
   subst hT1;refine aD (A5 hq hcn hce w1 hx0) ?_;exact dy
end
section
def H0:List PD->Option (List Int)
 | []=>some []
 |.int .u64 n::r=>match H0 r with|some l=>some (n::l)|none=>none
 |_=>none
theorem aAQ:∀ {xs:Dq} {l:List Int},H0 xs=some l->xs=l.map cN.aA
 | [],l,h=>by simp only[H0,yAb]at h;subst h;rfl
 |x::r,l,h=>by
  unfold H0 at h;split at h
  .cases ‹_::_=_›
  .rename_i n r' e;simp only[yBx]at e;obtain⟨rfl,rfl⟩:=e;split at h
   .rename_i l' hl;simp only[yAb]at h;subst h;rw[aAQ hl];rfl
   .cases h
  .cases h
@[simp] theorem aHH:∀l:List Int,H0 (l.map cN.aA)=some l
  | []=>rfl
  |n::l=>by
   show H0 (.int .u64 n::l.map cN.aA)=_
   simp only[H0,aHH l]
def H2:Nat->List PD->List U->Option (PD×List U):=λ_ args σ=>match args with
 | [.slice z xs tok]=>match H0 xs with
   |some l=>if (l.length=0\/z=1)/\l.length<=100000 then some (.slice z ((l.take (jY l)).map cN.aA) (if jY l=l.length then tok else .any),σ)else none
   |none=>none
 | [.cL id off n 1]=>match σ[id]? with
   |some (.box (.agg cs))=>match H0 ((cs.drop off).take n)with
    |some l=>if l.length=n/\n<=100000 then some (.cL id off (jY l) 1,σ)else none
    |none=>none
   |_=>none
 |_=>none
theorem cF.P4{P:Program}{E:aE}{fl:Nat}{f:FuncId ⊕ Nat}{args:Dq}{σ σ':Dp}{p:PD}(h:cF P E fl f args σ (λp1 σ1=>p1=p/\σ1=σ')):mB P E fl f args σ p σ':=by
 obtain⟨p1,σ1,h1,rfl,rfl⟩:=h.ex;exact h1
section
variable{E:aE}(hU:aG E)
include hU
theorem a0O(hE:aF prog E)(h0:E 192=none):aF prog (E.add 192 H2):=
 hE.add yp λfl args σ p σ' h=>by
  unfold H2 at h;split at h
  .rename_i z xs tok;split at h
   .rename_i l hl;split at h
    .rename_i hc;simp only[yAb,yAc]at h;obtain⟨rfl,rfl⟩:=h;rw[aAQ hl];exact cF.P4 (a0P hU h0 fl z l tok σ (hc.1.imp yAf id) hc.2)
    .cases h
   .cases h
  .rename_i id off n;split at h
   .rename_i cs hcs;split at h
    .rename_i l hl;split at h
     .rename_i hc;simp only[yAb,yAc]at h;obtain⟨rfl,rfl⟩:=h;obtain⟨hln,hnb⟩:=hc;subst hln;have hx:=aAQ hl;refine cF.P4 (a0Q hU h0 fl id off l cs σ hcs (λj hj=>?_) hnb);have h1:=yAP (λt=>t[j]?) hx;simp only[yAv,hj,yAM,yBy,yAo]at h1;rw[h1,yAh hj];rfl
     .cases h
    .cases h
   .cases h
  .cases h
end
theorem a0R(fl z:Nat)(l:List Int)(tok:Tok)(σ:List U)(hz:l=[]\/z=1)(hl:l.length<=100000):H2 fl [.slice z (l.map cN.aA) tok] σ=some (.slice z ((l.take (jY l)).map cN.aA) (if jY l=l.length then tok else .any),σ):=by
 unfold H2;simp only[aHH];rw[yAJ ⟨hz.imp (λh=>zn) id,hl⟩]
def H6(l:List UInt8):Nat:=l.foldl (λa c=>10*a+(c.toNat-48)) 0
def aAR(l:List UInt8)(k:Nat):Nat:=H6 ((l.drop (l.length-9*k-9)).take (l.length-9*k-(l.length-9*k-9)))
def oG(l:List UInt8)(k:Nat):List Int:=(List.range k).map λi=>(aAR l i:Int)
def aAS(l:List UInt8):List Int:=(oG l ((l.length+8)/9)).take (jY (oG l ((l.length+8)/9)))
def aDo(l:List UInt8):Prop:=∀c∈l,48<=c.toNat/\c.toNat<=57
theorem aOf(l:List UInt8)(c:UInt8):H6 (l++[c])=10*H6 l+(c.toNat-48):=by simp[H6]
theorem aOg:∀(n:Nat) (l:List UInt8),l.length=n->aDo l->H6 l<10^n
 |0,l,h,_=>by rw[yAf h];decide
 |n+1,l,h,hd=>by
  have hne:l≠[]:=λe=>by rw[e]at h;simp at h
  have e:=List.dropLast_concat_getLast hne;rw[<-e,aOf];have h1:=aOg n l.dropLast (by rw[List.length_dropLast];omega) (λc hc=>hd c ((List.dropLast_sublist l).subset hc));have h2:=hd _ (List.getLast_mem hne);rw[Nat.pow_succ];omega
section
variable{E:aE}(hU:aG E)
include hU
theorem a0S(h0:E 188=none)(h1:E 192=some H2)(l:List UInt8)(hl:l.length<=1000)(hd:aDo l):aJ prog E 188 [.str l] ((cN.list 1).aA (aAS l)):=by
 obtain⟨K,hK⟩:=gn ((l.length+8)/9);have hls:∀k,(oG l k).length=k:=λk=>by simp[oG]
 have hsu:∀k,oG l (k+1)=oG l k++[(aAR l k:Int)]:=λk=>by simp[oG,yCW]
 unfold aAS;rw[hK];refine aJ.aV 39 h0 func188 (h:=?_);refine aD trivial ?_;refine Wp.dK (λm fr σ=>∃(k z:Nat),∃gg:Nat->PD,(k+m=K/\(oG l k=[]\/z=1))/\fr=[.str l,gg 1,gg 2,.slice z ((oG l k).map cN.aA) (jH 0 (oG l k).length),.int .i64 ((l.length:Int)-9*k),gg 5,gg 6,gg 7,gg 8,gg 9,gg 10,gg 11,gg 12,gg 13,gg 14,gg 15,gg 16,gg 17,gg 18,gg 19,gg 20,gg 21,gg 22,gg 23,gg 24,gg 25,gg 26,gg 27,gg 28,gg 29,gg 30,gg 31,gg 32,gg 33,gg 34,gg 35,gg 36,gg 37,gg 38]/\σ=St [] 96 1 (oG l k).length) ?_ (K) (by refine⟨0,0,?_⟩;exact qT (⟨ym,.inl rfl⟩) Bg Bg)
 rintro m fr σ ⟨k,z,gg,hI,rfl,rfl⟩
 obtain⟨hm,hz⟩:=hI
 by_cases hk:k<K
 .have q1:(0:Int)<(l.length:Int)-9*k:=by omega
  obtain⟨b,hb⟩:=gn (l.length-9*k);have eb:(l.length:Int)-9*k=(b:Int):=ym;obtain⟨a,ha⟩:=gn (b-9);have hb0:0<b:=ym;have hA:aAR l k=H6 ((l.drop a).take (b-a)):=by unfold aAR;rw[hb,ha]
  obtain⟨C,hC⟩:=gn ((l.drop a).take (b-a));have hCl:C.length=b-a:=by rw[<-hC,yAt,yBf];omega
  have hCd:aDo C:=λc hc=>hd c (by rw[<-hC]at hc;exact yBJ (yAy hc))
  rw[hC]at hA;rw[eb];have w1:IntKind.i64.wrap ((b:Int)-9)=(b:Int)-9:=zd;have q2:(0:Int)<(b:Int):=ym;have hmx:(if (b:Int)-9<0 then(0:Int)else(b:Int)-9)=(a:Int):=by split<;>omega
  refine aD (A6 q1 q2 hb0 w1 hmx hC) ?_;obtain⟨M,hM⟩:∃M,M=m:=⟨_,rfl⟩;rw[<-hM]at hm ⊢;clear hM;have hl0:H6 (C.take 0)=0:=rfl;refine Wp.dK (λm fr σ=>∃(i:Nat),∃gg:Nat->PD,(i+m=C.length)/\fr=[.str l,gg 1,gg 2,.slice z ((oG l k).map cN.aA) (jH 0 (oG l k).length),.int .i64 b,.int .u64 (H6 (C.take i):Nat),gg 6,gg 7,gg 8,gg 9,gg 10,gg 11,gg 12,gg 13,gg 14,gg 15,gg 16,gg 17,gg 18,gg 19,.slice 1 (C.map λb=>.int .u8 b.toNat) .any,.int .i64 C.length,.int .i64 i,gg 23,gg 24,gg 25,gg 26,gg 27,gg 28,gg 29,gg 30,gg 31,gg 32,gg 33,gg 34,gg 35,gg 36,gg 37,gg 38]/\σ=St [] 96 1 (oG l k).length) ?_ (C.length) (by refine⟨0,?_⟩;exact fL ym @hl0)
  rintro m fr σ ⟨i,gg,hI,rfl,rfl⟩
  have hm2:=hI
  by_cases hi:i<C.length
  .have q3:(i:Int)<(C.length:Int):=by omega
   obtain⟨c,hc⟩:=gn (C[i]);have hcd:=hCd c (hc▸yAm hi);have htk:C.take (i+1)=C.take i++[c]:=by rw[<-hc];simp
   have hv:=aOg i (C.take i) Ah (λx hx=>hCd x (yAy hx));have hv9:H6 (C.take i)<10^9:=yBO hv (Nat.pow_le_pow_right yx ym);have hsn:=aOf (C.take i) c;rw[<-htk]at hsn;obtain⟨v,hvv⟩:=gn (H6 (C.take i));rw[hvv]at hv9 hsn ⊢;obtain⟨n,hn⟩:=gn (c.toNat);rw[hn]at hcd hsn;obtain⟨d,hdd⟩:=gn (n-48);rw[hdd]at hsn;have y1:IntKind.u64.wrap (10*(v:Int))=10*(v:Int):=Cs;have y2:IntKind.u8.wrap ((n:Int)-48)=(d:Int):=zf;have y3:IntKind.u64.wrap (d:Int)=(d:Int):=Cs;have y4:IntKind.u64.wrap (10*(v:Int)+(d:Int))=10*(v:Int)+(d:Int):=Cs;refine aD (A8 q3 hi hc hn y1 y2 y3 y4) ?_;refine aL.normal (m-1) ym (by refine⟨i+1,?_⟩;exact fL ym @hsn)
  .have q3:¬(i:Int)<(C.length:Int):=by omega
   obtain rfl:i=C.length:=ym;have hfull:H6 (C.take C.length)=aAR l k:=by rw[hA,yBz]
   rw[hfull];have aAT:=hls k;have aOh:=hsu k;have e9:(b:Int)-9=(l.length:Int)-9*((k:Int)+1):=ym;obtain⟨LS,hLS⟩:=gn (oG l k);rw[hLS]at aAT aOh hz ⊢;refine aD (A4 q3 w1 hz aAT) ?_;refine aL.normal (M-1) ym (by refine⟨k+1,1,?_⟩;exact fL (⟨ym,.inr rfl⟩) (A3 aOh aAT e9))
 .have q1:¬(0:Int)<(l.length:Int)-9*k:=by omega
  obtain rfl:k=K:=ym;have aAT:=hls k;obtain⟨LS,hLS⟩:=gn (oG l k);rw[hLS]at aAT hz ⊢;have hg:=λfl σ=>a0R fl z LS (jH 0 LS.length) σ hz ym
  have q4:¬9*(k:Int)<(l.length:Int):=ym;obtain⟨T,hT⟩:=gn (jY LS);have hTl:T<=LS.length:=hT▸aHI LS
  obtain⟨tk,htk⟩:∃t,(if T=LS.length then jH 0 LS.length else .any)=t:=⟨_,rfl⟩;rw[hT]at hg ⊢;rw[htk]at hg;obtain⟨LT,hLT⟩:=gn (LS.take T);rw[hLT]at hg ⊢;have hzs:LT=[]\/z=1:=hz.imp (λh=>by rw[<-hLT,h];simp) id;have hst:PD.strip (.slice z (LT.map cN.aA) tk)=(cN.list 1).aA LT:=by
   rw[PD.lD,show(LT.map cN.aA).map PD.strip=LT.map cN.aA by rw[yBc];exact yAG λx _=>cN.str x];rcases hzs with h|h
   .rw[h];rfl
   .rw[h];show _=PD.slice (sz 1 LT) (LT.map cN.aA) .any
    simp[sz]
  refine aD (A4 q1 q4 h1 hg) ?_;exact⟨_,_,rfl,hst⟩
end
end
section
def HX{α:Type}(p:α->Bool):List α->Nat
 | []=>0
 |x::r=>if p x=true then 1 else HX p r+1
def FK(x:dY):U:=.box (.agg [.str x.name,.int .i64 x.iR,.int .i64 x.dst,.int .i64 x.shift,.bool x.M9])
def iM(nm:List UInt8)(x:dY):Bool:=decide (x.name=nm)
def NB:Nat->List PD->List U->Option (PD×List U):=λ_ args σ=>match args with
 | [.agg [.str n,.int .i64 a,.int .i64 b,.int .i64 c,.bool t],.ptr id 0]=>match σ[id]? with
   |some (.box (.agg [.str nm,.int .i64 _,.int .i64 _,.int .i64 _,.bool _]))=>some (.bool (decide (n=nm)),σ++[.box (.agg [.str n,.int .i64 a,.int .i64 b,.int .i64 c,.bool t])])
   |_=>none
 |_=>none
variable{E:aE}(hU:aG E)
include hU
theorem a0A(h0:E 111=none)(fl:Nat)(x0:List UInt8)(x1 x2 x3:Int)(x4:Bool)(nm:List UInt8)(c1 c2 c3:Int)(c4:Bool)(id:Nat)(τ:List U)(hid:τ[id]?=some (.box (.agg [.str nm,.int .i64 c1,.int .i64 c2,.int .i64 c3,.bool c4]))) :
  cF prog E fl (.inl 111) [.agg [.str x0,.int .i64 x1,.int .i64 x2,.int .i64 x3,.bool x4],.ptr id 0] τ (λp1 σ1=>p1=.bool (decide (x0=nm))/\σ1=τ++[.box (.agg [.str x0,.int .i64 x1,.int .i64 x2,.int .i64 x3,.bool x4])]):=by
 obtain⟨hlt,he⟩:=yA.1 hid;have j0:∀x:U,(τ++[x])[τ.length]?=some x:=λx=>yo
 by_cases c:x0=nm
 .rw[decide_eq_true c];refine cF.aV 9 h0 func111 (h:=?_);refine aD (A5 j0 @hid hlt @he @c) ?_;exact dy
 .rw[decide_eq_false c];have f0:(x0==nm)=false:=by simpa using c
  refine cF.aV 9 h0 func111 (h:=?_);refine aD (A6 j0 @hid hlt @he @c @f0) ?_;exact dy
theorem aWB(hE:aF prog E)(h0:E 111=none):aF prog (E.add 111 NB):=
 hE.add yp λfl args σ p σ' h=>by
  unfold NB at h;split at h
  .rename_i n a b c t id;split at h
   .rename_i nm c1 c2 c3 c4 hid;simp only[yAb,yAc]at h;obtain⟨rfl,rfl⟩:=h;exact cF.P4 (a0A hU h0 fl n a b c t nm c1 c2 c3 c4 id σ hid)
   .cases h
  .cases h
theorem a0B(h0:E 143=none)(h1:E 111=some NB)(fl:Nat)(l:List dY)(nm:List UInt8)(c1 c2 c3:Int)(c4:Bool)(id:Nat)(τ:List U)(hid:τ[id]?=some (.box (.agg [.str nm,.int .i64 c1,.int .i64 c2,.int .i64 c3,.bool c4])))(hl:l.length<=1000000)(z:Nat)(tok:Tok)(hz:l=[]\/z=5) :
  cF prog E fl (.inl 143) [.slice z (l.map Em.cC.aA) tok,.func 111 [.ptr id 0]] τ (λp1 σ1=>p1=.int .i64 (lH (iM nm) l 0)/\σ1=τ++(l.take (HX (iM nm) l)).map FK):=by
 obtain⟨B,hB⟩:=gn (lH (iM nm) l 0);obtain⟨V,hV⟩:=gn (HX (iM nm) l);rw[hB,hV];refine cF.aV 19 h0 func143 (h:=?_);refine aD trivial ?_;refine Wp.dK (λm fr σ=>∃(i:Nat),∃gg:Nat->PD,(i+m=l.length/\lH (iM nm) (l.drop i) i=B/\HX (iM nm) (l.drop i)+i=V)/\fr=[.slice z (l.map Em.cC.aA) tok,.func 111 [.ptr id 0],gg 2,gg 3,gg 4,gg 5,.slice z (l.map Em.cC.aA) tok,.int .i64 l.length,.int .i64 i,gg 9,gg 10,gg 11,gg 12,gg 13,gg 14,gg 15,gg 16,gg 17,gg 18]/\σ=τ++(l.take i).map FK) ?_ (l.length) (by refine⟨0,?_⟩;exact bV (⟨ym,hB,hV⟩))
 rintro m fr σ ⟨i,gg,hI,rfl,rfl⟩
 obtain⟨hm,hs,hv⟩:=hI
 by_cases hi:i<l.length
 .have q1:(i:Int)<(l.length:Int):=by omega
  have hz1:z=5:=hz.resolve_left (λh=>by rw[h]at hi;simp at hi);subst hz1;obtain⟨a,ha⟩:=gn (l[i]);have hc:l.drop i=a::l.drop (i+1):=zq;have htk:l.take (i+1)=l.take i++[a]:=by rw[yBX hi,ha]
  obtain⟨hlt,_⟩:=yA.1 hid;obtain⟨ρ,hρ⟩:=gn (τ++(l.take i).map FK);have aDj:ρ[id]?=some (.box (.agg [.str nm,.int .i64 c1,.int .i64 c2,.int .i64 c3,.bool c4])):=by rw[<-hρ,yAg hlt];exact hid
  have hst:τ++(l.take (i+1)).map FK=ρ++[FK a]:=by rw[htk,yAH,<-yAi,hρ];rfl
  rw[hc]at hs hv;unfold lH at hs;unfold HX at hv;obtain⟨a0,a1,a2,a3,a4⟩:=a;have hE:NB fl [.agg [.str a0,.int .i64 a1,.int .i64 a2,.int .i64 a3,.bool a4],.ptr id 0] ρ=some (.bool (decide (a0=nm)),ρ++[.box (.agg [.str a0,.int .i64 a1,.int .i64 a2,.int .i64 a3,.bool a4])]):=by
   unfold NB;simp only[aDj]
  have aAO:τ++(l.take (i+1)).map FK=ρ++[.box (.agg [.str a0,.int .i64 a1,.int .i64 a2,.int .i64 a3,.bool a4])]:=hst;have aJY:τ++List.take (i+1) (l.map FK)=ρ++[.box (.agg [.str a0,.int .i64 a1,.int .i64 a2,.int .i64 a3,.bool a4])]:=by rw[<-yCG];exact aAO
  rw[hρ]
  by_cases hb:a0=nm
  .rw[yAJ (by simp[iM,hb])]at hs hv;have fZ:B=(i:Int):=hs.symm;have hV2:V=i+1:=ym;rw[decide_eq_true hb]at hE;rw[fZ,hV2,aAO];clear hs fZ;refine aD xd ?_
   first|refine Wp.seq ?_|skip
   apply Wp.dU;refine j9 (A4 h1 hE hi ha) ?_;apply SQ.nil;refine aD q1 ?_;exact dy
  .rw[yAI (by simp[iM,hb])]at hs hv;rw[decide_eq_false hb]at hE;refine aD xd ?_
   first|refine Wp.seq ?_|skip
   apply Wp.dU;refine j9 (A4 h1 hE hi ha) ?_;apply SQ.nil;refine aD q1 ?_;refine aL.normal (m-1) ym (by refine⟨i+1,?_⟩;exact fL (⟨ym,hs,ym⟩) @aJY)
 .have q1:¬(i:Int)<(l.length:Int):=by omega
  obtain rfl:i=l.length:=ym;rw[yCe]at hs hv;have fZ:B=-1:=hs.symm;have hV2:V=l.length:=by simpa [HX]using hv.symm
  rw[fZ,hV2];refine aD q1 ?_;exact dy
omit hU in
def P5:List PD->Option (List dY)
 | []=>some []
 |.agg [.str n,.int .i64 a,.int .i64 b,.int .i64 c,.bool t]::r=>match P5 r with|some l=>some (⟨n,a,b,c,t⟩::l)|none=>none
 |_=>none
omit hU in
theorem aHF:∀ {xs:Dq} {l:List dY},P5 xs=some l->xs=l.map Em.cC.aA
 | [],l,h=>by simp only[P5,yAb]at h;subst h;rfl
 |x::r,l,h=>by
  unfold P5 at h;split at h
  .cases ‹_::_=_›
  .rename_i n a b c t r' e;simp only[yBx]at e;obtain⟨rfl,rfl⟩:=e;split at h
   .rename_i l' hl;simp only[yAb]at h;subst h;rw[aHF hl];rfl
   .cases h
  .cases h
omit hU in
@[simp] theorem aOd:∀l:List dY,P5 (l.map Em.cC.aA)=some l
  | []=>rfl
  |x::l=>by
   show P5 (.agg [.str x.name,.int .i64 x.iR,.int .i64 x.dst,.int .i64 x.shift,.bool x.M9]::l.map Em.cC.aA)=_
   simp only[P5,aOd l]
omit hU in
def yI(f:List UInt8->List dY->PD):Nat->List PD->List U->Option (PD×List U):=λ_ args σ=>match args with
 | [.slice z xs _,.func g [.ptr id 0]]=>match P5 xs with
   |some l=>if g=111/\(l.length=0\/z=5)/\l.length<=1000000 then match σ[id]? with
     |some (.box (.agg [.str nm,.int .i64 _,.int .i64 _,.int .i64 _,.bool _]))=>some (f nm l,σ++(l.take (HX (iM nm) l)).map FK)
     |_=>none
    else none
   |none=>none
 |_=>none
omit hU in
theorem aOc{f:List UInt8->List dY->PD}{z:Nat}{l:List dY}{tok:Tok}{id:Nat}{σ:Dp}{nm:Dr}{c1 c2 c3:Int}{c4:Bool}(hz:l=[]\/z=5)(hl:l.length<=1000000)(hid:σ[id]?=some (.box (.agg [.str nm,.int .i64 c1,.int .i64 c2,.int .i64 c3,.bool c4])))(fl:Nat) :
  yI f fl [.slice z (l.map Em.cC.aA) tok,.func 111 [.ptr id 0]] σ=some (f nm l,σ++(l.take (HX (iM nm) l)).map FK):=by
 unfold yI;simp only[aOd];rw[yAJ ⟨trivial,hz.imp (λh=>zn) (λh=>h),hl⟩];simp only[hid]
theorem aWD(hE:aF prog E)(h0:E 143=none)(h1:E 111=some NB):aF prog (E.add 143 (yI λnm l=>.int .i64 (lH (iM nm) l 0))):=
 hE.add yp λfl args σ p σ' h=>by
  unfold yI at h;split at h
  .rename_i z xs tok g id;split at h
   .rename_i l hl;split at h
    .rename_i hc;obtain⟨rfl,hz,hlen⟩:=hc;split at h
     .rename_i nm c1 c2 c3 c4 hid;simp only[yAb,yAc]at h;obtain⟨rfl,rfl⟩:=h;rw[aHF hl];exact cF.P4 (a0B hU h0 h1 fl l nm c1 c2 c3 c4 id σ hid hlen z tok (hz.imp yAf λh=>h))
     .cases h
    .cases h
   .cases h
  .cases h
theorem a0C(h0:E 110=none)(h1:E 143=some (yI λnm l=>.int .i64 (lH (iM nm) l 0)))(fl:Nat)(l:List dY)(nm:List UInt8)(c1 c2 c3:Int)(c4:Bool)(id:Nat)(τ:List U)(hid:τ[id]?=some (.box (.agg [.str nm,.int .i64 c1,.int .i64 c2,.int .i64 c3,.bool c4])))(hl:l.length<=1000000)(z:Nat)(tok:Tok)(hz:l=[]\/z=5) :
  cF prog E fl (.inl 110) [.slice z (l.map Em.cC.aA) tok,.func 111 [.ptr id 0]] τ (λp1 σ1=>p1=.bool (l.any (iM nm))/\σ1=τ++(l.take (HX (iM nm) l)).map FK):=by
 have hE:=aOc (f:=λnm l=>.int .i64 (lH (iM nm) l 0)) hz hl hid (tok:=tok);obtain⟨ρ,hρ⟩:=gn (τ++(l.take (HX (iM nm) l)).map FK);rw[hρ]at hE;rw[hρ,<-aDn _ l 0];refine cF.aV 9 h0 func110 (h:=?_);refine aD (A2 h1 hE) ?_;exact dy
theorem aWF(hE:aF prog E)(h0:E 110=none)(h1:E 143=some (yI λnm l=>.int .i64 (lH (iM nm) l 0))):aF prog (E.add 110 (yI λnm l=>.bool (l.any (iM nm)))):=
 hE.add yp λfl args σ p σ' h=>by
  unfold yI at h;split at h
  .rename_i z xs tok g id;split at h
   .rename_i l hl;split at h
    .rename_i hc;obtain⟨rfl,hz,hlen⟩:=hc;split at h
     .rename_i nm c1 c2 c3 c4 hid;simp only[yAb,yAc]at h;obtain⟨rfl,rfl⟩:=h;rw[aHF hl];exact cF.P4 (a0C hU h0 h1 fl l nm c1 c2 c3 c4 id σ hid hlen z tok (hz.imp yAf λh=>h))
     .cases h
    .cases h
   .cases h
  .cases h
end
section
abbrev SO:Em (List (Int×Int)):=Em.bB.list 2
def vY(k:Nat):List dY->List dY->Int
 |_,[]=>0
 |pre,c::r=>if cV c.name=false then 8 else if pre.any (iM c.name)=true then 9 else if c.iR<0\/(k:Int)<=c.iR\/c.dst<0\/(k:Int)<=c.dst then 10 else if c.shift < -127\/127<c.shift then 3 else if c.iR=c.dst/\c.shift=0 then 7 else vY k (pre++[c]) r
def NR(l:List (Int×Int)):Bool:=l.any λx=>!decide (kB x.1 x.2=0)
def NQ(ks:List (Int×Int))(l:List dY):Int:=if 8<ks.length\/40<l.length then 4 else if NR ks=true then 23 else vY ks.length [] l
variable{E:aE}(hU:aG E)
include hU
theorem aWH(h0:E 53=none)(h1:E 108=some VI)(h2:E 49=some RW)(h3:E 110=some (yI λnm l=>.bool (l.any (iM nm))))(ks:List (Int×Int))(l:List dY)(hks:ks.length<=1000000)(hl:l.length<=1000000)(hn:∀x∈l,iA x.name) :
  aJ prog E 53 [SO.aA ks,KH.aA l] (i64.aA (NQ ks l)):=by
 unfold NQ
 by_cases c1:8<ks.length
 .have c2:8<(ks.length:Int):=by omega
  rw[yAJ (.inl c1)];refine aJ.aV 89 h0 func53 (h:=?_);refine aD (A2 c1 c2) ?_;exact aa
 have eA:¬8<(ks.length:Int):=ym
 by_cases c2:40<l.length
 .have c3:40<(l.length:Int):=by omega
  rw[yAJ (.inr c2)];refine aJ.aV 89 h0 func53 (h:=?_);refine aD (A4 c1 eA c2 c3) ?_;exact aa
 have iT:¬40<(l.length:Int):=ym;rw[yAI (λh=>h.elim c1 c2)];obtain⟨B,hB⟩:∃B,(if NR ks=true then(23:Int)else vY ks.length [] l)=B:=⟨_,rfl⟩;rw[hB];refine aJ.aV 89 h0 func53 (h:=?_);refine aD (A4 c1 eA c2 iT) ?_;obtain⟨C,hC⟩:=gn (vY ks.length [] l);rw[hC]at hB;refine Wp.dK (λm fr σ=>∃(i:Nat) (σ1:List U),∃gg:Nat->PD,(i+m=ks.length/\(if NR (ks.drop i)=true then(23:Int)else C)=B)/\fr=SO.aA ks::KH.aA l::gg 2::gg 3::gg 4::gg 5::gg 6::gg 7::gg 8::gg 9::gg 10::gg 11::gg 12::gg 13::gg 14::gg 15::gg 16::SO.aA ks::.int .i64 ks.length::.int .i64 i::gg 20::gg 21::gg 22::gg 23::gg 24::gg 25::gg 26::gg 27::gg 28::gg 29::gg 30::gg 31::gg 32::gg 33::gg 34::gg 35::gg 36::gg 37::gg 38::gg 39::gg 40::gg 41::gg 42::gg 43::gg 44::gg 45::gg 46::gg 47::gg 48::gg 49::gg 50::gg 51::gg 52::gg 53::gg 54::gg 55::gg 56::gg 57::gg 58::gg 59::gg 60::gg 61::gg 62::gg 63::gg 64::gg 65::gg 66::gg 67::gg 68::gg 69::gg 70::gg 71::gg 72::gg 73::gg 74::gg 75::gg 76::gg 77::gg 78::gg 79::gg 80::gg 81::gg 82::gg 83::gg 84::gg 85::gg 86::gg 87::gg 88::[]/\σ=σ1) ?_ (ks.length) (by refine⟨0,[],?_⟩;exact bV (⟨ym,hB⟩))
 rintro m fr σ ⟨i,σ1,gg,hI,rfl,rfl⟩
 obtain⟨hm,hs⟩:=hI
 by_cases hi:i<ks.length
 .have q1:(i:Int)<(ks.length:Int):=by omega
  obtain⟨a,ha⟩:=gn (ks[i]);have hc:ks.drop i=a::ks.drop (i+1):=zq;rw[hc]at hs;obtain⟨a0,a1⟩:=a;have hE:=aHC a0 a1;have j0:∀x:U,(σ++[x])[σ.length]?=some x:=λx=>yo
  have hcb:NR ((a0,a1)::ks.drop (i+1))=(!decide (kB a0 a1=0)||NR (ks.drop (i+1))):=rfl;rw[hcb]at hs;obtain⟨e,he⟩:=gn (kB a0 a1);rw[he]at hE hs
  by_cases c3:e=0
  .subst c3;simp only[decide_true,yBH,yC]at hs;refine aD (A6 q1 hi ha j0 h1 hE) ?_;refine aL.normal (m-1) ym (by refine⟨i+1,σ++[.box (.agg [.int .i64 a0,.int .i64 a1])],?_⟩;exact bV (⟨ym,hs⟩))
  .simp only[c3,decide_false,yBW,yCY,yAM]at hs;subst hs;refine aD (A7 q1 hi ha j0 h1 hE c3) ?_;exact aa
 have q1:¬(i:Int)<(ks.length:Int):=ym;rw[yAs ym]at hs;have hs2:C=B:=hs;rw[hs2]at hC;clear hs hs2 hB;refine aD q1 ?_;refine Wp.dK (λm fr σ=>∃(i:Nat) (σ1:List U),∃gg:Nat->PD,(i+m=l.length/\vY ks.length (l.take i) (l.drop i)=B)/\fr=SO.aA ks::KH.aA l::gg 2::gg 3::gg 4::gg 5::gg 6::gg 7::gg 8::gg 9::gg 10::gg 11::gg 12::gg 13::gg 14::gg 15::gg 16::gg 17::gg 18::gg 19::gg 20::gg 21::gg 22::gg 23::gg 24::gg 25::gg 26::KH.aA l::.int .i64 l.length::.int .i64 i::gg 30::gg 31::gg 32::gg 33::gg 34::gg 35::gg 36::gg 37::gg 38::gg 39::gg 40::gg 41::gg 42::gg 43::gg 44::gg 45::gg 46::gg 47::gg 48::gg 49::gg 50::gg 51::gg 52::gg 53::gg 54::gg 55::gg 56::gg 57::gg 58::gg 59::gg 60::gg 61::gg 62::gg 63::gg 64::gg 65::gg 66::gg 67::gg 68::gg 69::gg 70::gg 71::gg 72::gg 73::gg 74::gg 75::gg 76::gg 77::gg 78::gg 79::gg 80::gg 81::gg 82::gg 83::gg 84::gg 85::gg 86::gg 87::gg 88::[]/\σ=σ1) ?_ (l.length) (by refine⟨0,σ,?_⟩;exact bV (⟨ym,hC⟩))
 rintro m fr σ ⟨i,σ1,gg,hI,rfl,rfl⟩
 obtain⟨hm,hs⟩:=hI
 by_cases hi:i<l.length
 .have q1:(i:Int)<(l.length:Int):=by omega
  obtain⟨a,ha⟩:=gn (l[i]);have hc:l.drop i=a::l.drop (i+1):=zq;have htk:l.take (i+1)=l.take i++[a]:=by rw[yBX hi,ha]
  have hna:=WJ (hn a (ha▸yAm hi));rw[hc]at hs;unfold vY at hs;obtain⟨a0,a1,a2,a3,a4⟩:=a;simp only at hs hna;have j0:∀x:U,(σ++[x])[σ.length]?=some x:=λx=>yo
  have hle:i<=l.length:=ym;cases c3:cV a0 with
  |false=>
   rw[c3]at hna hs;rw[yAJ rfl]at hs;subst hs;refine aD (A6 q1 hi ha j0 h2 hna) ?_;exact aa
  |true=>
  rw[c3]at hna hs;rw[yAI yo]at hs;obtain⟨X,hX⟩:=gn (U.box (.agg [.str a0,.int .i64 a1,.int .i64 a2,.int .i64 a3,.bool a4]));have hid:(σ++[X])[σ.length]?=some (.box (.agg [.str a0,.int .i64 a1,.int .i64 a2,.int .i64 a3,.bool a4])):=by rw[hX];exact j0 X
  have a0z:(l.take i=[]\/sz 5 l=5):=.inr (by simp[sz];intro h;rw[h]at hi;simp at hi);have hE:=aOc (f:=λnm l=>.bool (l.any (iM nm))) (z:=sz 5 l) (tok:=.any) a0z Ah hid;obtain⟨lF,nH⟩:=gn (σ++[X]++((l.take i).take (HX (iM a0) (l.take i))).map FK);have vU:lF[σ.length]?=some (.box (.agg [.str a0,.int .i64 a1,.int .i64 a2,.int .i64 a3,.bool a4])):=by
   rw[<-nH,yAg yo,j0 X,hX]
  rw[nH]at hE;obtain⟨hlt2,hxe⟩:=yA.1 vU;rw[<-hX,yCG]at hE;obtain⟨b,hb⟩:=gn ((l.take i).any (iM a0));rw[hb]at hE hs;clear nH hX hid;cases b with
  |true=>
   rw[yAJ rfl]at hs;subst hs;refine aD (A12 q1 hi ha j0 h2 hna @hle h3 hE vU hlt2 hxe) ?_;exact aa
  |false=>
  rw[yAI yo]at hs
  by_cases c4:a1<0
  .rw[yAJ (.inl c4)]at hs;subst hs;refine aD (A13 q1 hi ha j0 h2 hna @hle h3 hE vU hlt2 hxe c4) ?_;exact aa
  by_cases c5:(ks.length:Int)<=a1
  .rw[yAJ (.inr (.inl c5))]at hs;subst hs;refine aD (A14 q1 hi ha j0 h2 hna @hle h3 hE vU hlt2 hxe c4 c5) ?_;exact aa
  by_cases c6:a2<0
  .rw[yAJ (.inr (.inr (.inl c6)))]at hs;subst hs;refine aD (A15 q1 hi ha j0 h2 hna @hle h3 hE vU hlt2 hxe c4 c5 c6) ?_;exact aa
  by_cases c7:(ks.length:Int)<=a2
  .rw[yAJ (.inr (.inr (.inr c7)))]at hs;subst hs;refine aD (A16 q1 hi ha j0 h2 hna @hle h3 hE vU hlt2 hxe c4 c5 c6 c7) ?_;exact aa
  rw[yAI (λh=>h.elim c4 λh=>h.elim c5 λh=>h.elim c6 c7)]at hs
  by_cases c8:a3 < -127
  .rw[yAJ (.inl c8)]at hs;subst hs;refine aD (A17 q1 hi ha j0 h2 hna @hle h3 hE vU hlt2 hxe c4 c5 c6 c7 c8) ?_;exact aa
  by_cases c9:127<a3
  .rw[yAJ (.inr c9)]at hs;subst hs;refine aD (A18 q1 hi ha j0 h2 hna @hle h3 hE vU hlt2 hxe c4 c5 c6 c7 c8 c9) ?_;exact aa
  rw[yAI (λh=>h.elim c8 c9)]at hs;have hst:vY ks.length (l.take (i+1)) (l.drop (i+1))=vY ks.length (l.take i++[⟨a0,a1,a2,a3,a4⟩]) (l.drop (i+1)):=by rw[htk]
  by_cases yW:a1=a2
  .by_cases K8:a3=0
   .rw[yAJ ⟨yW,K8⟩]at hs;subst hs;subst yW;subst K8;refine aD (A16 q1 hi ha j0 h2 hna @hle h3 hE vU hlt2 hxe c4 c5 c8 c9) ?_;exact aa
   .rw[yAI (λh=>K8 h.2)]at hs;subst yW;refine aD (A17 q1 hi ha j0 h2 hna @hle h3 hE vU hlt2 hxe c4 c5 c8 c9 K8) ?_;exact ni
  .rw[yAI (λh=>yW h.1)]at hs;refine aD (A19 q1 hi ha j0 h2 hna @hle h3 hE vU hlt2 hxe c4 c5 c6 c7 c8 c9 yW) ?_;exact ni
 .have q1:¬(i:Int)<(l.length:Int):=by omega
  rw[yAs ym]at hs;have fZ:B=0:=hs.symm;exact vm
end
section
def K7(ns:List (List UInt8)):List (PD×PD):=ns.map λn=>(.str n,.bool true)
def jN(ns:List (List UInt8)):U:=.map (K7 ns)
def kD(ns:List (List UInt8))(nm:List UInt8):Bool:=ns.any λn=>nm==n
theorem aN8(nm:List UInt8):∀(ns:List (List UInt8)) (i:Nat),kD ns nm=true->∃j,G6 (.str nm) (K7 ns) i=some (some (j,.bool true))
 | [],_,h=>zk
 |n::ns,i,h=>by
  cases e:nm==n with
  |true=>exact⟨i,by simp only[K7,yAX,G6,RG,e]⟩
  |false=>
   have h2:kD ns nm=true:=by simpa [kD,yDI,e]using h
   obtain⟨j,hj⟩:=aN8 nm ns (i+1) h2;exact⟨j,by simp only[K7,yAX,G6,RG,e];exact hj⟩
theorem aHD(nm:List UInt8):∀(ns:List (List UInt8)) (i:Nat),kD ns nm=false->G6 (.str nm) (K7 ns) i=some none
 | [],_,_=>rfl
 |n::ns,i,h=>by
  simp only[kD,yDI,yDL]at h;simp only[K7,yAX,G6,RG,h.1];exact aHD nm ns (i+1) h.2
theorem aDl:(prog).underlying 133=some (.map 9 4):=yp
theorem aN9(nm:List UInt8):UY prog 9 (.str nm)=true:=by
 have h:(prog).underlying 9=some .string:=yp;unfold UY;rw[h]
theorem a0v:dT prog 4=some (.bool false):=yu
theorem aOa{σ:Dp}{id:Nat}{ns:List (List UInt8)}(h:σ[id]?=some (jN ns))(nm:List UInt8):UZ prog σ 133 (.fA id) (.str nm) false=some (.bool (kD ns nm)):=by
 unfold UZ;simp only[aDl,aN9,yAM,h,jN];cases e:kD ns nm with
 |true=>
  obtain⟨j,hj⟩:=aN8 nm ns 0 e;simp only[hj];rfl
 |false=>
  simp only[aHD nm ns 0 e,a0v];rfl
theorem a0w{σ:Dp}{id fl:Nat}{ns:List (List UInt8)}(h:σ[id]?=some (jN ns))(hf:fl<=id)(nm:List UInt8)(hn:kD ns nm=false):U0 prog fl σ 133 (.fA id) (.str nm) (.bool true)=some (σ.set id (jN (ns++[nm]))):=by
 unfold U0;simp only[aDl,aN9,yAM,h,jN,hf,aHD nm ns 0 hn];simp[K7]
variable{E:aE}(hU:aG E)
include hU
theorem a0x(h0:E 51=none)(fl id:Nat)(ns:List (List UInt8))(nm:List UInt8)(τ:List U)(h:τ[id]?=some (jN ns))(hn:kD ns nm=true) :
  cF prog E fl (.inl 51) [.fA id,.str nm] τ (λp1 σ1=>p1=.int .i64 9/\σ1=τ):=by
 have hl:=aOa h nm;rw[hn]at hl;refine cF.aV 10 h0 func51 (h:=?_);refine lW hl ?_;exact dy
theorem a0y(h0:E 51=none)(fl id:Nat)(ns:List (List UInt8))(nm:List UInt8)(τ:List U)(h:τ[id]?=some (jN ns))(hf:fl<=id)(hn:kD ns nm=false) :
  cF prog E fl (.inl 51) [.fA id,.str nm] τ (λp1 σ1=>p1=.int .i64 0/\σ1=τ.set id (jN (ns++[nm]))):=by
 have hl:=aOa h nm;rw[hn]at hl;have hp:=a0w h hf nm hn;refine cF.aV 10 h0 func51 (h:=?_);refine lW (A2 hl hp) ?_;exact dy
omit hU in
def P3:List (PD×PD)->Option (List (List UInt8))
 | []=>some []
 |(.str n,.bool true)::r=>match P3 r with|some l=>some (n::l)|none=>none
 |_=>none
omit hU in
theorem aOb:∀ {es:List (PD×PD)} {l:List (List UInt8)},P3 es=some l->es=K7 l
 | [],l,h=>by simp only[P3,yAb]at h;subst h;rfl
 |x::r,l,h=>by
  unfold P3 at h;split at h
  .cases ‹_::_=_›
  .rename_i n r' e;simp only[yBx]at e;obtain⟨rfl,rfl⟩:=e;split at h
   .rename_i l' hl;simp only[yAb]at h;subst h;rw[aOb hl];rfl
   .cases h
  .cases h
omit hU in
@[simp] theorem aHE:∀l:List (List UInt8),P3 (K7 l)=some l
  | []=>rfl
  |n::l=>by
   show P3 ((.str n,.bool true)::K7 l)=_
   simp only[P3,aHE l]
omit hU in
def HG:Nat->List PD->List U->Option (PD×List U):=λfl args σ=>match args with
 | [.fA id,.str nm]=>match σ[id]? with
   |some (.map es)=>match P3 es with
    |some ns=>if kD ns nm=true then some (.int .i64 9,σ)else if fl<=id then some (.int .i64 0,σ.set id (jN (ns++[nm])))else none
    |none=>none
   |_=>none
 |_=>none
omit hU in
theorem aHy{fl id:Nat}{ns:List (List UInt8)}{nm:Dr}{σ:Dp}(h:σ[id]?=some (jN ns))(hn:kD ns nm=true):HG fl [.fA id,.str nm] σ=some (.int .i64 9,σ):=by
 unfold HG;simp only[h,jN,aHE,hn,yAM]
omit hU in
theorem aHz{fl id:Nat}{ns:List (List UInt8)}{nm:Dr}{σ:Dp}(h:σ[id]?=some (jN ns))(hn:kD ns nm=false)(hf:fl<=id):HG fl [.fA id,.str nm] σ=some (.int .i64 0,σ.set id (jN (ns++[nm]))):=by
 unfold HG;simp only[h,jN,aHE,hn,hf,yAM];rfl
theorem aWJ(hE:aF prog E)(h0:E 51=none):aF prog (E.add 51 HG):=
 hE.add yp λfl args σ p σ' h=>by
  unfold HG at h;split at h
  .rename_i id nm;split at h
   .rename_i es hes;split at h
    .rename_i ns hns;have hm:σ[id]?=some (jN ns):=by rw[hes,aOb hns];rfl
     split at h
     .rename_i hs;simp only[yAb,yAc]at h;obtain⟨rfl,rfl⟩:=h;exact cF.P4 (a0x hU h0 fl id ns nm σ hm hs)
     .rename_i hs;split at h
      .rename_i hf;simp only[yAb,yAc]at h;obtain⟨rfl,rfl⟩:=h;exact cF.P4 (a0y hU h0 fl id ns nm σ hm hf (by simpa using hs))
      .cases h
    .cases h
   .cases h
  .cases h
end
section
def K6(rs:List aX)(lo hg:Int):List (List UInt8)->List cM->Int
 |_,[]=>0
 |ns,s::r=>if rJ rs lo hg s≠0 then rJ rs lo hg s else if kD ns s.name=true then 9 else K6 rs lo hg (ns++[s.name]) r
def tB(rs:List aX)(d:bY):Int:=if kB d.low d.high≠0 then kB d.low d.high else if 60<d.stops.length then 4 else K6 rs d.low d.high [] d.stops
def aAC(s:cM):Prop:=okS s/\iA s.name
def gSt:Nat->List PD->List U->Option (PD×List U):=entry (cU Em.place Em.stop i64 λx s=>bE (NT x.1/\aAC s) (some (rJ x.1 x.2.1 x.2.2 s)))
theorem a0u{rs:List aX}{s:cM}(h:NT rs)(hs:aAC s)(lo hg:Int)(fl:Nat)(σ:List U):gSt fl [.agg [aU.aA rs,.int .i64 lo,.int .i64 hg],Em.stop.aA s] σ=some (.int .i64 (rJ rs lo hg s),σ):=by
 have e1:=Em.cJ (Em.place.str (rs,lo,hg));rw[aHB]at e1;have e2:=Em.cJ (Em.stop.str s);unfold gSt entry cU;simp only[e1,e2];rw[dC ⟨h,hs⟩];rfl
variable{E:aE}(hU:aG E)
include hU
theorem aWL(h0:E 52=none)(h1:E 108=some VI)(h2:E 109=some gSt)(h3:E 51=some HG)(o:eK)(hrs:NT o.aU)(d:bY)(hd:d.stops.length<=1000000/\∀s∈d.stops,aAC s) :
  aJ prog E 52 [Em.fE.aA o,Em.div.aA d] (i64.aA (tB o.aU d)):=by
 obtain⟨on,rs,od,oc⟩:=o;obtain⟨dn,dp,lo,hg,l⟩:=d;have hC:=aHC lo hg;obtain⟨hdl,hds⟩:=hd;simp only at hrs hdl hds;unfold tB;simp only[yG,aCq,eN];obtain⟨c,hc⟩:=gn (kB lo hg);rw[hc]at hC ⊢
 by_cases c1:c=0
 rotate_left
 .rw[yAJ c1];refine aJ.aV 47 h0 func52 (h:=?_);refine lW (A3 h1 hC c1) ?_;exact aa
 subst c1;simp only[ne_eq,yBr,yAO]
 by_cases c2:60<l.length
 .have c3:60<(l.length:Int):=by omega
  rw[yAJ c2];refine aJ.aV 47 h0 func52 (h:=?_);refine lW (A4 h1 hC c2 c3) ?_;exact aa
 have c3:¬60<(l.length:Int):=ym;rw[yAI c2];obtain⟨B,hB⟩:=gn (K6 rs lo hg [] l);rw[hB];have us:=aDl;refine aJ.aV 47 h0 func52 (h:=?_);refine lW (A5 h1 hC c2 c3 @us) ?_;obtain⟨X,hX⟩:=gn (U.box (.agg [.str on,.slice (sz 6 rs) (rs.map Em.bC.aA) .any,.slice (sz 5 od) (od.map Em.div.aA) .any,.slice (sz 5 oc) (oc.map Em.cC.aA) .any]));obtain⟨Y,hY⟩:=gn (U.box (.agg [.str dn,.bool dp,.int .i64 lo,.int .i64 hg,.slice (sz 4 l) (l.map Em.stop.aA) .any]));refine Wp.dK (λm fr σ=>∃(i:Nat) (σ1:List U),∃gg:Nat->PD,(i+m=l.length/\σ1[0]?=some X/\σ1[1]?=some Y/\σ1[2]?=some (jN ((l.take i).map cM.name))/\K6 rs lo hg ((l.take i).map cM.name) (l.drop i)=B)/\fr=[gg 0,gg 1,.ptr 0 0,.ptr 1 0,gg 4,gg 5,.fA 2,gg 7,gg 8,gg 9,gg 10,gg 11,gg 12,gg 13,gg 14,gg 15,gg 16,gg 17,gg 18,gg 19,gg 20,gg 21,gg 22,aCp.aA l,.int .i64 l.length,.int .i64 i,gg 26,gg 27,gg 28,gg 29,gg 30,gg 31,gg 32,gg 33,gg 34,gg 35,gg 36,gg 37,gg 38,gg 39,gg 40,gg 41,gg 42,gg 43,gg 44,gg 45,gg 46]/\σ=σ1) ?_ (l.length) (by refine⟨0,[X,Y,.map []],?_⟩;exact fL (⟨ym,rfl,rfl,rfl,hB⟩) (A2 hX hY))
 rintro m fr σ ⟨i,σ1,gg,hI,rfl,rfl⟩
 obtain⟨hm,hx0,hy0,hz0,hs⟩:=hI
 by_cases hi:i<l.length
 .have q1:(i:Int)<(l.length:Int):=by omega
  obtain⟨a,ha⟩:=gn (l[i]);have hc4:l.drop i=a::l.drop (i+1):=zq;have htk:(l.take (i+1)).map cM.name=(l.take i).map cM.name++[a.name]:=by rw[yBX hi,ha,yAH];rfl
  have hE:=a0u hrs (hds a (ha▸yAm hi)) lo hg;rw[hc4]at hs;unfold K6 at hs;have hx1:=hx0;have hy1:=hy0;rw[<-hX]at hx1;rw[<-hY]at hy1;obtain⟨fP,hxe⟩:=yA.1 hx1;obtain⟨kP,hye⟩:=yA.1 hy1;obtain⟨hlt2,hze⟩:=yA.1 hz0;obtain⟨a0,a1,a2,a3⟩:=a;have j0:∀x:U,(σ++[x])[σ.length]?=some x:=λx=>yo
  obtain⟨e,he⟩:=gn (rJ rs lo hg ⟨a0,a1,a2,a3⟩);rw[he]at hE hs;simp only[PE,eN]at hE;simp only at hs htk
  by_cases c4:e=0
  rotate_left
  .rw[yAJ c4]at hs;subst hs;refine lW (A13 q1 hi ha j0 hx1 hy1 fP kP hxe hye h2 hE c4) ?_;exact aa
  subst c4;simp only[ne_eq,yBr,yAO]at hs;obtain⟨Z,hZ⟩:=gn (U.box (.agg [.str a0,.int .i64 a1,.int .i64 a2,.slice (sz 3 a3) (a3.map Em.cK.aA) .any]));have hmz:(σ++[Z])[2]?=some (jN ((l.take i).map cM.name)):=by rw[yAg hlt2];exact hz0
  cases hb:kD ((l.take i).map cM.name) a0 with
  |true=>
   rw[hb]at hs;rw[yAJ rfl]at hs;subst hs;have hA:=λfl=>aHy (fl:=fl) hmz hb
   rw[<-hZ]at hA;refine lW xx ?_;exact aa
  |false=>
   rw[hb]at hs;rw[yAI yo]at hs;have hA:=aHz (fl:=0) hmz hb (yAF _);obtain⟨lF,nH⟩:=gn ((σ++[Z]).set 2 (jN ((l.take i).map cM.name++[a0])));have t0:lF[0]?=some X:=by rw[<-nH,yAd ym,yAg fP];exact hx0
   have t1:lF[1]?=some Y:=by rw[<-nH,yAd ym,yAg kP];exact hy0
   have t2:lF[2]?=some (jN ((l.take i).map cM.name++[a0])):=by rw[<-nH];exact yAj zc
   rw[nH]at hA;rw[<-hZ]at hA;clear nH;refine lW xx ?_;refine aL.normal (m-1) ym (by refine⟨i+1,lF,?_⟩;exact bV (⟨ym,t0,t1,by rw[htk];exact t2,by rw[htk];exact hs⟩))
 .have q1:¬(i:Int)<(l.length:Int):=by omega
  rw[yAs ym]at hs;have fZ:B=0:=hs.symm;refine lW q1 ?_;exact au
end
section
theorem a1h(n:Int)(h:gG n):MS prog 55 (.slice 1 [.str [79,112,101,110],.str [70,108,117,116,101],.str [82,101,101,100]] .full) (.int .u8 (n.tmod 3))=some (.cI [.str (NU n)] 0):=by
 obtain⟨k,rfl⟩:∃k:Nat,n=k:=⟨n.toNat,Da⟩;have hm:(k:Int).tmod 3=((k%3:Nat):Int):=rfl;have hs:NU k=SU.getD (k%3) []:=by
  unfold NU
  congr 1
 rw[hm,hs];have hlt:k%3<3:=yBj _ yx
 generalize k%3=j at hlt
 match j,hlt with
 |0,_=>exact rfl
 |1,_=>exact rfl
 |2,_=>exact rfl
theorem a1i(x:mP)(k:Nat)(hk:k<=1000)(id off:Nat):MS prog 109 (.ptr id off) (.int .i64 ((k:Int).tmod 5))=some (.ptr id (off+k%5)) /\
  [PD.int .u8 x.o9,.int .u8 x.bB,.int .i8 x.first,.int .u8 x.NA,.int .u8 x.w0,.int .u8 x.w1,.int .u8 x.w2,.int .u8 x.w3,.int .u8 x.w4][4+k%5]?=some (.int .u8 (HY x k)):=by
 have hm:(k:Int).tmod 5=((k%5:Nat):Int):=rfl;have hs:HY x k=[x.w0,x.w1,x.w2,x.w3,x.w4].getD (k%5) 0:=rfl;rw[hm,hs];have hlt:k%5<5:=yBj _ yx
 generalize k%5=j at hlt
 match j,hlt with
 |0,_=>exact⟨rfl,rfl⟩
 |1,_=>exact⟨rfl,rfl⟩
 |2,_=>exact⟨rfl,rfl⟩
 |3,_=>exact⟨rfl,rfl⟩
 |4,_=>exact⟨rfl,rfl⟩
variable{E:aE}(hU:aG E)
include hU
theorem aVo(h0:E 43=none)(h1:E 99=some (entry (aY jW Em.bB λn=>bE (gG n) (some (oP n)))))(x:mP)(hx:OH x)(i:Nat)(hi:i<10) :
  aJ prog E 43 [Em.GV.aA x,.int .i64 i] (Em.bC.aA (vZ x i)):=by
 have hw:=a1i x;have hwl:∀k,(HZ x k).length=k:=λk=>by simp[HZ]
 have hws:∀k,HZ x (k+1)=HZ x k++[HY x k]:=λk=>by simp[HZ,yCW]
 have hwb:∀k,0<=HY x k/\HY x k<=255:=λk=>by
  have hlt:k%5<5:=yBj _ yx;exact fy
 obtain⟨W,hW⟩:=gn (HZ x);obtain⟨wa,hwa⟩:=gn (HY x);obtain⟨dg,hdg⟩:=gn (UInt8.ofNat (48+(i:Int)).toNat);have hR:vZ x i=⟨[82,dg],NU x.o9,(oP x.bB).1,(oP x.bB).2,x.first,W (1+(x.NA%25).toNat)⟩:=by
  rw[<-hW];unfold vZ digit;rw[Nat.mod_eq_of_lt hi,<-hdg,show(48+(i:Int)).toNat=48+i by omega]
 rw[hR];rw[hwa]at hw hws hwb;rw[hW]at hws hwl;clear hR hW hwa;obtain⟨t,f,fi,pi,w0,w1,w2,w3,w4⟩:=x;obtain⟨ht,hf,hfi,hpi,g0,g1,g2,g3,g4⟩:=hx;simp only at hw ht hf hfi hpi;obtain⟨p,rfl⟩:∃p:Nat,pi=p:=⟨pi.toNat,by have:=hpi.1;omega⟩;have a8V:p%25<25:=yBj _ yx;obtain⟨N,hN⟩:=gn (p%25);have e1:((p:Int)).tmod 25=(N:Int):=by rw[<-hN];rfl
 have e2:IntKind.i64.wrap (N:Int)=(N:Int):=zd;have e3:IntKind.i64.wrap (1+(N:Int))=1+(N:Int):=zd;have e4:((p:Int)%25).toNat=N:=ym;simp only[aLC,RN,eN,e4];have hT:=a1h t ht;have d1:((i:Int)).tmod 10=(i:Int):=Int.tmod_eq_of_lt ym ym;have d2:IntKind.i64.wrap (48+(i:Int))=48+(i:Int):=zd;have d3:IntKind.u8.wrap (48+(i:Int))=48+(i:Int):=zf;have d4:IntKind.i64.wrap fi=fi:=by have:=hfi.1;have:=hfi.2;rw[yB];omega
 have hF:∀fl σ,entry (aY jW Em.bB λn=>bE (gG n) (some (oP n))) fl [.int .u8 f] σ=some (.agg [.int .i64 (oP f).1,.int .i64 (oP f).2],σ):=λfl σ=>by
  exact pz
 refine aJ.aV 48 h0 func43 (h:=?_);refine aD (A8 h1 hT @d1 @d2 @d3 @d4 hdg hF) ?_;have hW0:W 0=[]:=yAf (hwl 0);refine Wp.dK (λm fr σ=>∃(k z:Nat),∃gg:Nat->PD,(k+m=1+N/\(W k=[]\/z=1))/\fr=[gg 0,gg 1,.ptr 0 0,gg 3,.ptr 1 0,.ptr 2 0,.int .i64 k,gg 7,gg 8,gg 9,gg 10,gg 11,gg 12,gg 13,gg 14,gg 15,gg 16,gg 17,gg 18,gg 19,gg 20,gg 21,gg 22,gg 23,gg 24,gg 25,gg 26,gg 27,gg 28,gg 29,gg 30,gg 31,gg 32,gg 33,gg 34,gg 35,gg 36,gg 37,gg 38,gg 39,gg 40,gg 41,gg 42,gg 43,gg 44,gg 45,gg 46,gg 47]/\σ=St [.box (.agg [.int .u8 t,.int .u8 f,.int .i8 fi,.int .u8 p,.int .u8 w0,.int .u8 w1,.int .u8 w2,.int .u8 w3,.int .u8 w4]),.box (.agg [.str [],.str [],.int .i64 0,.int .i64 0,.int .i64 0,.slice 0 [] .full]),.box (.agg [.str [82,dg],.str (NU t),.int .i64 (oP f).1,.int .i64 (oP f).2,.int .i64 fi,.slice z ((W k).map i64.aA) (jH 3 (W k).length)])] 3 1 (W k).length) ?_ (1+N) (by refine⟨0,0,?_⟩;exact qT (⟨ym,.inl hW0⟩) Bd Bd)
 rintro m fr σ ⟨k,z,gg,hI,rfl,rfl⟩
 obtain⟨hm,hz⟩:=hI
 by_cases hk:k<1+N
 .have q1:(k:Int)<1+(N:Int):=by omega
  obtain⟨hw1,lN⟩:=hw k ym 0 4;obtain⟨a8W,hw3⟩:=yA.1 lN;have mD:IntKind.i64.wrap (wa k)=wa k:=by have:=hwb k;rw[yB];omega
  have hl:=hwl k;refine aD (A10 e1 e2 e3 q1 hw1 lN hw3 mD hz hl) ?_;refine aL.normal (m-1) ym (by refine⟨k+1,1,?_⟩;exact fL (⟨ym,.inr rfl⟩) (A2 hws hl))
 .have q1:¬(k:Int)<1+(N:Int):=by omega
  obtain rfl:k=1+N:=ym;refine aD (A4 e1 e2 e3 q1) ?_;have hne:W (1+N)≠[]:=λh=>by have:=hwl (1+N);rw[h]at this;simp at this;omega
  have hz1:z=1:=hz.resolve_left hne;subst hz1;simp(disch:=first|omega|(simp;done)|(simp;omega)) [yAu,hwl,T6 hne]<;>try rfl
end
section
theorem aHM(n:Int)(h:gG n):mG n∈PI:=by
 obtain⟨k,rfl⟩:∃k:Nat,n=k:=⟨n.toNat,Da⟩;have hs:mG k=PI.getD (k%6) (8,1):=by
  unfold mG
  congr 1
 rw[hs];have hlt:k%6<6:=yBj _ yx
 generalize k%6=j at hlt
 match j,hlt with
 |0,_=>decide
 |1,_=>decide
 |2,_=>decide
 |3,_=>decide
 |4,_=>decide
 |5,_=>decide
theorem a1c(n:Int)(h:gG n):oP n∈qZ:=by
 obtain⟨k,rfl⟩:∃k:Nat,n=k:=⟨n.toNat,Da⟩;have hs:oP k=qZ.getD (k%16) (8,1):=by
  unfold oP
  congr 1
 rw[hs];have hlt:k%16<qZ.length:=yBj _ yx;rw[yAA,yAh hlt];exact yAm hlt
theorem aHN(a b:Int×Int):-60<=E8 a b/\E8 a b<=64:=by
 unfold E8;cases h:aHG.find? λt=>decide (t.1=a)&&decide (t.2.1=b)with
 |none=>exact⟨yx,yx⟩
 |some t=>
  have hm:=List.mem_of_find?_eq_some h;exact(by decide:∀t∈aHG,-60<=t.2.2/\t.2.2<=64) t hm
def RR:Nat->List PD->List U->Option (PD×List U):=entry (cU Em.bB Em.bB (Em.iH i64 i64) λa b=>bE (a∈PI/\b∈qZ) (some (E8 a b,0)))
theorem aOo{a b:Int×Int}(ha:a∈PI)(hb:b∈qZ)(fl:Nat)(σ:List U):RR fl [.agg [.int .i64 a.1,.int .i64 a.2],.agg [.int .i64 b.1,.int .i64 b.2]] σ=some (.aI [.int .i64 (E8 a b),.int .i64 0],σ):=by
 have e1:Em.bB.dec (.agg [.int .i64 a.1,.int .i64 a.2])=some a:=Em.cJ (Em.bB.str a);have e2:Em.bB.dec (.agg [.int .i64 b.1,.int .i64 b.2])=some b:=Em.cJ (Em.bB.str b);unfold RR entry cU;simp only[e1,e2];rw[dC ⟨ha,hb⟩];rfl
variable{E:aE}(hU:aG E)
include hU
theorem aVe(h0:E 44=none)(h1:E 100=some (entry (aY jW Em.bB λn=>bE (gG n) (some (mG n)))))(h2:E 101=some RR)
  (rs:List aX) (hrs:∀r∈rs,(r.num,r.den)∈qZ) (vG:1<=rs.length) (hr2:rs.length<=60) (lo hg:Int) (hlo:0<=lo) (hlh:lo<=hg) (hhg:hg<=200) (x:pI) (hx:QO x) (i:Nat) (a8U:i<10) :
  aJ prog E 44 [aU.aA rs,.agg [.int .i64 lo,.int .i64 hg],Em.pull.aA x,.int .i64 i] (Em.stop.aA (yX rs lo hg x i)):=by
 obtain⟨r,f,k,a⟩:=x;obtain⟨hr,hf,hk,ha⟩:=hx;simp only at hr hf hk ha;obtain⟨r,rfl⟩:∃q:Nat,r=q:=⟨r.toNat,by have:=hr.1;omega⟩;obtain⟨k,rfl⟩:∃q:Nat,k=q:=⟨k.toNat,by have:=hk.1;omega⟩;obtain⟨a,rfl⟩:∃q:Nat,a=q:=⟨a.toNat,by have:=ha.1;omega⟩;have hrb:=hr.2;have hab:=ha.2;obtain⟨n,hn⟩:=gn (r%rs.length);have hnl:n<rs.length:=by rw[<-hn];exact yBj _ vG
 obtain⟨m,hm⟩:=gn ((n+1)%rs.length);have hml:m<rs.length:=by rw[<-hm];exact yBj _ vG
 have c1:(r:Int).tmod (rs.length:Int)=n:=by rw[<-hn];rfl
 have eA:(r:Int)%(rs.length:Int)=n:=by rw[<-hn];rfl
 have c2:((n:Int)+1).tmod (rs.length:Int)=m:=by rw[<-hm];rfl
 have iT:((n:Int)+1)%(rs.length:Int)=m:=by rw[<-hm];rfl
 obtain⟨j,hj⟩:=gn (k%6);have hj6:j<6:=by rw[<-hj];exact yBj _ yx
 have c3:(k:Int).tmod 6=(j:Int):=by rw[<-hj];rfl
 have mH:(k:Int)%6=(j:Int):=by rw[<-hj];rfl
 obtain⟨w,hw⟩:∃w:Nat,hg-lo+1=w:=⟨(hg-lo+1).toNat,ym⟩;obtain⟨u,hu⟩:=gn (a%w);have huw:u<w:=by rw[<-hu];exact yBj _ ym
 have c4:(a:Int).tmod (w:Int)=u:=by rw[<-hu];rfl
 have gA:(a:Int)%(w:Int)=u:=by rw[<-hu];rfl
 obtain⟨q,hq⟩:=gn (rs[n]);obtain⟨p,hp⟩:=gn (rs[m]);have hqf:=hrs q (hq▸yAm hnl);have hpf:=hrs p (hp▸yAm hml);have FG:P7 rs n=(q.num,q.den):=by unfold P7;rw[yAA,yAh hnl,hq];rfl
 have hF2:P7 rs m=(p.num,p.den):=by unfold P7;rw[yAA,yAh hml,hp];rfl
 obtain⟨sh,hsh⟩:=gn (E8 (mG f) (q.num,q.den));obtain⟨st,hst⟩:=gn (E8 (mG f) (p.num,p.den));have hS1:=aOo (aHM f hf) hqf;have hS2:=aOo (aHM f hf) hpf;rw[hsh]at hS1;rw[hst]at hS2;obtain⟨dg,hdg⟩:=gn (UInt8.ofNat (48+(i:Int)).toNat);have hR:yX rs lo hg ⟨r,f,k,a⟩ i=⟨[83,dg],(mG f).1,(mG f).2,tC j n sh lo hg (lo+u) m st⟩:=by
  unfold yX digit;simp only[eA,iT,mH,hw,gA,yBk,FG,hF2,hsh,hst,<-hdg,show(48+(i:Int)).toNat=48+i by omega]
 rw[hR];have a1g:-60<=sh/\sh<=64:=hsh▸aHN _ _
 clear hR FG hF2 hsh hst;obtain⟨q0,q1,q2,q3,q4,q5⟩:=q;obtain⟨p0,p1,p2,p3,p4,p5⟩:=p;simp only at hS1 hS2;have d2:IntKind.i64.wrap (48+(i:Int))=48+(i:Int):=zd;have d3:IntKind.u8.wrap (48+(i:Int))=48+(i:Int):=zf;have d4:IntKind.i64.wrap (r:Int)=r:=zd;have d5:IntKind.i64.wrap (a:Int)=a:=zd;have d6:IntKind.i64.wrap (hg-lo)=hg-lo:=zd;have d7:IntKind.i64.wrap (hg-lo+1)=w:=zd;have d8:IntKind.i64.wrap (lo+(u:Int))=lo+u:=zd;have d9:¬(rs.length:Int)=0:=ym;have d10:¬(w:Int)=0:=ym;have d11:¬rs=[]:=λh=>by rw[h]at vG;simp at vG
 have d12:¬w=0:=ym;have hF:∀fl σ,entry (aY jW Em.bB λn=>bE (gG n) (some (mG n))) fl [.int .u8 f] σ=some (.agg [.int .i64 (mG f).1,.int .i64 (mG f).2],σ):=λfl σ=>by
  exact pz
 simp only[aLE,PE,eN];refine aJ.aV 158 h0 func44 (h:=?_);refine aD (A20 h1 h2 c1 c3 c4 @d2 @d3 @d4 @d5 @d6 @d7 @d8 @d9 @d10 @d11 @d12 hF hS1 hnl (A2 hq hdg)) ?_;have hsb:-60<=sh/\sh<=64:=a1g;have b1:IntKind.i64.wrap (sh+7)=sh+7:=zd;have b2:IntKind.i64.wrap (sh-12)=sh-12:=zd;have b3:IntKind.i64.wrap (lo+(u:Int)-1)=lo+u-1:=zd;have b4:IntKind.i64.wrap ((n:Int)+1)=(n:Int)+1:=zd
 match j,hj6 with
 |0,_=>
  exact ck
 |1,_=>
  exact ck
 |2,_=>
  exact ck
 |3,_=>
  by_cases NX:lo<lo+(u:Int)
  .exact wz
  .exact wz
 |4,_=>
  by_cases NX:lo<lo+(u:Int)
  .refine aD (A5 b1 b2 b3 c3 NX) ?_;exact bq
  .refine aD (A5 b1 b2 b3 c3 NX) ?_;exact bq
 |5,_=>
  exact ck
end
section
theorem a05(R:List mP)(i:Nat)(a:mP)(hi:i<R.length)(ha:R[i]=a):fV R (i+1)=fV R i++[vZ a i]:=by
 unfold fV;exact mo
theorem aOl(R:List mP)(i:Nat):(fV R i).length=i:=by simp[fV]
def gRM:Nat->List PD->List U->Option (PD×List U):=entry (cU Em.GV i64 Em.bC λx i=>bE (OH x/\0<=i/\i<10) (some (vZ x i.toNat)))
theorem a06{x:mP}{i:Nat}(hx:OH x)(hi:i<10)(fl:Nat)(σ:List U):gRM fl [Em.GV.aA x,.int .i64 i] σ=some (Em.bC.aA (vZ x i),σ):=by
 have e2:i64.dec (.int .i64 (i:Int))=some (i:Int):=Em.cJ rfl;unfold gRM entry cU;simp only[Em.OU,e2];rw[dC ⟨hx,ym,ym⟩];rfl
theorem a07(rs:List aX)(D:List sR)(i:Nat)(a:sR)(hi:i<D.length)(ha:D[i]=a):kE rs D (i+1)=kE rs D i++[LA rs a i]:=by
 unfold kE;exact mo
theorem aOm(rs:List aX)(D:List sR)(i:Nat):(kE rs D i).length=i:=by simp[kE]
theorem a08(rs:List aX)(lo hg:Int)(L:List pI)(i:Nat)(a:pI)(hi:i<L.length)(ha:L[i]=a):yY rs lo hg L (i+1)=yY rs lo hg L i++[yX rs lo hg a i]:=by
 unfold yY;exact mo
theorem a09(rs:List aX)(lo hg:Int)(L:List pI)(i:Nat):(yY rs lo hg L i).length=i:=by simp[yY]
theorem a1a(n:Nat)(L:List vB)(i:Nat)(a:vB)(hi:i<L.length)(ha:L[i]=a):lJ n L (i+1)=lJ n L i++[WK n a i]:=by
 unfold lJ;exact mo
theorem aHL(n:Nat)(L:List vB)(i:Nat):(lJ n L i).length=i:=by simp[lJ]
theorem iB.ne{σ:Dp}{tok:Tok}{e:TypeId}{k n id:Nat}{o:U}(h:iB σ tok e k n)(ho:σ[id]?=some o)(hn:mC (some o)):tok≠.own id:=by
 rintro rfl
 rcases h with⟨_,h⟩ | ⟨_,id',h,h2⟩
 .cases h
 .simp only[Tok.own.injEq]at h;subst h;rw[ho,yAb]at h2;subst h2;exact hn
theorem iB.set{σ:Dp}{tok:Tok}{e:TypeId}{k n id:Nat}{o x:U}(h:iB σ tok e k n)(ho:σ[id]?=some o)(hn:mC (some o)):iB (σ.set id x) tok e k n:=
 h.MM λj o' ej hj=>by
  have:id≠j:=λe=>h.ne ho hn (by rw[ej,e])
  rw[yAd this];exact hj
theorem NV{σ τ:Dp}{i:Nat}{o:U}(h:σ[i]?=some o):(σ++τ)[i]?=some o:=by
 rw[yAg (yA.1 h).1];exact h
def gPl:List PD->Option PD:=λargs=>match args with
 | [a,b,c,d]=>match aU.dec a,Em.bB.dec b,Em.pull.dec c,i64.dec d with
   |some rs,some lh,some x,some i=>bE ((∀r∈rs,(r.num,r.den)∈qZ)/\1<=rs.length/\rs.length<=60/\0<=lh.1/\lh.1<=lh.2/\lh.2<=200/\QO x/\0<=i/\i<10) (some (Em.stop.aA (yX rs lh.1 lh.2 x i.toNat)))
   |_,_,_,_=>none
 |_=>none
def Z5:Nat->List PD->List U->Option (PD×List U):=entry gPl
theorem a1b{W:PD}{rs:List aX}{lo hg:Int}{x:pI}{i:Nat}(hW:W.strip=aU.aA rs)(hr:∀r∈rs,(r.num,r.den)∈qZ)(h1:1<=rs.length)(h2:rs.length<=60)(hlo:0<=lo)(hlh:lo<=hg)(hhg:hg<=200)(hx:QO x)(hi:i<10)(fl:Nat)(σ:List U) :
  Z5 fl [W,.agg [.int .i64 lo,.int .i64 hg],Em.pull.aA x,.int .i64 i] σ=some (Em.stop.aA (yX rs lo hg x i),σ):=by
 have e1:aU.dec W=some rs:=Em.cJ hW;have e2:Em.bB.dec (.agg [.int .i64 lo,.int .i64 hg])=some (lo,hg):=Em.cJ (Em.bB.str (lo,hg));have e3:i64.dec (.int .i64 (i:Int))=some (i:Int):=Em.cJ rfl;unfold Z5 entry gPl;simp only[e1,e2,e3,Em.OU];rw[dC ⟨hr,h1,h2,hlo,hlh,hhg,hx,ym,ym⟩];rfl
variable{E:aE}(hU:aG E)
include hU
theorem aVq(h0:E 20=none)(h1:E 43=some gRM)(h2:E 44=some Z5)(p:sS)(hp:TV p)(hf:oO p=true):aJ prog E 20 [Em.GW.aA p] (Em.fE.aA (tD p)):=by
 obtain⟨R,D,C⟩:=p;have SH:=hf;simp only[oO,yAr,yBC]at SH;obtain⟨⟨⟨⟨⟨hR1,hR3⟩,pE⟩,hD3⟩,hC3⟩,LB⟩:=SH;obtain⟨hpR,hpD,hpC⟩:=hp;simp only at hpR hpD hpC;simp only[VD,yG,eN];refine aJ.aV 153 h0 func20 (h:=?_);refine aD trivial ?_;refine Wp.dK (λm fr σ=>∃(i z:Nat),∃gg:Nat->PD,(i+m=R.length/\(fV R i=[]\/z=6))/\fr=gg 0::.ptr 0 0::.ptr 1 0::.ptr 2 0::.int .i64 i::gg 5::gg 6::gg 7::gg 8::gg 9::gg 10::gg 11::gg 12::gg 13::gg 14::gg 15::gg 16::gg 17::gg 18::gg 19::gg 20::gg 21::gg 22::gg 23::gg 24::gg 25::gg 26::gg 27::gg 28::gg 29::gg 30::gg 31::gg 32::gg 33::gg 34::gg 35::gg 36::gg 37::gg 38::gg 39::gg 40::gg 41::gg 42::gg 43::gg 44::gg 45::gg 46::gg 47::gg 48::gg 49::gg 50::gg 51::gg 52::gg 53::gg 54::gg 55::gg 56::gg 57::gg 58::gg 59::gg 60::gg 61::gg 62::gg 63::gg 64::gg 65::gg 66::gg 67::gg 68::gg 69::gg 70::gg 71::gg 72::gg 73::gg 74::gg 75::gg 76::gg 77::gg 78::gg 79::gg 80::gg 81::gg 82::gg 83::gg 84::gg 85::gg 86::gg 87::gg 88::gg 89::gg 90::gg 91::gg 92::gg 93::gg 94::gg 95::gg 96::gg 97::gg 98::gg 99::gg 100::gg 101::gg 102::gg 103::gg 104::gg 105::gg 106::gg 107::gg 108::gg 109::gg 110::gg 111::gg 112::gg 113::gg 114::gg 115::gg 116::gg 117::gg 118::gg 119::gg 120::gg 121::gg 122::gg 123::gg 124::gg 125::gg 126::gg 127::gg 128::gg 129::gg 130::gg 131::gg 132::gg 133::gg 134::gg 135::gg 136::gg 137::gg 138::gg 139::gg 140::gg 141::gg 142::gg 143::gg 144::gg 145::gg 146::gg 147::gg 148::gg 149::gg 150::gg 151::gg 152::[]/\σ=St [.box (.agg [.slice (sz 9 R) (R.map Em.GV.aA) .any,.slice (sz 4 D) (D.map Em.OI.aA) .any,.slice (sz 4 C) (C.map Em.link.aA) .any]),.box (.agg [.str [],.slice 0 [] .full,.slice 0 [] .full,.slice 0 [] .full]),.box (.agg [.str [79,114,103,97,110],.slice z ((fV R i).map Em.bC.aA) (jH 3 (fV R i).length),.slice 0 [] .full,.slice 0 [] .full])] 84 6 (fV R i).length) ?_ (R.length) (by refine⟨0,0,?_⟩;exact qT (⟨ym,.inl rfl⟩) Bh Bh)
 rintro m fr σ ⟨i,z,gg,hI,rfl,rfl⟩
 obtain⟨hm,hz⟩:=hI
 by_cases hi:i<R.length
 .have q1:(i:Int)<(R.length:Int):=by omega
  obtain⟨a,ha⟩:=gn (R[i]);have hs:=a05 R i a hi ha;have hl:=aOl R i;have hG:=a06 (i:=i) (hpR a (ha▸yAm hi)) ym;obtain⟨q,hq⟩:=gn (vZ a i);rw[hq]at hG hs;obtain⟨L,hL⟩:=gn (fV R i);rw[hL]at hz hl hs ⊢;obtain⟨q0,q1',q2,q3,q4,q5⟩:=q;obtain⟨a0,a1,a2,a3,a4,a5,a6,a7,a8⟩:=a;simp only[aLC,RN,eN]at hG;refine aD (A7 q1 hi ha h1 hG hz hl) ?_;refine aL.normal (m-1) ym (by refine⟨i+1,6,?_⟩;exact fL (⟨ym,.inr rfl⟩) (A2 hs hl))
 .have q1:¬(i:Int)<(R.length:Int):=by omega
  obtain rfl:i=R.length:=ym;have hl:=aOl R R.length;have hne:fV R R.length≠[]:=λh=>by rw[h]at hl;simp at hl;omega
  have hz6:z=6:=hz.resolve_left hne;subst hz6;refine aD q1 ?_;have hrf:∀r∈fV R R.length,(r.num,r.den)∈qZ:=by
   intro r hr;simp only[fV,yAw,yAY]at hr;obtain⟨j,hj,rfl⟩:=hr;have:R.getD j default=R[j]:=by simp[yAA,hj]
   rw[this];exact a1c _ (hpR _ (yAm hj)).2.1
  have hrl:=hl;obtain⟨rs,hrs⟩:=gn (fV R R.length);have hO:tD ⟨R,D,C⟩=⟨[79,114,103,97,110],rs,kE rs D D.length,lJ D.length C C.length⟩:=by
   unfold tD;simp only[hrs]
  rw[hO];rw[hrs]at hrf hrl hne ⊢;clear hO hrs hz hl hm q1;obtain⟨W,hW⟩:=gn (PD.slice 6 (rs.map Em.bC.aA) (jH 3 rs.length));have hWs:W.strip=aU.aA rs:=by
   rw[<-hW,PD.lD];show _=PD.slice (sz 6 rs) (rs.map Em.bC.aA) .any
   rw[T6 hne,show(rs.map Em.bC.aA).map PD.strip=rs.map Em.bC.aA by rw[yBc];exact yAG λx _=>Em.bC.str x];simp[hne]
  rw[hW];obtain⟨X0,pO⟩:=gn (U.box (.agg [.slice (sz 9 R) (R.map Em.GV.aA) .any,.slice (sz 4 D) (D.map Em.OI.aA) .any,.slice (sz 4 C) (C.map Em.link.aA) .any]));obtain⟨aQ,KN⟩:=gn (St [X0,.box (.agg [.str [],.slice 0 [] .full,.slice 0 [] .full,.slice 0 [] .full]),.box (.agg [.str [79,114,103,97,110],W,.slice 0 [] .full,.slice 0 [] .full])] 84 6 rs.length);have s0:aQ[0]?=some X0:=by rw[<-KN];exact aEI yo
  have s1:aQ[1]?=some (.box (.agg [.str [],.slice 0 [] .full,.slice 0 [] .full,.slice 0 [] .full])):=by rw[<-KN];exact aEI yo
  have s2:aQ[2]?=some (.box (.agg [.str [79,114,103,97,110],W,.slice 0 [] .full,.slice 0 [] .full])):=by rw[<-KN];exact aEI yo
  rw[pO,KN];have hB0:kE rs D 0=[]:=rfl;refine Wp.dK (λm fr σ=>∃(i z:Nat) (tok:Tok) (σ1:List U),∃gg:Nat->PD,(i+m=D.length/\(kE rs D i=[]\/z=5)/\iB σ1 tok 62 5 i/\σ1[0]?=some X0/\σ1[1]?=some (.box (.agg [.str [],.slice 0 [] .full,.slice 0 [] .full,.slice 0 [] .full]))/\σ1[2]?=some (.box (.agg [.str [79,114,103,97,110],W,.slice z ((kE rs D i).map Em.div.aA) tok,.slice 0 [] .full])))/\fr=gg 0::.ptr 0 0::.ptr 1 0::.ptr 2 0::gg 4::.int .i64 i::gg 6::gg 7::gg 8::gg 9::gg 10::gg 11::gg 12::gg 13::gg 14::gg 15::gg 16::gg 17::gg 18::gg 19::gg 20::gg 21::gg 22::gg 23::gg 24::gg 25::gg 26::gg 27::gg 28::gg 29::gg 30::gg 31::gg 32::gg 33::gg 34::gg 35::gg 36::gg 37::gg 38::gg 39::gg 40::gg 41::gg 42::gg 43::gg 44::gg 45::gg 46::gg 47::gg 48::gg 49::gg 50::gg 51::gg 52::gg 53::gg 54::gg 55::gg 56::gg 57::gg 58::gg 59::gg 60::gg 61::gg 62::gg 63::gg 64::gg 65::gg 66::gg 67::gg 68::gg 69::gg 70::gg 71::gg 72::gg 73::gg 74::gg 75::gg 76::gg 77::gg 78::gg 79::gg 80::gg 81::gg 82::gg 83::gg 84::gg 85::gg 86::gg 87::gg 88::gg 89::gg 90::gg 91::gg 92::gg 93::gg 94::gg 95::gg 96::gg 97::gg 98::gg 99::gg 100::gg 101::gg 102::gg 103::gg 104::gg 105::gg 106::gg 107::gg 108::gg 109::gg 110::gg 111::gg 112::gg 113::gg 114::gg 115::gg 116::gg 117::gg 118::gg 119::gg 120::gg 121::gg 122::gg 123::gg 124::gg 125::gg 126::gg 127::gg 128::gg 129::gg 130::gg 131::gg 132::gg 133::gg 134::gg 135::gg 136::gg 137::gg 138::gg 139::gg 140::gg 141::gg 142::gg 143::gg 144::gg 145::gg 146::gg 147::gg 148::gg 149::gg 150::gg 151::gg 152::[]/\σ=σ1) ?_ (D.length) (by refine⟨0,0,.full,aQ,?_⟩;exact bV (⟨ym,.inl rfl,.inl ⟨rfl,rfl⟩,s0,s1,by rw[hB0];exact s2⟩))
  rintro m fr σ ⟨i,z,tok,σ1,gg,hI,rfl,rfl⟩
  obtain⟨hm,hz,hrow,g0,g1,g2⟩:=hI
  by_cases hi:i<D.length
  .have q1:(i:Int)<(D.length:Int):=by omega
   obtain⟨a,ha⟩:=gn (D[i]);obtain⟨hl8,hk8,hP8⟩:=hpD a (ha▸yAm hi);have hP3:a.stops.length<=3:=by
    have:=yAn.1 LB a (ha▸yAm hi);exact bp
   have hbs:=a07 rs D i a hi ha;obtain⟨l,ke,pe,P⟩:=a;simp only at hl8 hk8 hP8 hP3;obtain⟨l,rfl⟩:∃q:Nat,l=q:=⟨l.toNat,by have:=hl8.1;omega⟩;obtain⟨ke,rfl⟩:∃q:Nat,ke=q:=⟨ke.toNat,by have:=hk8.1;omega⟩;obtain⟨L,hL⟩:=gn (l%12);obtain⟨K,hK⟩:=gn (ke%9);have t1:(l:Int).tmod 12=(L:Int):=by rw[<-hL];rfl
   have t2:IntKind.i64.wrap (L:Int)=(L:Int):=zd;have t3:IntKind.i64.wrap (36+(L:Int))=36+(L:Int):=zd;have t4:(ke:Int).tmod 9=(K:Int):=by rw[<-hK];rfl
   have t5:IntKind.i64.wrap (K:Int)=(K:Int):=zd;have t6:IntKind.i64.wrap (36+(L:Int)+(K:Int))=36+(L:Int)+K:=zd;have d2:IntKind.i64.wrap (48+(i:Int))=48+(i:Int):=zd;have d3:IntKind.u8.wrap (48+(i:Int))=48+(i:Int):=zf;obtain⟨dg,hdg⟩:=gn (UInt8.ofNat (48+(i:Int)).toNat);obtain⟨ps,hps⟩:=gn (yY rs (36+(L:Int)) (36+(L:Int)+K) P);have hbo:LA rs ⟨l,ke,pe,P⟩ i=⟨[68,dg],pe,36+(L:Int),36+(L:Int)+K,ps P.length⟩:=by
    unfold LA digit;simp only[show(l:Int)%12=(L:Int) by omega,show(ke:Int)%9=(K:Int) by omega,hps,<-hdg,show(48+(i:Int)).toNat=48+i by omega]
   rw[hbo]at hbs;have hpsl:∀k,(ps k).length=k:=λk=>by rw[<-hps];exact a09 _ _ _ _ _
   have aOn:ps 0=[]:=yAf (hpsl 0);have hpss:∀(k:Nat) (x:pI) (hk:k<P.length),P[k]=x->ps (k+1)=ps k++[yX rs (36+(L:Int)) (36+(L:Int)+K) x k]:=λk x hk hx=>by rw[<-hps];exact a08 _ _ _ _ _ _ hk hx
   have wA:=g0;rw[<-pO]at wA;refine aD (A13 q1 hi ha wA @t1 @t2 @t3 @t4 @t5 @t6 @d2 @d3 hdg) ?_;have hlt2:2<σ.length:=(yA.1 g2).1;obtain⟨BX,hBX⟩:=gn (U.box (.agg [.int .u8 l,.int .u8 ke,.bool pe,.slice (sz 4 P) (P.map Em.pull.aA) .any]));rw[hBX];obtain⟨DX,hDX⟩:=gn (U.box (.agg [.str [68,dg],.bool pe,.int .i64 (36+(L:Int)),.int .i64 (36+(L:Int)+K),.slice 0 [] .full]));rw[hDX];have u0:(σ++[BX,DX])[0]?=some X0:=by rw[yAg ym];exact g0
   have u1:(σ++[BX,DX])[1]?=_:=(yAg ym).trans g1;have u2:(σ++[BX,DX])[2]?=_:=(yAg ym).trans g2;have u3:(σ++[BX,DX])[σ.length]?=some BX:=yo;have u4:(σ++[BX,DX])[σ.length+1]?=some DX:=yo;have urow:=hrow.more (τ:=[BX,DX]);obtain⟨σ3,NW⟩:=gn (σ++[BX,DX]);rw[NW]at u0 u1 u2 u3 u4 urow ⊢;obtain⟨pb,hpb⟩:=gn (σ.length);rw[hpb]at u3 u4 hlt2 ⊢;obtain⟨M,hM⟩:∃M,M=m:=⟨_,rfl⟩;rw[<-hM]at hm ⊢;clear hM NW hpb g0 wA g1 g2 hrow;rw[<-hDX]at u4;refine Wp.dK (λm fr σ=>∃(k z2:Nat) (wB:Tok) (σ2:List U),∃gg:Nat->PD,(k+m=P.length/\(ps k=[]\/z2=4)/\iB σ2 wB 65 4 k/\iB σ2 tok 62 5 i/\(∀id,wB=.own id->tok≠.own id)/\σ2[0]?=some X0/\σ2[1]?=some (.box (.agg [.str [],.slice 0 [] .full,.slice 0 [] .full,.slice 0 [] .full]))/\σ2[2]?=some (.box (.agg [.str [79,114,103,97,110],W,.slice z ((kE rs D i).map Em.div.aA) tok,.slice 0 [] .full]))/\σ2[pb]?=some BX/\σ2[pb+1]?=some (.box (.agg [.str [68,dg],.bool pe,.int .i64 (36+(L:Int)),.int .i64 (36+(L:Int)+K),.slice z2 ((ps k).map Em.stop.aA) wB])))/\fr=gg 0::.ptr 0 0::.ptr 1 0::.ptr 2 0::gg 4::.int .i64 i::.ptr pb 0::gg 7::.ptr (pb+1) 0::.int .i64 k::gg 10::gg 11::gg 12::gg 13::gg 14::gg 15::gg 16::gg 17::gg 18::gg 19::gg 20::gg 21::gg 22::gg 23::gg 24::gg 25::gg 26::gg 27::gg 28::gg 29::gg 30::gg 31::gg 32::gg 33::gg 34::gg 35::gg 36::gg 37::gg 38::gg 39::gg 40::gg 41::gg 42::gg 43::gg 44::gg 45::gg 46::gg 47::gg 48::gg 49::gg 50::gg 51::gg 52::gg 53::gg 54::gg 55::gg 56::gg 57::gg 58::gg 59::gg 60::gg 61::gg 62::gg 63::gg 64::gg 65::gg 66::gg 67::gg 68::gg 69::gg 70::gg 71::gg 72::gg 73::gg 74::gg 75::gg 76::gg 77::gg 78::gg 79::gg 80::gg 81::gg 82::gg 83::gg 84::gg 85::gg 86::gg 87::gg 88::gg 89::gg 90::gg 91::gg 92::gg 93::gg 94::gg 95::gg 96::gg 97::gg 98::gg 99::gg 100::gg 101::gg 102::gg 103::gg 104::gg 105::gg 106::gg 107::gg 108::gg 109::gg 110::gg 111::gg 112::gg 113::gg 114::gg 115::gg 116::gg 117::gg 118::gg 119::gg 120::gg 121::gg 122::gg 123::gg 124::gg 125::gg 126::gg 127::gg 128::gg 129::gg 130::gg 131::gg 132::gg 133::gg 134::gg 135::gg 136::gg 137::gg 138::gg 139::gg 140::gg 141::gg 142::gg 143::gg 144::gg 145::gg 146::gg 147::gg 148::gg 149::gg 150::gg 151::gg 152::[]/\σ=σ2) ?_ (P.length) (by refine⟨0,0,.full,σ3,?_⟩;exact bV (⟨ym,.inl aOn,.inl ⟨rfl,rfl⟩,urow,(λid e=>zh),u0,u1,u2,u3,(by rw[aOn];exact u4)⟩))
   rintro m fr σ ⟨k,z2,wB,σ2,gg,hI,rfl,rfl⟩
   obtain⟨hm2,fU,dZ,hrowD,aCb,v0,v1,v2,v3,v4⟩:=hI
   by_cases hk:k<P.length
   .have q2:(k:Int)<(P.length:Int):=by omega
    obtain⟨x,hx⟩:=gn (P[k]);have hsu:=hpss k x hk hx;have hG:=a1b (i:=k) (x:=x) (lo:=36+(L:Int)) (hg:=36+(L:Int)+K) hWs hrf ym ym ym ym ym (hP8 x (hx▸yAm hk)) ym;obtain⟨q,hq⟩:=gn (yX rs (36+(L:Int)) (36+(L:Int)+K) x k);rw[hq]at hG hsu;obtain⟨q0,q1',q2',q3⟩:=q;obtain⟨x0,x1,x2,x3⟩:=x;simp only[aLE,PE,eN]at hG;rw[<-hBX]at v3;obtain⟨A,hA⟩:=gn ((ps k).map Em.stop.aA);have hAl:A.length=k:=by rw[<-hA,yAe,hpsl]
    have yZ:A=[]\/z2=4:=fU.imp (λh=>Cf) id;obtain⟨bP,dL,hap,hr',hkeep,hnew⟩:=vD (P:=prog) (t:=60) (e:=65) (k:=4) (b:=56) (s:=z2) (xs:=A) (p:=.agg [.str q0,.int .i64 q1',.int .i64 q2',.slice (sz 3 q3) (q3.map Em.cK.aA) .any]) (tk:=.any) (tok:=wB) (σ:=σ)
     underlying60 yp yZ (by rw[hAl];exact dZ) ym ym
    rw[hA]at v4;have nX:mC (some X0):=Bq;have nB:mC (some BX):=by rw[<-hBX];trivial
    rw[hBX]at v3;have w0:=hkeep 0 _ (dZ.ne v0 nX) v0;have w1:=hkeep 1 _ (dZ.ne v1 trivial) v1;have w2:=hkeep 2 _ (dZ.ne v2 trivial) v2;have w3:=hkeep pb _ (dZ.ne v3 nB) v3;have w4:=hkeep (pb+1) _ (dZ.ne v4 trivial) v4;rw[hAl]at hr';have a1d:=(hrowD.MM (σ':=dL) λid o e h=>hkeep id o (λe2=>aCb id e2 e) h);have a1e:∀id,bP=.own id->tok≠.own id:=λid e e2=>by
     rcases hnew id e with e3|e3
     .exact aCb id e3 e2
     .subst e3;rcases hrowD with⟨_,e4⟩ | ⟨_,id',e4,h5⟩
      .rw[e4]at e2;cases e2
      .rw[e4]at e2;simp only[Tok.own.injEq]at e2;subst e2;have:=(yA.1 h5).1;omega
    rw[<-hBX]at v3;refine aD (A12 q2 hk hx @v0 @v1 @v2 @v3 @v4 h2 hG hap w4) ?_;have HW:pb+1<dL.length:=(yA.1 w4).1;refine aL.normal (m-1) ym (by refine⟨k+1,4,bP,dL.set (pb+1) (.box (.agg [.str [68,dg],.bool pe,.int .i64 (36+(L:Int)),.int .i64 (36+(L:Int)+K),.slice 4 (A++[.agg [.str q0,.int .i64 q1',.int .i64 q2',.slice (sz 3 q3) (q3.map Em.cK.aA) .any]]) bP])),?_⟩;exact bV (⟨ym,.inr rfl,hr'.set w4 trivial,a1d.set w4 trivial,a1e,(by rw[yAd ym];exact w0),(by rw[yAd ym];exact w1),(by rw[yAd ym];exact w2),(by rw[yAd ym];exact w3),(by rw[hsu,yAH,hA];exact yAj HW)⟩))
   .have q2:¬(k:Int)<(P.length:Int):=by omega
    obtain rfl:k=P.length:=ym;obtain⟨Y,hY⟩:=gn (PD.slice z2 ((ps P.length).map Em.stop.aA) wB);have hYp:Y.plain=true:=Cq;have hYs:Y.strip=.slice (sz 4 (ps P.length)) ((ps P.length).map Em.stop.aA) .any:=by
     rw[<-hY,PD.lD,show((ps P.length).map Em.stop.aA).map PD.strip=(ps P.length).map Em.stop.aA by rw[yBc];exact yAG λx _=>Em.stop.str x];rcases fU with h|h
     .rw[h];rfl
     .rw[h];simp[sz]
    rw[hY]at v4;rw[<-hBX]at v3;obtain⟨A,hA⟩:=gn ((kE rs D i).map Em.div.aA);have hAl:A.length=i:=by rw[<-hA,yAe,aOm]
    have yZ:A=[]\/z=5:=hz.imp (λh=>Cf) id;rw[hA]at v2;obtain⟨bP,dL,hap,hr',hkeep,hnew⟩:=vD (P:=prog) (t:=39) (e:=62) (k:=5) (b:=64) (s:=z) (xs:=A) (p:=.agg [.str [68,dg],.bool pe,.int .i64 (36+(L:Int)),.int .i64 (36+(L:Int)+K),.slice (sz 4 (ps P.length)) ((ps P.length).map Em.stop.aA) .any]) (tk:=.any) (tok:=tok) (σ:=σ)
     underlying39 yp yZ (by rw[hAl];exact hrowD) ym ym
    have nX:mC (some X0):=Bq;have w0:=hkeep 0 _ (hrowD.ne v0 nX) v0;have w1:=hkeep 1 _ (hrowD.ne v1 trivial) v1;have w2:=hkeep 2 _ (hrowD.ne v2 trivial) v2;rw[hAl]at hr';refine aD (A10 q2 @v0 @v1 @v2 @v3 @v4 hap w2 hYp hYs) ?_;have HW:2<dL.length:=(yA.1 w2).1;refine aL.normal (M-1) ym (by refine⟨i+1,5,bP,dL.set 2 (.box (.agg [.str [79,114,103,97,110],W,.slice 5 (A++[.agg [.str [68,dg],.bool pe,.int .i64 (36+(L:Int)),.int .i64 (36+(L:Int)+K),.slice (sz 4 (ps P.length)) ((ps P.length).map Em.stop.aA) .any]]) bP,.slice 0 [] .full])),?_⟩;exact bV (⟨ym,.inr rfl,hr'.set w2 trivial,(by rw[yAd ym];exact w0),(by rw[yAd ym];exact w1),(by rw[hbs,yAH,hA];exact yAj HW)⟩))
  .have q1:¬(i:Int)<(D.length:Int):=by omega
   obtain rfl:i=D.length:=ym;have hbl:=aOm rs D D.length;have hbne:kE rs D D.length≠[]:=λh=>by rw[h]at hbl;simp at hbl;omega
   have hz5:z=5:=hz.resolve_left hbne;subst hz5;obtain⟨Y,hY⟩:=gn (PD.slice 5 ((kE rs D D.length).map Em.div.aA) tok);have hYp:Y.plain=true:=Cq;have hYs:Y.strip=.slice (sz 5 (kE rs D D.length)) ((kE rs D D.length).map Em.div.aA) .any:=by
    rw[<-hY,PD.lD,show((kE rs D D.length).map Em.div.aA).map PD.strip=(kE rs D D.length).map Em.div.aA by rw[yBc];exact yAG λx _=>Em.div.str x];rw[T6 hbne];simp[hbne]
   have hWp:W.plain=true:=by rw[<-hW];rfl
   have a1f:W.strip=.slice (sz 6 rs) (rs.map Em.bC.aA) .any:=hWs;rw[hY]at g2;have wA:=g0;rw[<-pO]at wA;refine aD (A4 q1 wA @g1 @g2) ?_;have hL0:lJ D.length C 0=[]:=rfl;refine Wp.dK (λm fr σ=>∃(j z3:Nat) (P8:Tok) (σ1:List U),∃gg:Nat->PD,(j+m=C.length/\(lJ D.length C j=[]\/z3=5)/\iB σ1 P8 118 5 j/\σ1[0]?=some X0/\σ1[1]?=some (.box (.agg [.str [],.slice 0 [] .full,.slice 0 [] .full,.slice 0 [] .full]))/\σ1[2]?=some (.box (.agg [.str [79,114,103,97,110],W,Y,.slice z3 ((lJ D.length C j).map Em.cC.aA) P8])))/\fr=gg 0::.ptr 0 0::.ptr 1 0::.ptr 2 0::gg 4::gg 5::gg 6::gg 7::gg 8::gg 9::.int .i64 D.length::.int .i64 j::gg 12::gg 13::gg 14::gg 15::gg 16::gg 17::gg 18::gg 19::gg 20::gg 21::gg 22::gg 23::gg 24::gg 25::gg 26::gg 27::gg 28::gg 29::gg 30::gg 31::gg 32::gg 33::gg 34::gg 35::gg 36::gg 37::gg 38::gg 39::gg 40::gg 41::gg 42::gg 43::gg 44::gg 45::gg 46::gg 47::gg 48::gg 49::gg 50::gg 51::gg 52::gg 53::gg 54::gg 55::gg 56::gg 57::gg 58::gg 59::gg 60::gg 61::gg 62::gg 63::gg 64::gg 65::gg 66::gg 67::gg 68::gg 69::gg 70::gg 71::gg 72::gg 73::gg 74::gg 75::gg 76::gg 77::gg 78::gg 79::gg 80::gg 81::gg 82::gg 83::gg 84::gg 85::gg 86::gg 87::gg 88::gg 89::gg 90::gg 91::gg 92::gg 93::gg 94::gg 95::gg 96::gg 97::gg 98::gg 99::gg 100::gg 101::gg 102::gg 103::gg 104::gg 105::gg 106::gg 107::gg 108::gg 109::gg 110::gg 111::gg 112::gg 113::gg 114::gg 115::gg 116::gg 117::gg 118::gg 119::gg 120::gg 121::gg 122::gg 123::gg 124::gg 125::gg 126::gg 127::gg 128::gg 129::gg 130::gg 131::gg 132::gg 133::gg 134::gg 135::gg 136::gg 137::gg 138::gg 139::gg 140::gg 141::gg 142::gg 143::gg 144::gg 145::gg 146::gg 147::gg 148::gg 149::gg 150::gg 151::gg 152::[]/\σ=σ1) ?_ (C.length) (by refine⟨0,0,.full,σ,?_⟩;exact bV (⟨ym,.inl hL0,.inl ⟨rfl,rfl⟩,g0,g1,(by rw[hL0];exact g2)⟩))
   rintro m fr σ ⟨j,z3,P8,σ1,gg,hI,rfl,rfl⟩
   obtain⟨hm,hz,hrow,g0,g1,g2⟩:=hI
   by_cases hj:j<C.length
   .have q1:(j:Int)<(C.length:Int):=by omega
    obtain⟨a,ha⟩:=gn (C[j]);obtain⟨ho8,hd8,hs8⟩:=hpC a (ha▸yAm hj);have hls:=a1a D.length C j a hj ha;obtain⟨o,d,s,th⟩:=a;simp only at ho8 hd8 hs8;obtain⟨o,rfl⟩:∃q:Nat,o=q:=⟨o.toNat,by have:=ho8.1;omega⟩;obtain⟨d,rfl⟩:∃q:Nat,d=q:=⟨d.toNat,by have:=hd8.1;omega⟩;have ho9:=ho8.2;have hd9:=hd8.2;have t1:IntKind.i64.wrap (o:Int)=(o:Int):=zd;have t2:IntKind.i64.wrap (d:Int)=(d:Int):=zd;have t3:IntKind.i64.wrap s=s:=by have:=hs8.1;have:=hs8.2;rw[yB];omega
    have t4:¬(D.length:Int)=0:=ym;have t5:¬D=[]:=λh=>by rw[h]at pE;simp at pE
    obtain⟨O,hO⟩:∃O:Int,(o:Int).tmod (D.length:Int)=O:=⟨_,rfl⟩;obtain⟨Q,hQ⟩:∃Q:Int,(d:Int).tmod (D.length:Int)=Q:=⟨_,rfl⟩;obtain⟨S,hS⟩:∃S:Int,s.tmod 25=S:=⟨_,rfl⟩;have hO':(o:Int)%(D.length:Int)=O:=hO;have hQ':(d:Int)%(D.length:Int)=Q:=hQ;have d2:IntKind.i64.wrap (48+(j:Int))=48+(j:Int):=zd;have d3:IntKind.u8.wrap (48+(j:Int))=48+(j:Int):=zf;obtain⟨dg,hdg⟩:=gn (UInt8.ofNat (48+(j:Int)).toNat);have hln:WK D.length ⟨o,d,s,th⟩ j=⟨[67,dg],O,Q,if O=Q/\S=0 then 12 else S,th⟩:=by
     unfold WK digit;simp only[hO',hQ',hS,<-hdg,show(48+(j:Int)).toNat=48+j by omega]
    rw[hln]at hls;have wA:=g0;rw[<-pO]at wA
    by_cases hoq:O=Q
    .by_cases hS0:S=0
     .subst hoq;subst hS0;have hE:(if O=O/\(0:Int)=0 then(12:Int)else(0:Int))=12:=yo;rw[hE]at hls;obtain⟨A,hA⟩:=gn ((lJ D.length C j).map Em.cC.aA);have hAl:A.length=j:=by rw[<-hA,yAe,aHL]
      have yZ:A=[]\/z3=5:=hz.imp (λh=>Cf) id;rw[hA]at g2;have nX:mC (some X0):=Bq;have u0:=NV (τ:=[.box (.agg [.int .u8 o,.int .u8 d,.int .i8 s,.bool th]),.box (.agg [.str [67,dg],.int .i64 O,.int .i64 O,.int .i64 12,.bool th])]) g0;have u1:=NV (τ:=[.box (.agg [.int .u8 o,.int .u8 d,.int .i8 s,.bool th]),.box (.agg [.str [67,dg],.int .i64 O,.int .i64 O,.int .i64 12,.bool th])]) g1;have u2:=NV (τ:=[.box (.agg [.int .u8 o,.int .u8 d,.int .i8 s,.bool th]),.box (.agg [.str [67,dg],.int .i64 O,.int .i64 O,.int .i64 12,.bool th])]) g2;have urow:=hrow.more (τ:=[.box (.agg [.int .u8 o,.int .u8 d,.int .i8 s,.bool th]),.box (.agg [.str [67,dg],.int .i64 O,.int .i64 O,.int .i64 12,.bool th])]);obtain⟨bP,dL,hap,hr',hkeep,hnew⟩:=vD (P:=prog) (t:=40) (e:=118) (k:=5) (b:=48) (s:=z3) (xs:=A) (p:=.agg [.str [67,dg],.int .i64 O,.int .i64 O,.int .i64 12,.bool th]) (tk:=.any) (tok:=P8)
       underlying40 yp yZ Di ym ym
      have w0:=hkeep 0 _ (urow.ne u0 nX) u0;have w1:=hkeep 1 _ (urow.ne u1 trivial) u1;have w2:=hkeep 2 _ (urow.ne u2 trivial) u2;rw[hAl]at hr';refine aD (A19 q1 hj ha wA @g2 u2 hap w2 @t1 @t2 @t3 @t4 @t5 hO hQ hS @d2 @d3 hdg) ?_;have HW:2<dL.length:=(yA.1 w2).1;refine aL.normal (m-1) ym (by refine⟨j+1,5,bP,dL.set 2 (.box (.agg [.str [79,114,103,97,110],W,Y,.slice 5 (A++[.agg [.str [67,dg],.int .i64 O,.int .i64 O,.int .i64 12,.bool th]]) bP])),?_⟩;exact bV (⟨ym,.inr rfl,hr'.set w2 trivial,(by rw[yAd ym];exact w0),(by rw[yAd ym];exact w1),Cm⟩))
     .subst hoq;have hE:(if O=O/\S=0 then(12:Int)else S)=S:=by simp[hS0]
      rw[hE]at hls;obtain⟨A,hA⟩:=gn ((lJ D.length C j).map Em.cC.aA);have hAl:A.length=j:=by rw[<-hA,yAe,aHL]
      have yZ:A=[]\/z3=5:=hz.imp (λh=>Cf) id;rw[hA]at g2;have nX:mC (some X0):=Bq;have u0:=NV (τ:=[.box (.agg [.int .u8 o,.int .u8 d,.int .i8 s,.bool th]),.box (.agg [.str [67,dg],.int .i64 O,.int .i64 O,.int .i64 S,.bool th])]) g0;have u1:=NV (τ:=[.box (.agg [.int .u8 o,.int .u8 d,.int .i8 s,.bool th]),.box (.agg [.str [67,dg],.int .i64 O,.int .i64 O,.int .i64 S,.bool th])]) g1;have u2:=NV (τ:=[.box (.agg [.int .u8 o,.int .u8 d,.int .i8 s,.bool th]),.box (.agg [.str [67,dg],.int .i64 O,.int .i64 O,.int .i64 S,.bool th])]) g2;have urow:=hrow.more (τ:=[.box (.agg [.int .u8 o,.int .u8 d,.int .i8 s,.bool th]),.box (.agg [.str [67,dg],.int .i64 O,.int .i64 O,.int .i64 S,.bool th])]);obtain⟨bP,dL,hap,hr',hkeep,hnew⟩:=vD (P:=prog) (t:=40) (e:=118) (k:=5) (b:=48) (s:=z3) (xs:=A) (p:=.agg [.str [67,dg],.int .i64 O,.int .i64 O,.int .i64 S,.bool th]) (tk:=.any) (tok:=P8)
       underlying40 yp yZ Di ym ym
      have w0:=hkeep 0 _ (urow.ne u0 nX) u0;have w1:=hkeep 1 _ (urow.ne u1 trivial) u1;have w2:=hkeep 2 _ (urow.ne u2 trivial) u2;rw[hAl]at hr';refine aD (A20 q1 hj ha wA @g2 u2 hap w2 @t1 @t2 @t3 @t4 @t5 hO hQ hS @d2 @d3 hdg hS0) ?_;have HW:2<dL.length:=(yA.1 w2).1;refine aL.normal (m-1) ym (by refine⟨j+1,5,bP,dL.set 2 (.box (.agg [.str [79,114,103,97,110],W,Y,.slice 5 (A++[.agg [.str [67,dg],.int .i64 O,.int .i64 O,.int .i64 S,.bool th]]) bP])),?_⟩;exact bV (⟨ym,.inr rfl,hr'.set w2 trivial,(by rw[yAd ym];exact w0),(by rw[yAd ym];exact w1),Cm⟩))
    .skip
     have hE:(if O=Q/\S=0 then(12:Int)else S)=S:=by simp[hoq]
     rw[hE]at hls;obtain⟨A,hA⟩:=gn ((lJ D.length C j).map Em.cC.aA);have hAl:A.length=j:=by rw[<-hA,yAe,aHL]
     have yZ:A=[]\/z3=5:=hz.imp (λh=>Cf) id;rw[hA]at g2;have nX:mC (some X0):=Bq;have u0:=NV (τ:=[.box (.agg [.int .u8 o,.int .u8 d,.int .i8 s,.bool th]),.box (.agg [.str [67,dg],.int .i64 O,.int .i64 Q,.int .i64 S,.bool th])]) g0;have u1:=NV (τ:=[.box (.agg [.int .u8 o,.int .u8 d,.int .i8 s,.bool th]),.box (.agg [.str [67,dg],.int .i64 O,.int .i64 Q,.int .i64 S,.bool th])]) g1;have u2:=NV (τ:=[.box (.agg [.int .u8 o,.int .u8 d,.int .i8 s,.bool th]),.box (.agg [.str [67,dg],.int .i64 O,.int .i64 Q,.int .i64 S,.bool th])]) g2;have urow:=hrow.more (τ:=[.box (.agg [.int .u8 o,.int .u8 d,.int .i8 s,.bool th]),.box (.agg [.str [67,dg],.int .i64 O,.int .i64 Q,.int .i64 S,.bool th])]);obtain⟨bP,dL,hap,hr',hkeep,hnew⟩:=vD (P:=prog) (t:=40) (e:=118) (k:=5) (b:=48) (s:=z3) (xs:=A) (p:=.agg [.str [67,dg],.int .i64 O,.int .i64 Q,.int .i64 S,.bool th]) (tk:=.any) (tok:=P8)
      underlying40 yp yZ Di ym ym
     have w0:=hkeep 0 _ (urow.ne u0 nX) u0;have w1:=hkeep 1 _ (urow.ne u1 trivial) u1;have w2:=hkeep 2 _ (urow.ne u2 trivial) u2;rw[hAl]at hr';refine aD (A20 q1 hj ha wA @g2 u2 hap w2 @t1 @t2 @t3 @t4 @t5 hO hQ hS @d2 @d3 hdg hoq) ?_;have HW:2<dL.length:=(yA.1 w2).1;refine aL.normal (m-1) ym (by refine⟨j+1,5,bP,dL.set 2 (.box (.agg [.str [79,114,103,97,110],W,Y,.slice 5 (A++[.agg [.str [67,dg],.int .i64 O,.int .i64 Q,.int .i64 S,.bool th]]) bP])),?_⟩;exact bV (⟨ym,.inr rfl,hr'.set w2 trivial,(by rw[yAd ym];exact w0),(by rw[yAd ym];exact w1),Cm⟩))
   .have q1:¬(j:Int)<(C.length:Int):=by omega
    obtain rfl:j=C.length:=ym;have hzs:PD.strip (.slice z3 ((lJ D.length C C.length).map Em.cC.aA) P8)=.slice (sz 5 (lJ D.length C C.length)) ((lJ D.length C C.length).map Em.cC.aA) .any:=by
     rw[PD.lD,show((lJ D.length C C.length).map Em.cC.aA).map PD.strip=(lJ D.length C C.length).map Em.cC.aA by rw[yBc];exact yAG λx _=>Em.cC.str x];rcases hz with h|h
     .rw[h];rfl
     .rw[h];simp[sz]
    obtain⟨V,hV⟩:=gn (PD.slice z3 ((lJ D.length C C.length).map Em.cC.aA) P8);have hVp:V.plain=true:=by rw[<-hV];rfl
    rw[hV]at g2 hzs;have hs1:∀x,(σ.set 1 x)[1]?=some x:=λx=>yAj (yA.1 g1).1
    have wA:=g0;rw[<-pO]at wA;have hWq:=hWp;have hYq:=hYp;have hVq:=hVp;unfold PD.plain at hWq hYq hVq;refine aD (A7 q1 wA @g1 @g2 hWq hYq hVq) ?_;simp(disch:=first|omega|(simp;done)|(simp;omega)) [yAu,hs1,a1f,hYs,hzs]<;>try rfl
end
section
def tA:List (List UInt8)->List aX->Int
 |_,[]=>0
 |ns,r::t=>if lU r≠0 then lU r else if kD ns r.name=true then 9 else tA (ns++[r.name]) t
def yV(rs:List aX):List (List UInt8)->List bY->Int
 |_,[]=>0
 |ns,d::t=>if cV d.name=false then 8 else if kD ns d.name=true then 9 else if tB rs d≠0 then tB rs d else yV rs (ns++[d.name]) t
def iJ(l:List bY):List (Int×Int):=l.map λd=>(d.low,d.high)
def aAN(o:eK):Int:=if o.bR.length=0 then 13 else if 8<o.bR.length then 4 else if yV o.aU [] o.bR≠0 then yV o.aU [] o.bR else NQ (iJ o.bR) o.iL
def gZ(o:eK):Int:=if cV o.name=false then 8 else if 60<o.aU.length then 4 else if tA [] o.aU≠0 then tA [] o.aU else aAN o
def SE(d:bY):Prop:=iA d.name/\d.stops.length<=1000000/\∀s∈d.stops,aAC s
def vS(o:eK):Prop:=iA o.name/\NT o.aU/\(o.bR.length<=1000000/\∀d∈o.bR,SE d)/\o.iL.length<=1000000/\∀x∈o.iL,iA x.name
def gDv:Nat->List PD->List U->Option (PD×List U):=entry (cU Em.fE Em.div i64 λo d=>bE (NT o.aU/\SE d) (some (tB o.aU d)))
theorem a0s{o:eK}{d:bY}(h:NT o.aU)(hs:SE d)(fl:Nat)(σ:List U):gDv fl [Em.fE.aA o,Em.div.aA d] σ=some (.int .i64 (tB o.aU d),σ):=by
 have e1:=Em.cJ (Em.fE.str o);have e2:=Em.cJ (Em.div.str d);unfold gDv entry cU;simp only[e1,e2];rw[dC ⟨h,hs⟩];rfl
def gCl:Nat->List PD->List U->Option (PD×List U):=entry (cU SO KH i64 λks l=>bE (ks.length<=1000000/\l.length<=1000000/\∀x∈l,iA x.name) (some (NQ ks l)))
theorem a0t{ks:List (Int×Int)}{l:List dY}{p:PD}(h1:ks.length<=1000000)(h2:l.length<=1000000)(h3:∀x∈l,iA x.name)(hp:p.strip=SO.aA ks)(fl:Nat)(σ:List U):gCl fl [p,KH.aA l] σ=some (.int .i64 (NQ ks l),σ):=by
 have e1:=Em.cJ hp;have e2:=Em.cJ (KH.str l);unfold gCl entry cU;simp only[e1,e2];rw[dC ⟨h1,h2,h3⟩];rfl
variable{E:aE}(hU:aG E)
include hU
theorem aWN(h0:E 25=none)(h1:E 49=some RW)(h2:E 50=some Z9)(h3:E 51=some HG)(h4:E 52=some gDv)(h5:E 53=some gCl)(o:eK)(ho:vS o) :
  aJ prog E 25 [Em.fE.aA o] (i64.aA (gZ o)):=by
 have hO:=λd (hd:SE d)=>a0s (o:=o) ho.2.1 hd
 obtain⟨on,rs,od,oc⟩:=o;obtain⟨hon,hrs,⟨hdl,hdd⟩,hcl,hcn⟩:=ho;simp only at hon hrs hdl hdd hcl hcn;have hN:=WJ hon;simp only[yG,eN]at hO;unfold gZ;simp only[yG,eN];cases c1:cV on with
 |false=>
  rw[c1]at hN;rw[yAJ rfl];refine aJ.aV 89 h0 func25 (h:=?_);refine lW (A2 h1 hN) ?_;exact aa
 |true=>
 rw[c1]at hN;rw[yAI yo]
 by_cases c2:60<rs.length
 .have c3:60<(rs.length:Int):=by omega
  rw[yAJ c2];refine aJ.aV 89 h0 func25 (h:=?_);refine lW (A4 h1 hN c2 c3) ?_;exact aa
 have c3:¬60<(rs.length:Int):=ym;rw[yAI c2];obtain⟨C,hC⟩:=gn (aAN ⟨on,rs,od,oc⟩);rw[hC];obtain⟨B,hB⟩:=gn ((if tA [] rs≠0 then tA [] rs else C));rw[hB];have us:=aDl;refine aJ.aV 89 h0 func25 (h:=?_);refine lW (A5 h1 hN c2 c3 @us) ?_;obtain⟨X,hX⟩:=gn (U.box (.agg [.str on,.slice (sz 6 rs) (rs.map Em.bC.aA) .any,.slice (sz 5 od) (od.map Em.div.aA) .any,.slice (sz 5 oc) (oc.map Em.cC.aA) .any]));refine Wp.dK (λm fr σ=>∃(i:Nat) (σ1:List U),∃gg:Nat->PD,(i+m=rs.length/\σ1[0]?=some X/\σ1[1]?=some (jN ((rs.take i).map aX.name))/\(if tA ((rs.take i).map aX.name) (rs.drop i)≠0 then tA ((rs.take i).map aX.name) (rs.drop i)else C)=B)/\fr=gg 0::.ptr 0 0::gg 2::.fA 1::gg 4::gg 5::gg 6::gg 7::gg 8::gg 9::gg 10::gg 11::gg 12::gg 13::gg 14::gg 15::gg 16::gg 17::gg 18::gg 19::gg 20::gg 21::gg 22::gg 23::gg 24::aU.aA rs::.int .i64 rs.length::.int .i64 i::gg 28::gg 29::gg 30::gg 31::gg 32::gg 33::gg 34::gg 35::gg 36::gg 37::gg 38::gg 39::gg 40::gg 41::gg 42::gg 43::gg 44::gg 45::gg 46::gg 47::gg 48::gg 49::gg 50::gg 51::gg 52::gg 53::gg 54::gg 55::gg 56::gg 57::gg 58::gg 59::gg 60::gg 61::gg 62::gg 63::gg 64::gg 65::gg 66::gg 67::gg 68::gg 69::gg 70::gg 71::gg 72::gg 73::gg 74::gg 75::gg 76::gg 77::gg 78::gg 79::gg 80::gg 81::gg 82::gg 83::gg 84::gg 85::gg 86::gg 87::gg 88::[]/\σ=σ1) ?_ (rs.length) (by refine⟨0,[X,.map []],?_⟩;exact fL (⟨ym,rfl,rfl,hB⟩) @hX)
 rintro m fr σ ⟨i,σ1,gg,hI,rfl,rfl⟩
 obtain⟨hm,hx0,hz0,hs⟩:=hI
 by_cases hi:i<rs.length
 .have q1:(i:Int)<(rs.length:Int):=by omega
  obtain⟨a,ha⟩:=gn (rs[i]);have hc4:rs.drop i=a::rs.drop (i+1):=zq;have htk:(rs.take (i+1)).map aX.name=(rs.take i).map aX.name++[a.name]:=by rw[yBX hi,ha,yAH];rfl
  have hE:=aN7 (hrs.1 a (ha▸yAm hi));rw[hc4]at hs;unfold tA at hs;have fP:=(yA.1 hx0).1;have hlt2:=(yA.1 hz0).1;have j0:∀x:U,(σ++[x])[σ.length]?=some x:=λx=>yo
  obtain⟨a0,a1,a2,a3,a4,a5⟩:=a;obtain⟨e,he⟩:=gn (lU ⟨a0,a1,a2,a3,a4,a5⟩);rw[he]at hE hs;simp only[RN,eN]at hE;simp only at hs htk
  by_cases c4:e=0
  rotate_left
  .simp only[ne_eq,c4,yCu,yAM]at hs;subst hs;refine lW (A7 q1 hi ha j0 h2 hE c4) ?_;exact aa
  subst c4;simp only[ne_eq,yBr,yAO]at hs;obtain⟨Z,hZ⟩:=gn (U.box (.agg [.str a0,.str a1,.int .i64 a2,.int .i64 a3,.int .i64 a4,.slice (sz 1 a5) (a5.map i64.aA) .any]));have hmz:(σ++[Z])[1]?=some (jN ((rs.take i).map aX.name)):=by rw[yAg hlt2];exact hz0
  cases hb:kD ((rs.take i).map aX.name) a0 with
  |true=>
   rw[hb]at hs;simp only[yAM,show ¬(9:Int)=0 by omega,yCu]at hs;subst hs;have hA:=λfl=>aHy (fl:=fl) hmz hb
   rw[<-hZ]at hA;refine lW (A8 q1 hi ha j0 h2 hE h3 hA) ?_;exact aa
  |false=>
   rw[hb]at hs;simp only[yAx,yAO]at hs;have hA:=aHz (fl:=0) hmz hb (yAF _);obtain⟨lF,nH⟩:=gn ((σ++[Z]).set 1 (jN ((rs.take i).map aX.name++[a0])));have t0:lF[0]?=some X:=by rw[<-nH,yAd ym,yAg fP];exact hx0
   have t2:lF[1]?=some (jN ((rs.take i).map aX.name++[a0])):=by rw[<-nH];exact yAj zc
   rw[nH]at hA;rw[<-hZ]at hA;clear nH;refine lW (A8 q1 hi ha j0 h2 hE h3 hA) ?_;refine aL.normal (m-1) ym (by refine⟨i+1,lF,?_⟩;exact bV (⟨ym,t0,by rw[htk];exact t2,by rw[htk];exact hs⟩))
 have q1:¬(i:Int)<(rs.length:Int):=ym;rw[yAs ym]at hs;have hs2:C=B:=hs;rw[hs2]at hC;clear hs hs2 hB;have hx1:=hx0;rw[<-hX]at hx1;obtain⟨fP,hxe⟩:=yA.1 hx1;unfold aAN at hC;simp only at hC
 by_cases c4:od.length=0
 .rw[yAJ c4]at hC;subst hC;have c5:od=[]:=yAf c4;subst c5;refine lW (A4 q1 hx1 fP hxe) ?_;exact aa
 rw[yAI c4]at hC;have gA:¬od=[]:=λh=>c4 zn
 by_cases c5:8<od.length
 .rw[yAJ c5]at hC;subst hC;have c6:8<(od.length:Int):=ym;refine lW (A8 q1 hx1 fP hxe c4 gA c5 c6) ?_;exact aa
 rw[yAI c5]at hC;have c6:¬8<(od.length:Int):=ym;refine lW (A9 q1 hx1 fP hxe c4 gA c5 c6 @us) ?_;obtain⟨M,hM⟩:=gn (σ.length);obtain⟨σa,aDm⟩:=gn (σ++[U.map []]);have g0:σa[0]?=some X:=by rw[<-aDm,yAg fP];exact hx0
 have gM:σa[M]?=some (jN []):=by rw[<-aDm,<-hM];simp;rfl
 have hM0:0<M:=ym;rw[aDm,hM];clear aDm hM q1;refine Wp.dK (λm fr σ=>∃(j z:Nat) (tok:Tok) (σ1:List U),∃gg:Nat->PD,(j+m=od.length/\σ1[0]?=some X/\σ1[M]?=some (jN ((od.take j).map bY.name))/\(iJ (od.take j)=[]\/z=2)/\iB σ1 tok 59 2 j/\(if yV rs ((od.take j).map bY.name) (od.drop j)≠0 then yV rs ((od.take j).map bY.name) (od.drop j)else NQ (iJ od) oc)=B)/\fr=gg 0::.ptr 0 0::gg 2::.fA M::gg 4::gg 5::gg 6::gg 7::.slice z ((iJ (od.take j)).map Em.bB.aA) tok::gg 9::gg 10::gg 11::gg 12::gg 13::gg 14::gg 15::gg 16::gg 17::gg 18::gg 19::gg 20::gg 21::gg 22::gg 23::gg 24::gg 25::gg 26::gg 27::gg 28::gg 29::gg 30::gg 31::gg 32::gg 33::gg 34::gg 35::gg 36::gg 37::gg 38::gg 39::gg 40::gg 41::gg 42::gg 43::gg 44::gg 45::gg 46::gg 47::gg 48::gg 49::gg 50::gg 51::gg 52::gg 53::gg 54::gg 55::aCr.aA od::.int .i64 od.length::.int .i64 j::gg 59::gg 60::gg 61::gg 62::gg 63::gg 64::gg 65::gg 66::gg 67::gg 68::gg 69::gg 70::gg 71::gg 72::gg 73::gg 74::gg 75::gg 76::gg 77::gg 78::gg 79::gg 80::gg 81::gg 82::gg 83::gg 84::gg 85::gg 86::gg 87::gg 88::[]/\σ=σ1) ?_ (od.length) (by refine⟨0,0,.full,σa,?_⟩;exact qT (⟨ym,g0,gM,.inl rfl,.inl ⟨rfl,rfl⟩,hC⟩) Bm Bm)
 rintro m fr σ ⟨j,z,tok,σ1,gg,hI,rfl,rfl⟩
 obtain⟨hm2,hx2,fU,hzz,hrow,hs2⟩:=hI;have hx3:=hx2;rw[<-hX]at hx3;obtain⟨aHA,hxe3⟩:=yA.1 hx3
 by_cases hj:j<od.length
 .have q1:(j:Int)<(od.length:Int):=by omega
  obtain⟨a,ha⟩:=gn (od[j]);have hda:SE a:=hdd a (ha▸yAm hj);have hc4:od.drop j=a::od.drop (j+1):=by rw[yAq hj,ha]
  have htk:(od.take (j+1)).map bY.name=(od.take j).map bY.name++[a.name]:=by rw[yBX hj,ha,yAH];rfl
  have hkk:iJ (od.take (j+1))=iJ (od.take j)++[(a.low,a.high)]:=by unfold iJ;rw[yBX hj,ha,yAH];rfl
  have hkl:(iJ (od.take j)).length=j:=by unfold iJ;rw[yAe,yAt];omega
  have hnn:=WJ hda.1;have hE:=hO a hda;rw[hc4]at hs2;unfold yV at hs2;have HW:=(yA.1 fU).1;have j0:∀x:U,(σ++[x])[σ.length]?=some x:=λx=>yo
  obtain⟨a0,a1,a2,a3,a4⟩:=a;obtain⟨e,he⟩:=gn (tB rs ⟨a0,a1,a2,a3,a4⟩);simp only[he,aCq,eN]at hE;rw[he]at hs2;simp only at hs2 htk hnn hkk;cases d1:cV a0 with
  |false=>
   rw[d1]at hnn hs2;simp only[yAM,show ¬(8:Int)=0 by omega,ne_eq,yCu]at hs2;subst hs2;refine lW (A6 q1 hj ha j0 h1 hnn) ?_;exact aa
  |true=>
  rw[d1]at hnn hs2;simp only[yDH,yAO]at hs2;obtain⟨Z,hZ⟩:=gn (U.box (.agg [.str a0,.bool a1,.int .i64 a2,.int .i64 a3,.slice (sz 4 a4) (a4.map Em.stop.aA) .any]));have hmz:(σ++[Z])[M]?=some (jN ((od.take j).map bY.name)):=by rw[yAg HW];exact fU
  cases hb:kD ((od.take j).map bY.name) a0 with
  |true=>
   rw[hb]at hs2;simp only[yAM,show ¬(9:Int)=0 by omega,ne_eq,yCu]at hs2;subst hs2;have hA:=λfl=>aHy (fl:=fl) hmz hb
   rw[<-hZ]at hA;refine lW (A8 q1 hj ha j0 h1 hnn h3 hA) ?_;exact aa
  |false=>
  rw[hb]at hs2;simp only[yAx,yAO]at hs2;have hA:=aHz (fl:=0) hmz hb (yAF _);obtain⟨lF,nH⟩:=gn ((σ++[Z]).set M (jN ((od.take j).map bY.name++[a0])));have t0:lF[0]?=some X:=by rw[<-nH,yAd ym,yAg aHA];exact hx2
  have t2:lF[M]?=some (jN ((od.take j).map bY.name++[a0])):=by rw[<-nH];exact yAj zc
  have tz:lF[σ.length]?=some Z:=by rw[<-nH,yAd ym];exact j0 Z
  have tr:iB lF tok 59 2 j:=by rw[<-nH];exact hrow.more.set hmz trivial
  rw[nH]at hA;rw[<-hZ]at hA tz;have t0':=t0;rw[<-hX]at t0';obtain⟨l0,te0⟩:=yA.1 t0';obtain⟨l1,te1⟩:=yA.1 tz;clear nH
  by_cases d2:e=0
  rotate_left
  .simp only[ne_eq,d2,yCu,yAM]at hs2;subst hs2;refine lW (A17 q1 hj ha j0 h1 hnn h3 hA t0' l0 te0 tz l1 te1 h4 hE @d2) ?_;exact aa
  subst d2;simp only[ne_eq,yBr,yAO]at hs2;obtain⟨A,hAA⟩:=gn ((iJ (od.take j)).map Em.bB.aA);have hAl:A.length=j:=by rw[<-hAA,yAe,hkl]
  obtain⟨bP,dL,hap,hr',hkeep,hnew⟩:=vD (P:=prog) (t:=132) (e:=59) (k:=2) (b:=16) (s:=z) (xs:=A) (p:=.agg [.int .i64 a2,.int .i64 a3]) (tk:=.any) (tok:=tok) (σ:=lF)
   underlying132 yp (hzz.imp (λh=>by rw[<-hAA,h];rfl) id) (by rw[hAl];exact tr) ym ym
  have nX:mC (some X):=by rw[<-hX];trivial
  have w0:=hkeep 0 _ (tr.ne t0 nX) t0;have w2:=hkeep M _ (tr.ne t2 trivial) t2;rw[hAl]at hr';refine lW (A18 q1 hj ha j0 h1 hnn h3 hA t0' l0 te0 tz l1 te1 h4 hE hAA hap) ?_;have hK:(iJ (od.take (j+1))).map Em.bB.aA=A++[.agg [.int .i64 a2,.int .i64 a3]]:=by rw[hkk,yAH,hAA];rfl
  refine aL.normal (m-1) ym (by refine⟨j+1,2,bP,dL,?_⟩;exact fL (⟨ym,w0,by rw[htk];exact w2,.inr rfl,hr',by rw[htk];exact hs2⟩) @hK)
 .have q1:¬(j:Int)<(od.length:Int):=by omega
  obtain rfl:j=od.length:=ym;rw[yCe]at hs2;have hs3:NQ (iJ od) oc=B:=hs2;rw[yBz]at hzz ⊢;have hkn:iJ od≠[]:=λh=>gA (by simpa [iJ]using h)
  have hz1:z=2:=hzz.resolve_left hkn;subst hz1;have hst:(PD.slice 2 ((iJ od).map Em.bB.aA) tok).strip=SO.aA (iJ od):=by
   rw[PD.lD,show((iJ od).map Em.bB.aA).map PD.strip=(iJ od).map Em.bB.aA by rw[yBc];exact yAG λx _=>Em.bB.str x];rw[eN];simp[sz,hkn]
  have hE:=a0t (ks:=iJ od) (l:=oc) (by unfold iJ;rw[yAe];exact hdl) hcl hcn hst;rw[hs3]at hE;simp only[eN]at hE;refine lW (A6 q1 hx3 aHA hxe3 h5 hE) ?_;exact aa
end
end Go.Kz
end
