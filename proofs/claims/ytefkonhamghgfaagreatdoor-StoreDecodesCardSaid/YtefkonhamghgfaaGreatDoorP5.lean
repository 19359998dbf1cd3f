/-
  Part P5 of the way: an interpreter over pure data, its soundness, walks through functions.
-/
import Derived.Test.YtefkonhamghgfaaGreatDoorP4
set_option linter.all false

namespace Go.Kz
open Go Go.Proofs
abbrev i64:Em Int:=Em.int .i64
abbrev i64s:Em (List Int):=i64.list 1
structure RankD where
 name:List UInt8
 tone:List UInt8
 num:Int
 den:Int
 first:Int
 wind:List Int
 deriving DecidableEq
structure DrawD where
 rank:Int
 shift:Int
 deriving DecidableEq
structure SegD where
 lo:Int
 hi:Int
 draws:List DrawD
 deriving DecidableEq
structure StopD where
 name:List UInt8
 num:Int
 den:Int
 segs:List SegD
 deriving DecidableEq
structure DivD where
 name:List UInt8
 pedal:Bool
 low:Int
 high:Int
 stops:List StopD
 deriving DecidableEq
structure CoupD where
 name:List UInt8
 org:Int
 dst:Int
 shift:Int
 thr:Bool
 deriving DecidableEq
structure OrganD where
 name:List UInt8
 ranks:List RankD
 divs:List DivD
 coups:List CoupD
 deriving DecidableEq
def EmC.rank:EmC RankD:=((EmC.one .text).pair ((EmC.one .text).pair ((EmC.one i64).pair ((EmC.one i64).pair ((EmC.one i64).pair (.one i64s)))))).iso (fun r=>(r.name,r.tone,r.num,r.den,r.first,r.wind)) (fun x y h=>by cases x;cases y;simpa using h)
def Em.rank:Em RankD:=.agg .rank
@[simp] theorem emb_rank {r:RankD}:Em.rank.emb r=.agg [.str r.name,.str r.tone,.int .i64 r.num,.int .i64 r.den,.int .i64 r.first,i64s.emb r.wind]:=rfl
abbrev ranks:Em (List RankD):=Em.rank.list 6
def EmC.draw:EmC DrawD:=((EmC.one i64).pair (.one i64)).iso (fun r=>(r.rank,r.shift)) (fun x y h=>by cases x;cases y;simpa using h)
def Em.draw:Em DrawD:=.agg .draw
@[simp] theorem emb_draw {r:DrawD}:Em.draw.emb r=.agg [.int .i64 r.rank,.int .i64 r.shift]:=rfl
abbrev drawsE:Em (List DrawD):=Em.draw.list 2
def EmC.seg:EmC SegD:=((EmC.one i64).pair ((EmC.one i64).pair (.one drawsE))).iso (fun r=>(r.lo,r.hi,r.draws)) (fun x y h=>by cases x;cases y;simpa using h)
def Em.seg:Em SegD:=.agg .seg
@[simp] theorem emb_seg {r:SegD}:Em.seg.emb r=.agg [.int .i64 r.lo,.int .i64 r.hi,drawsE.emb r.draws]:=rfl
abbrev segsE:Em (List SegD):=Em.seg.list 3
def EmC.stop:EmC StopD:=((EmC.one .text).pair ((EmC.one i64).pair ((EmC.one i64).pair (.one segsE)))).iso (fun r=>(r.name,r.num,r.den,r.segs)) (fun x y h=>by cases x;cases y;simpa using h)
def Em.stop:Em StopD:=.agg .stop
@[simp] theorem emb_stop {r:StopD}:Em.stop.emb r=.agg [.str r.name,.int .i64 r.num,.int .i64 r.den,segsE.emb r.segs]:=rfl
abbrev stopsE:Em (List StopD):=Em.stop.list 4
def EmC.div:EmC DivD:=((EmC.one .text).pair ((EmC.one .bool).pair ((EmC.one i64).pair ((EmC.one i64).pair (.one stopsE))))).iso (fun r=>(r.name,r.pedal,r.low,r.high,r.stops)) (fun x y h=>by cases x;cases y;simpa using h)
def Em.div:Em DivD:=.agg .div
@[simp] theorem emb_div {r:DivD}:Em.div.emb r=.agg [.str r.name,.bool r.pedal,.int .i64 r.low,.int .i64 r.high,stopsE.emb r.stops]:=rfl
abbrev divsE:Em (List DivD):=Em.div.list 5
def EmC.coup:EmC CoupD:=((EmC.one .text).pair ((EmC.one i64).pair ((EmC.one i64).pair ((EmC.one i64).pair (.one .bool))))).iso (fun r=>(r.name,r.org,r.dst,r.shift,r.thr)) (fun x y h=>by cases x;cases y;simpa using h)
def Em.coup:Em CoupD:=.agg .coup
@[simp] theorem emb_coup {r:CoupD}:Em.coup.emb r=.agg [.str r.name,.int .i64 r.org,.int .i64 r.dst,.int .i64 r.shift,.bool r.thr]:=rfl
abbrev coupsE:Em (List CoupD):=Em.coup.list 5
def EmC.organ:EmC OrganD:=((EmC.one .text).pair ((EmC.one ranks).pair ((EmC.one divsE).pair (.one coupsE)))).iso (fun r=>(r.name,r.ranks,r.divs,r.coups)) (fun x y h=>by cases x;cases y;simpa using h)
def Em.organ:Em OrganD:=.agg .organ
@[simp] theorem emb_organ {r:OrganD}:Em.organ.emb r=.agg [.str r.name,ranks.emb r.ranks,divsE.emb r.divs,coupsE.emb r.coups]:=rfl
def okI (l:List Int):Prop:=l.length≤1000000
def okDs (l:List DrawD):Prop:=l.length≤1000000
def okR (r:RankD):Prop:=okI r.wind
def okG (g:SegD):Prop:=okDs g.draws
def okGs (l:List SegD):Prop:=l.length≤1000000∧∀ r∈l,okG r
def okS (s:StopD):Prop:=okGs s.segs
noncomputable def eqE {α:Type} [DecidableEq α] (a:Em α) (R:α→Prop):Nat→List PD→List SObj→Option (PD×List SObj):=entry (gf2 a a .bool fun x y=>gif (R x∧R y) (some (decide (x=y))))
noncomputable def eqG {α:Type} [DecidableEq α] (a:Em α) (R:α→Prop) (f:FuncId):List PD→Option PD:=fun args=>match args with
 | [p,q,.func g []]=>if g=f then gf2 a a .bool (fun x y=>gif (R x∧R y) (some (decide (x=y)))) [p,q] else none
 | _=>none
noncomputable def eqF {α:Type} [DecidableEq α] (a:Em α) (R:α→Prop) (f:FuncId):Nat→List PD→List SObj→Option (PD×List SObj):=entry (eqG a R f)
@[simp] theorem eqF_eq {α:Type} [DecidableEq α] {a:Em α} {R:α→Prop} {f:FuncId} {fl:Nat} {p q:PD} {σ:List SObj}:eqF a R f fl [p,q,.func f []] σ=eqE a R fl [p,q] σ:=by
  unfold eqF eqE entry eqG
  simp only [if_true]
end Go.Kz

namespace Go.Kz
open Go Go.Proofs
structure RPlan where
 tone:Int
 feet:Int
 first:Int
 pipes:Int
 w0:Int
 w1:Int
 w2:Int
 w3:Int
 w4:Int
structure PullD where
 rank:Int
 feet:Int
 kind:Int
 at_:Int
structure BoardD where
 low:Int
 keys:Int
 pedal:Bool
 stops:List PullD
structure LinkD where
 org:Int
 dst:Int
 shift:Int
 thr:Bool
structure PlanD where
 ranks:List RPlan
 divs:List BoardD
 coups:List LinkD
structure SlipD where
 kind:Int
 at_:Int
abbrev u8e:Em Int:=Em.int .u8
abbrev i8e:Em Int:=Em.int .i8
def Em.rplan:Em RPlan:=.agg (((EmC.one u8e).pair ((EmC.one u8e).pair ((EmC.one i8e).pair ((EmC.one u8e).pair ((EmC.one u8e).pair ((EmC.one u8e).pair ((EmC.one u8e).pair ((EmC.one u8e).pair (.one u8e))))))))).iso (fun r=>(r.tone,r.feet,r.first,r.pipes,r.w0,r.w1,r.w2,r.w3,r.w4)) (fun x y h=>by cases x;cases y;simpa using h))
@[simp] theorem emb_rplan {r:RPlan}:Em.rplan.emb r=.agg [.int .u8 r.tone,.int .u8 r.feet,.int .i8 r.first,.int .u8 r.pipes,.int .u8 r.w0,.int .u8 r.w1,.int .u8 r.w2,.int .u8 r.w3,.int .u8 r.w4]:=rfl
abbrev rplans:Em (List RPlan):=Em.rplan.list 9
def Em.pull:Em PullD:=.agg (((EmC.one u8e).pair ((EmC.one u8e).pair ((EmC.one u8e).pair (.one u8e)))).iso (fun r=>(r.rank,r.feet,r.kind,r.at_)) (fun x y h=>by cases x;cases y;simpa using h))
@[simp] theorem emb_pull {r:PullD}:Em.pull.emb r=.agg [.int .u8 r.rank,.int .u8 r.feet,.int .u8 r.kind,.int .u8 r.at_]:=rfl
abbrev pullsE:Em (List PullD):=Em.pull.list 4
def Em.board:Em BoardD:=.agg (((EmC.one u8e).pair ((EmC.one u8e).pair ((EmC.one .bool).pair (.one pullsE)))).iso (fun r=>(r.low,r.keys,r.pedal,r.stops)) (fun x y h=>by cases x;cases y;simpa using h))
@[simp] theorem emb_board {r:BoardD}:Em.board.emb r=.agg [.int .u8 r.low,.int .u8 r.keys,.bool r.pedal,pullsE.emb r.stops]:=rfl
abbrev boards:Em (List BoardD):=Em.board.list 4
def Em.link:Em LinkD:=.agg (((EmC.one u8e).pair ((EmC.one u8e).pair ((EmC.one i8e).pair (.one .bool)))).iso (fun r=>(r.org,r.dst,r.shift,r.thr)) (fun x y h=>by cases x;cases y;simpa using h))
@[simp] theorem emb_link {r:LinkD}:Em.link.emb r=.agg [.int .u8 r.org,.int .u8 r.dst,.int .i8 r.shift,.bool r.thr]:=rfl
abbrev linksE:Em (List LinkD):=Em.link.list 4
def Em.plan:Em PlanD:=.agg (((EmC.one rplans).pair ((EmC.one boards).pair (.one linksE))).iso (fun r=>(r.ranks,r.divs,r.coups)) (fun x y h=>by cases x;cases y;simpa using h))
@[simp] theorem emb_plan {r:PlanD}:Em.plan.emb r=.agg [rplans.emb r.ranks,boards.emb r.divs,linksE.emb r.coups]:=rfl
def Em.slip:Em SlipD:=.agg (((EmC.one u8e).pair (.one u8e)).iso (fun r=>(r.kind,r.at_)) (fun x y h=>by cases x;cases y;simpa using h))
@[simp] theorem emb_slip {r:SlipD}:Em.slip.emb r=.agg [.int .u8 r.kind,.int .u8 r.at_]:=rfl
def okU8 (n:Int):Prop:=0≤n∧n≤255
def okI8 (n:Int):Prop:=-128≤n∧n≤127
def okRp (r:RPlan):Prop:=okU8 r.tone∧okU8 r.feet∧okI8 r.first∧okU8 r.pipes∧okU8 r.w0∧okU8 r.w1∧okU8 r.w2∧okU8 r.w3∧okU8 r.w4
def okPu (r:PullD):Prop:=okU8 r.rank∧okU8 r.feet∧okU8 r.kind∧okU8 r.at_
def okB (r:BoardD):Prop:=okU8 r.low∧okU8 r.keys∧∀ s∈r.stops,okPu s
def okLk (r:LinkD):Prop:=okU8 r.org∧okU8 r.dst∧okI8 r.shift
def okPl (p:PlanD):Prop:=(∀ r∈p.ranks,okRp r)∧(∀ b∈p.divs,okB b)∧∀ l∈p.coups,okLk l
def fitsB (p:PlanD):Bool:=decide (1≤p.ranks.length)&&decide (p.ranks.length≤3)&&decide (1≤p.divs.length)&&decide (p.divs.length≤3)&&decide (p.coups.length≤3)&&p.divs.all fun b=>decide (b.stops.length≤3)
set_option maxRecDepth 100000
set_option maxHeartbeats 4000000
variable {E:PExt} (hU:Uni E)
include hU
theorem r_Fits (h0:E 6=none) (p:PlanD):Run Tryz.prog E 6 [Em.plan.emb p] (Em.bool.emb (fitsB p)):=by
 obtain ⟨R,D,C⟩:=p
 simp only [emb_plan,emb_list]
 apply Run.bodyL h0 Tryz.func6 rfl
 focus (simp [show Tryz.f6.ntmps=_ from rfl,List.replicate];rfl)
 by_cases c1:(R.length:Int) < 1
 ·have z:¬ 1≤R.length:=by omega
  have gx:=@c1
  refine goA ?_
  clear gx
  simp (disch:=first | omega | (simp;done) | (simp;omega)) [decide_eq_decide,fitsB,z] <;> try rfl
 have z1:1≤R.length:=by omega
 by_cases c2:3 < (R.length:Int)
 ·have z:¬ R.length≤3:=by omega
  have gx:=An @c1 (@c2)
  refine goA ?_
  clear gx
  simp (disch:=first | omega | (simp;done) | (simp;omega)) [decide_eq_decide,fitsB,z] <;> try rfl
 have z2:R.length≤3:=by omega
 by_cases c3:(D.length:Int) < 1
 ·have z:¬ 1≤D.length:=by omega
  have gx:=An @c1 (An @c2 (@c3))
  refine goA ?_
  clear gx
  simp (disch:=first | omega | (simp;done) | (simp;omega)) [decide_eq_decide,fitsB,z] <;> try rfl
 have z3:1≤D.length:=by omega
 by_cases c4:3 < (D.length:Int)
 ·have z:¬ D.length≤3:=by omega
  have gx:=An @c1 (An @c2 (An @c3 (@c4)))
  refine goA ?_
  clear gx
  simp (disch:=first | omega | (simp;done) | (simp;omega)) [decide_eq_decide,fitsB,z] <;> try rfl
 have z4:D.length≤3:=by omega
 by_cases c5:3 < (C.length:Int)
 ·have z:¬ C.length≤3:=by omega
  have gx:=An @c1 (An @c2 (An @c3 (An @c4 (@c5))))
  refine goA ?_
  clear gx
  simp (disch:=first | omega | (simp;done) | (simp;omega)) [decide_eq_decide,fitsB,z] <;> try rfl
 have z5:C.length≤3:=by omega
 obtain ⟨B,hB⟩:=gn (fitsB ⟨R,D,C⟩)
 have hB0:(D.all fun b=>decide (b.stops.length≤3))=B:=by rw [← hB];simp [fitsB,z1,z2,z3,z4,z5]
 rw [hB]
 have gx:=An @c1 (An @c2 (An @c3 (An @c4 (@c5))))
 refine goA ?_
 clear gx
 refine Wp.loopI (fun m fr σ=>∃ (i:Nat),∃ gg:Nat→PD,(i+m=D.length∧((D.drop i).all fun b=>decide (b.stops.length≤3))=B)∧fr=[gg 0,.ptr 0 0,.bool false,.int .i64 i,gg 4,gg 5,gg 6,gg 7,gg 8,gg 9,gg 10,gg 11,gg 12,gg 13,gg 14,gg 15,gg 16,gg 17,gg 18,gg 19,gg 20,gg 21,gg 22,gg 23,gg 24,gg 25,gg 26,gg 27,gg 28,gg 29,gg 30,gg 31,gg 32,gg 33,gg 34,gg 35,gg 36,gg 37,gg 38,gg 39,gg 40,gg 41,gg 42,gg 43,gg 44,gg 45,gg 46]∧σ=[.box (.agg [.slice (sz 9 R) (R.map Em.rplan.emb) .any,.slice (sz 4 D) (D.map Em.board.emb) .any,.slice (sz 4 C) (C.map Em.link.emb) .any])]) ?_ (D.length) (by refine ⟨0,?_⟩;exact exF (⟨by omega,hB0⟩) (by (first | rfl | (simp [];repeat (first | rfl | (apply And.intro))) | (simp [];done))) (by (first | rfl | (simp [];repeat (first | rfl | (apply And.intro))) | (simp [];done))))
 rintro m fr σ ⟨i,gg,hI,rfl,rfl⟩
 obtain ⟨hm,hs⟩:=hI
 by_cases hi:i < D.length
 ·have q1:(i:Int) < (D.length:Int):=by omega
  obtain ⟨b,hb⟩:=gn (D[i])
  have hc1:D.drop i=b::D.drop (i+1):=by rw [List.drop_eq_getElem_cons hi,hb]
  rw [hc1,List.all_cons] at hs
  obtain ⟨b0,b1,b2,b3⟩:=b
  by_cases hl:3 < (b3.length:Int)
  ·have hz:¬ b3.length≤3:=by omega
   simp only [hz,decide_false,Bool.false_and] at hs
   have hB2:B=false:=hs.symm
   have gx:=An @q1 (An @hi (An @hb (@hl)))
   refine goA ?_
   clear gx
   simp (disch:=first | omega | (simp;done) | (simp;omega)) [decide_eq_decide,hB2] <;> try rfl
  ·have hz:b3.length≤3:=by omega
   simp only [hz,decide_true,Bool.true_and] at hs
   have gx:=An @q1 (An @hi (An @hb (@hl)))
   refine goA ?_
   clear gx
   refine LoopI.normal (m - 1) (by omega) (by refine ⟨i+1,?_⟩;exact exF (⟨by omega,hs⟩) (by (first | rfl | (simp [];repeat (first | rfl | (apply And.intro))) | (simp [];done))) (by (first | rfl | (simp [];repeat (first | rfl | (apply And.intro))) | (simp [];done))))
 ·have q1:¬ (i:Int) < (D.length:Int):=by omega
  rw [List.drop_eq_nil_of_le (by omega)] at hs
  have hB2:B=true:=hs.symm
  have gx:=@q1
  refine goA ?_
  clear gx
  simp (disch:=first | omega | (simp;done) | (simp;omega)) [decide_eq_decide,hB2] <;> try rfl
end Go.Kz

namespace Go.Kz
instance:Inhabited RPlan:=⟨⟨0,0,0,0,0,0,0,0,0⟩⟩
instance:Inhabited PullD:=⟨⟨0,0,0,0⟩⟩
instance:Inhabited BoardD:=⟨⟨0,0,false,[]⟩⟩
instance:Inhabited LinkD:=⟨⟨0,0,0,false⟩⟩
instance:Inhabited RankD:=⟨⟨[],[],0,0,0,[]⟩⟩
def feetSix:List (Int×Int):=[(8,1),(4,1),(16,1),(8,3),(2,1),(8,5)]
def feetAll:List (Int×Int):=[(8,1),(4,1),(16,1),(2,1),(8,3),(8,5),(4,3),(1,1),(32,1),(16,3),(16,5),(32,3),(8,7),(2,3),(1,2),(64,1)]
def sixAt (n:Int):Int×Int:=feetSix.getD (n%6).toNat (8,1)
def allAt (n:Int):Int×Int:=feetAll.getD (n%16).toNat (8,1)
def tones:List (List UInt8):=[[79,112,101,110],[70,108,117,116,101],[82,101,101,100]]
def toneAt (n:Int):List UInt8:=tones.getD (n%3).toNat []
def shiftTab:List ((Int×Int)×(Int×Int)×Int):=[((8,1),(8,1),0),((8,1),(4,1),-12),((8,1),(16,1),12),((8,1),(2,1),-24),((8,1),(8,3),-19),((8,1),(8,5),-28),((8,1),(4,3),-31),((8,1),(1,1),-36),((8,1),(32,1),24),((8,1),(16,3),-7),((8,1),(16,5),-16),((8,1),(32,3),5),((8,1),(8,7),-34),((8,1),(2,3),-43),((8,1),(1,2),-48),((8,1),(64,1),36),((4,1),(8,1),12),((4,1),(4,1),0),((4,1),(16,1),24),((4,1),(2,1),-12),((4,1),(8,3),-7),((4,1),(8,5),-16),((4,1),(4,3),-19),((4,1),(1,1),-24),((4,1),(32,1),36),((4,1),(16,3),5),((4,1),(16,5),-4),((4,1),(32,3),17),((4,1),(8,7),-22),((4,1),(2,3),-31),((4,1),(1,2),-36),((4,1),(64,1),48),((16,1),(8,1),-12),((16,1),(4,1),-24),((16,1),(16,1),0),((16,1),(2,1),-36),((16,1),(8,3),-31),((16,1),(8,5),-40),((16,1),(4,3),-43),((16,1),(1,1),-48),((16,1),(32,1),12),((16,1),(16,3),-19),((16,1),(16,5),-28),((16,1),(32,3),-7),((16,1),(8,7),-46),((16,1),(2,3),-55),((16,1),(1,2),-60),((16,1),(64,1),24),((8,3),(8,1),19),((8,3),(4,1),7),((8,3),(16,1),31),((8,3),(2,1),-5),((8,3),(8,3),0),((8,3),(8,5),-9),((8,3),(4,3),-12),((8,3),(1,1),-17),((8,3),(32,1),43),((8,3),(16,3),12),((8,3),(16,5),3),((8,3),(32,3),24),((8,3),(8,7),-15),((8,3),(2,3),-24),((8,3),(1,2),-29),((8,3),(64,1),55),((2,1),(8,1),24),((2,1),(4,1),12),((2,1),(16,1),36),((2,1),(2,1),0),((2,1),(8,3),5),((2,1),(8,5),-4),((2,1),(4,3),-7),((2,1),(1,1),-12),((2,1),(32,1),48),((2,1),(16,3),17),((2,1),(16,5),8),((2,1),(32,3),29),((2,1),(8,7),-10),((2,1),(2,3),-19),((2,1),(1,2),-24),((2,1),(64,1),60),((8,5),(8,1),28),((8,5),(4,1),16),((8,5),(16,1),40),((8,5),(2,1),4),((8,5),(8,3),9),((8,5),(8,5),0),((8,5),(4,3),-3),((8,5),(1,1),-8),((8,5),(32,1),52),((8,5),(16,3),21),((8,5),(16,5),12),((8,5),(32,3),33),((8,5),(8,7),-6),((8,5),(2,3),-15),((8,5),(1,2),-20),((8,5),(64,1),64)]
def shiftOf (f o:Int×Int):Int:=((shiftTab.find? fun t=>decide (t.1=f)&&decide (t.2.1=o)).map (·.2.2)).getD 0
def windAt (x:RPlan) (k:Nat):Int:=[x.w0,x.w1,x.w2,x.w3,x.w4].getD (k%5) 0
def windS (x:RPlan) (n:Nat):List Int:=(List.range n).map (windAt x)
def digit (i:Nat):UInt8:=UInt8.ofNat (48+i)
def rankS (x:RPlan) (i:Nat):RankD:=⟨[82,digit (i%10)],toneAt x.tone,(allAt x.feet).1,(allAt x.feet).2,x.first,windS x (1+(x.pipes%25).toNat)⟩
def ranksS (l:List RPlan) (n:Nat):List RankD:=(List.range n).map fun i=>rankS (l.getD i default) i
def segsS (k n sh lo hi at_ m other:Int):List SegD:=
 if k=2 then [⟨lo,hi,[⟨n,sh⟩,⟨n,sh+7⟩]⟩]
 else if k=3∨k=4 then (if lo < at_ then [⟨lo,at_ - 1,[⟨n,sh⟩]⟩] else [])++[⟨at_,hi,if k=3 then [⟨m,other⟩] else [⟨n,sh - 12⟩]⟩]
 else if k=5 then [⟨at_,hi,[⟨n,sh⟩]⟩]
 else [⟨lo,hi,[⟨n,sh⟩]⟩]
def feetOf (rs:List RankD) (n:Nat):Int×Int:=((rs.getD n default).num,(rs.getD n default).den)
def pullS (rs:List RankD) (lo hi:Int) (x:PullD) (i:Nat):StopD:=
 ⟨[83,digit i],(sixAt x.feet).1,(sixAt x.feet).2,segsS (x.kind%6) (x.rank%rs.length) (shiftOf (sixAt x.feet) (feetOf rs (x.rank%rs.length).toNat)) lo hi (lo+x.at_%(hi - lo+1))
   ((x.rank%rs.length+1)%rs.length) (shiftOf (sixAt x.feet) (feetOf rs ((x.rank%rs.length+1)%rs.length).toNat))⟩
def pullsS (rs:List RankD) (lo hi:Int) (l:List PullD) (n:Nat):List StopD:=(List.range n).map fun i=>pullS rs lo hi (l.getD i default) i
def boardS (rs:List RankD) (b:BoardD) (i:Nat):DivD:=⟨[68,digit i],b.pedal,36+b.low%12,36+b.low%12+b.keys%9,pullsS rs (36+b.low%12) (36+b.low%12+b.keys%9) b.stops b.stops.length⟩
def boardsS (rs:List RankD) (l:List BoardD) (n:Nat):List DivD:=(List.range n).map fun i=>boardS rs (l.getD i default) i
def linkS (n:Nat) (c:LinkD) (i:Nat):CoupD:=
 ⟨[67,digit i],c.org%n,c.dst%n,if c.org%n=c.dst%n∧c.shift.tmod 25=0 then 12 else c.shift.tmod 25,c.thr⟩
def linksS (n:Nat) (l:List LinkD) (k:Nat):List CoupD:=(List.range k).map fun i=>linkS n (l.getD i default) i
def organS (p:PlanD):OrganD:=⟨[79,114,103,97,110],ranksS p.ranks p.ranks.length,boardsS (ranksS p.ranks p.ranks.length) p.divs p.divs.length,linksS p.divs.length p.coups p.coups.length⟩
end Go.Kz

namespace Go.Kz
open Go Go.Proofs
set_option maxRecDepth 100000
set_option maxHeartbeats 4000000
def Em.feet:Em (Int×Int):=.agg (((EmC.one i64).pair (.one i64)).iso (fun r=>(r.1,r.2)) (fun x y h=>by cases x;cases y;simpa using h))
@[simp] theorem emb_feet {r:Int×Int}:Em.feet.emb r=.agg [.int .i64 r.1,.int .i64 r.2]:=rfl
variable {E:PExt} (hU:Uni E)
include hU
theorem r_six (h0:E 69=none) (n:Int) (hn:okU8 n):Run Tryz.prog E 69 [.int .u8 n] (Em.feet.emb (sixAt n)):=by
 obtain ⟨k,rfl⟩:∃ k:Nat,n=k:=⟨n.toNat,by have:=hn.1;omega⟩
 have hm:(k:Int).tmod 6=((k%6:Nat):Int):=rfl
 apply Run.bodyL h0 Tryz.func69 rfl
 focus (simp [show Tryz.f69.ntmps=_ from rfl,List.replicate];rfl)
 have hlt:k%6 < 6:=Nat.mod_lt _ (by decide)
 have hs:sixAt k=feetSix.getD (k%6) (8,1):=by
  unfold sixAt
  congr 1
 rw [hs]
 clear hs
 obtain ⟨j,hj⟩:=gn (k%6)
 rw [hj] at hm hlt ⊢
 match j,hlt with
 | 0,_=>
   have gx:=@hm
   refine goA ?_
   clear gx
   exact ⟨_,_,rfl,rfl⟩
 | 1,_=>
   have gx:=@hm
   refine goA ?_
   clear gx
   exact ⟨_,_,rfl,rfl⟩
 | 2,_=>
   have gx:=@hm
   refine goA ?_
   clear gx
   exact ⟨_,_,rfl,rfl⟩
 | 3,_=>
   have gx:=@hm
   refine goA ?_
   clear gx
   exact ⟨_,_,rfl,rfl⟩
 | 4,_=>
   have gx:=@hm
   refine goA ?_
   clear gx
   exact ⟨_,_,rfl,rfl⟩
 | 5,_=>
   have gx:=@hm
   refine goA ?_
   clear gx
   exact ⟨_,_,rfl,rfl⟩
 | j+6,h=>exact absurd h (by omega)
theorem r_all (h0:E 68=none) (n:Int) (hn:okU8 n):Run Tryz.prog E 68 [.int .u8 n] (Em.feet.emb (allAt n)):=by
 obtain ⟨k,rfl⟩:∃ k:Nat,n=k:=⟨n.toNat,by have:=hn.1;omega⟩
 have hm:(k:Int).tmod 16=((k%16:Nat):Int):=rfl
 apply Run.bodyL h0 Tryz.func68 rfl
 focus (simp [show Tryz.f68.ntmps=_ from rfl,List.replicate];rfl)
 have hlt:k%16 < 16:=Nat.mod_lt _ (by decide)
 have hs:allAt k=feetAll.getD (k%16) (8,1):=by
  unfold allAt
  congr 1
 rw [hs]
 clear hs
 obtain ⟨j,hj⟩:=gn (k%16)
 rw [hj] at hm hlt ⊢
 match j,hlt with
 | 0,_=>
   have gx:=@hm
   refine goA ?_
   clear gx
   exact ⟨_,_,rfl,rfl⟩
 | 1,_=>
   have gx:=@hm
   refine goA ?_
   clear gx
   exact ⟨_,_,rfl,rfl⟩
 | 2,_=>
   have gx:=@hm
   refine goA ?_
   clear gx
   exact ⟨_,_,rfl,rfl⟩
 | 3,_=>
   have gx:=@hm
   refine goA ?_
   clear gx
   exact ⟨_,_,rfl,rfl⟩
 | 4,_=>
   have gx:=@hm
   refine goA ?_
   clear gx
   exact ⟨_,_,rfl,rfl⟩
 | 5,_=>
   have gx:=@hm
   refine goA ?_
   clear gx
   exact ⟨_,_,rfl,rfl⟩
 | 6,_=>
   have gx:=@hm
   refine goA ?_
   clear gx
   exact ⟨_,_,rfl,rfl⟩
 | 7,_=>
   have gx:=@hm
   refine goA ?_
   clear gx
   exact ⟨_,_,rfl,rfl⟩
 | 8,_=>
   have gx:=@hm
   refine goA ?_
   clear gx
   exact ⟨_,_,rfl,rfl⟩
 | 9,_=>
   have gx:=@hm
   refine goA ?_
   clear gx
   exact ⟨_,_,rfl,rfl⟩
 | 10,_=>
   have gx:=@hm
   refine goA ?_
   clear gx
   exact ⟨_,_,rfl,rfl⟩
 | 11,_=>
   have gx:=@hm
   refine goA ?_
   clear gx
   exact ⟨_,_,rfl,rfl⟩
 | 12,_=>
   have gx:=@hm
   refine goA ?_
   clear gx
   exact ⟨_,_,rfl,rfl⟩
 | 13,_=>
   have gx:=@hm
   refine goA ?_
   clear gx
   exact ⟨_,_,rfl,rfl⟩
 | 14,_=>
   have gx:=@hm
   refine goA ?_
   clear gx
   exact ⟨_,_,rfl,rfl⟩
 | 15,_=>
   have gx:=@hm
   refine goA ?_
   clear gx
   exact ⟨_,_,rfl,rfl⟩
 | j+16,h=>exact absurd h (by omega)
end Go.Kz

namespace Go.Kz
open Go Go.Proofs
set_option maxRecDepth 100000
set_option maxHeartbeats 4000000
def letterI (n:Int):Bool:=(decide (65≤n)&&decide (n≤90))||(decide (97≤n)&&decide (n≤122))
def nameC (c:UInt8):Bool:=letterI c.toNat||(decide (48≤(c.toNat:Int))&&decide ((c.toNat:Int)≤57))||decide (c.toNat=95)
def nameB:List UInt8→Bool
 | []=>false
 | c::r=>decide ((c::r).length≤32)&&letterI c.toNat&&r.all nameC
def compE (lo hi:Int):Int:=if lo < 0∨127 < hi then 3 else if hi < lo then 23 else 0
noncomputable def gLet:Nat→List PD→List SObj→Option (PD×List SObj):=entry (gf1 (Em.int .u8) Em.bool fun n=>some (letterI n))
theorem gLet_of (n:Int) (fl:Nat) (σ:List SObj):gLet fl [.int .u8 n] σ=some (.bool (letterI n),σ):=by
 have e:(Em.int .u8).dec (.int .u8 n)=some n:=Em.dec_some rfl
 unfold gLet entry gf1
 simp only [e]
 rfl
variable {E:PExt} (hU:Uni E)
include hU
theorem r_letter (h0:E 78=none) (n:Int):Run Tryz.prog E 78 [.int .u8 n] (Em.bool.emb (letterI n)):=by
 apply Run.bodyL h0 Tryz.func78 rfl
 focus (simp [show Tryz.f78.ntmps=_ from rfl,List.replicate];rfl)
 by_cases a:65≤n
 ·by_cases b:n≤90
  ·have gx:=An @a (@b)
   refine goA ?_
   clear gx
   simp (disch:=first | omega | (simp;done) | (simp;omega)) [decide_eq_decide,letterI,a,b] <;> try rfl
  ·by_cases c:97≤n
   ·have gx:=An @a (An @b (@c))
    refine goA ?_
    clear gx
    simp (disch:=first | omega | (simp;done) | (simp;omega)) [decide_eq_decide,letterI,a,b,c] <;> try rfl
   ·have gx:=An @a (An @b (@c))
    refine goA ?_
    clear gx
    simp (disch:=first | omega | (simp;done) | (simp;omega)) [decide_eq_decide,letterI,a,b,c] <;> try rfl
 ·by_cases c:97≤n
  ·have gx:=An @a (@c)
   refine goA ?_
   clear gx
   simp (disch:=first | omega | (simp;done) | (simp;omega)) [decide_eq_decide,letterI,a,c] <;> try rfl
  ·have gx:=An @a (@c)
   refine goA ?_
   clear gx
   simp (disch:=first | omega | (simp;done) | (simp;omega)) [decide_eq_decide,letterI,a,c] <;> try rfl
theorem r_compass (h0:E 82=none) (lo hi:Int):Run Tryz.prog E 82 [.agg [.int .i64 lo,.int .i64 hi]] (.int .i64 (compE lo hi)):=by
 apply Run.bodyL h0 Tryz.func82 rfl
 focus (simp [show Tryz.f82.ntmps=_ from rfl,List.replicate];rfl)
 by_cases a:lo < 0
 ·have gx:=@a
  refine goA ?_
  clear gx
  simp (disch:=first | omega | (simp;done) | (simp;omega)) [decide_eq_decide,compE,a] <;> try rfl
 by_cases b:127 < hi
 ·have gx:=An @a (@b)
  refine goA ?_
  clear gx
  simp (disch:=first | omega | (simp;done) | (simp;omega)) [decide_eq_decide,compE,a,b] <;> try rfl
 by_cases c:hi < lo
 ·have gx:=An @a (An @b (@c))
  refine goA ?_
  clear gx
  simp (disch:=first | omega | (simp;done) | (simp;omega)) [decide_eq_decide,compE,a,b,c] <;> try rfl
 ·have gx:=An @a (An @b (@c))
  refine goA ?_
  clear gx
  simp (disch:=first | omega | (simp;done) | (simp;omega)) [decide_eq_decide,compE,a,b,c] <;> try rfl
theorem r_first (h0:E 80=none) (n:Int):Run Tryz.prog E 80 [.int .i64 n] (Em.bool.emb (decide (-256≤n)&&decide (n≤256))):=by
 apply Run.bodyL h0 Tryz.func80 rfl
 focus (simp [show Tryz.f80.ntmps=_ from rfl,List.replicate];rfl)
 by_cases a:-256≤n
 ·by_cases b:n≤256
  ·have gx:=An @a (@b)
   refine goA ?_
   clear gx
   simp (disch:=first | omega | (simp;done) | (simp;omega)) [decide_eq_decide,a,b] <;> try rfl
  ·have gx:=An @a (@b)
   refine goA ?_
   clear gx
   simp (disch:=first | omega | (simp;done) | (simp;omega)) [decide_eq_decide,a,b] <;> try rfl
 ·have gx:=@a
  refine goA ?_
  clear gx
  simp (disch:=first | omega | (simp;done) | (simp;omega)) [decide_eq_decide,a] <;> try rfl
theorem r_isName (h0:E 36=none) (h1:E 78=some gLet) (s:List UInt8) (hs:s.length≤100000):Run Tryz.prog E 36 [.str s] (Em.bool.emb (nameB s)):=by
 by_cases hs0:s=[]
 ·subst hs0
  apply Run.bodyL h0 Tryz.func36 rfl
  focus (simp [show Tryz.f36.ntmps=_ from rfl,List.replicate];rfl)
  have gx:=True.intro
  refine goA ?_
  clear gx
  simp (disch:=first | omega | (simp;done) | (simp;omega)) [decide_eq_decide,nameB] <;> try rfl
 obtain ⟨c,r,hcr⟩:∃ c r,s=c::r:=by cases s with | nil=>exact absurd rfl hs0 | cons c r=>exact ⟨c,r,rfl⟩
 have hs1:s.isEmpty=false:=by rw [hcr];rfl
 have hx0:s[0]?=some c:=by rw [hcr];rfl
 obtain ⟨hlt0,hx1⟩:=List.getElem?_eq_some_iff.1 hx0
 apply Run.bodyL h0 Tryz.func36 rfl
 focus (simp [show Tryz.f36.ntmps=_ from rfl,List.replicate];rfl)
 by_cases a:32 < (s.length:Int)
 ·have hB:nameB s=false:=by rw [hcr];simp [nameB,show ¬ r.length+1≤32 by rw [hcr] at a;simp at a;omega]
  rw [hB]
  have gx:=An @hs0 (An @hs1 (@a))
  refine goA ?_
  clear gx
  simp (disch:=first | omega | (simp;done) | (simp;omega)) [decide_eq_decide] <;> try rfl
 ·cases hc:letterI c.toNat with
  | false=>
    have hB:nameB s=false:=by rw [hcr];simp [nameB,hc]
    rw [hB]
    have gx:=An @h1 (An @hs0 (An @hs1 (An @a (An @hx0 (An @hx1 (An @hlt0 (An @gLet_of (@hc))))))))
    refine goA ?_
    clear gx
    simp (disch:=first | omega | (simp;done) | (simp;omega)) [decide_eq_decide] <;> try rfl
  | true=>
    have hB:nameB s=(s.drop 1).all nameC:=by rw [hcr];simp only [nameB,hc];simp [show r.length+1≤32 by rw [hcr] at a;simp at a;omega]
    rw [hB]
    clear hB
    obtain ⟨B,hB⟩:=gn ((s.drop 1).all nameC)
    rw [hB]
    have gx:=An @h1 (An @hs0 (An @hs1 (An @a (An @hx0 (An @hx1 (An @hlt0 (An @gLet_of (@hc))))))))
    refine goA ?_
    clear gx
    refine Wp.loopI (fun m fr σ=>∃ (k:Nat),∃ gg:Nat→PD,(k+m=s.length∧1≤k∧(s.drop k).all nameC=B)∧fr=[.str s,gg 1,gg 2,.int .i64 k,gg 4,gg 5,gg 6,gg 7,gg 8,gg 9,gg 10,gg 11,gg 12,gg 13,gg 14,gg 15,gg 16,gg 17,gg 18,gg 19,gg 20,gg 21,gg 22,gg 23,gg 24,gg 25,gg 26,gg 27,gg 28,gg 29,gg 30,gg 31,gg 32,gg 33,gg 34,gg 35,gg 36,gg 37,gg 38,gg 39,gg 40,gg 41]∧σ=[]) ?_ (s.length - 1) (by refine ⟨1,?_⟩;exact exF (⟨by omega,by omega,hB⟩) (by (first | rfl | (simp [];repeat (first | rfl | (apply And.intro))) | (simp [];done))) (by (first | rfl | (simp [];repeat (first | rfl | (apply And.intro))) | (simp [];done))))
    rintro m fr σ ⟨k,gg,hI,rfl,rfl⟩
    obtain ⟨hm,hk1,hkB⟩:=hI
    by_cases hk:k < s.length
    ·have q1:(k:Int) < (s.length:Int):=by omega
     obtain ⟨v,hv⟩:=gn (s[k])
     have hv2:s[k]?=some v:=by rw [List.getElem?_eq_getElem hk,hv]
     have hd:s.drop k=v::s.drop (k+1):=by rw [List.drop_eq_getElem_cons hk,hv]
     have hw:IntKind.i64.wrap ((k:Int)+1)=((k+1:Nat):Int):=by rw [IntKind.wrap_i64];omega
     rw [hd,List.all_cons] at hkB
     cases hl:letterI v.toNat with
     | true=>
       have hn:nameC v=true:=by unfold nameC;rw [hl];rfl
       rw [hn,Bool.true_and] at hkB
       have gx:=An @h1 (An @q1 (An @hk (An @hv (An @hv2 (An @gLet_of (An @hl (@hw)))))))
       refine goA ?_
       clear gx
       refine LoopI.normal (m - 1) (by omega) (by refine ⟨k+1,?_⟩;exact exF (⟨by omega,by omega,hkB⟩) (by (first | rfl | (simp [];repeat (first | rfl | (apply And.intro))) | (simp [];done))) (by (first | rfl | (simp [];repeat (first | rfl | (apply And.intro))) | (simp [];done))))
     | false=>
       have l95:letterI 95=false:=by decide
       have nC:nameC v=((decide (48≤(v.toNat:Int))&&decide ((v.toNat:Int)≤57))||decide (v.toNat=95)):=by unfold nameC;rw [hl];rfl
       by_cases b1:(v.toNat:Int) < 48
       ·have hn:nameC v=false:=by rw [nC];simp;omega
        rw [hn,Bool.false_and] at hkB
        subst hkB
        have b3:¬ (v.toNat:Int)=95:=by omega
        have gx:=An @h1 (An @q1 (An @hk (An @hv (An @hv2 (An @gLet_of (An @hl (An @hw (An @b1 (@b3)))))))))
        refine goA ?_
        clear gx
        simp (disch:=first | omega | (simp;done) | (simp;omega)) [decide_eq_decide] <;> try rfl
       ·by_cases b2:57 < (v.toNat:Int)
        ·by_cases b3:(v.toNat:Int)=95
         ·have hn:nameC v=true:=by rw [nC];simp;omega
          rw [hn,Bool.true_and] at hkB
          have gx:=An @h1 (An @q1 (An @hk (An @hv (An @hv2 (An @gLet_of (An @hl (An @hw (An @b1 (An @b2 (An @b3 (@l95)))))))))))
          refine goA ?_
          clear gx
          refine LoopI.normal (m - 1) (by omega) (by refine ⟨k+1,?_⟩;exact exF (⟨by omega,by omega,hkB⟩) (by (first | rfl | (simp [];repeat (first | rfl | (apply And.intro))) | (simp [];done))) (by (first | rfl | (simp [];repeat (first | rfl | (apply And.intro))) | (simp [];done))))
         ·have hn:nameC v=false:=by rw [nC];simp;omega
          rw [hn,Bool.false_and] at hkB
          subst hkB
          have gx:=An @h1 (An @q1 (An @hk (An @hv (An @hv2 (An @gLet_of (An @hl (An @hw (An @b1 (An @b2 (@b3))))))))))
          refine goA ?_
          clear gx
          simp (disch:=first | omega | (simp;done) | (simp;omega)) [decide_eq_decide] <;> try rfl
        ·have hn:nameC v=true:=by rw [nC];simp;omega
         rw [hn,Bool.true_and] at hkB
         have gx:=An @h1 (An @q1 (An @hk (An @hv (An @hv2 (An @gLet_of (An @hl (An @hw (An @b1 (@b2)))))))))
         refine goA ?_
         clear gx
         refine LoopI.normal (m - 1) (by omega) (by refine ⟨k+1,?_⟩;exact exF (⟨by omega,by omega,hkB⟩) (by (first | rfl | (simp [];repeat (first | rfl | (apply And.intro))) | (simp [];done))) (by (first | rfl | (simp [];repeat (first | rfl | (apply And.intro))) | (simp [];done))))
    ·have q1:¬ (k:Int) < (s.length:Int):=by omega
     obtain rfl:k=s.length:=by omega
     rw [List.drop_length] at hkB
     subst hkB
     have gx:=@q1
     refine goA ?_
     clear gx
     simp (disch:=first | omega | (simp;done) | (simp;omega)) [decide_eq_decide] <;> try rfl
end Go.Kz

namespace Go.Kz
open Go Go.Proofs
set_option maxRecDepth 100000
set_option maxHeartbeats 4000000
variable {E:PExt} (hU:Uni E)
include hU
end Go.Kz

namespace Go.Kz
open Go Go.Proofs
set_option maxRecDepth 100000
set_option maxHeartbeats 4000000
def fracE (n d:Int):Int:=if d≤0∨1000000 < d∨n < -1000000∨1000000 < n∨Nat.gcd n.natAbs d.toNat≠1 then 2 else 0
def pitchE (n d:Int):Int:=if fracE n d≠0 then 2 else if n≤0∨128*d < n then 3 else if 128 < d then 4 else 0
abbrev u64q:Em Int:=Em.int .u64
noncomputable def gGcd:Nat→List PD→List SObj→Option (PD×List SObj):=entry (gf2 u64q u64q u64q fun a b=>gif (0≤a∧a≤1000000∧0≤b∧b≤1000000) (some (Nat.gcd a.toNat b.toNat)))
theorem gGcd_of {a b:Nat} (ha:a≤1000000) (hb:b≤1000000) (fl:Nat) (σ:List SObj):gGcd fl [.int .u64 a,.int .u64 b] σ=some (.int .u64 (Nat.gcd a b),σ):=by
 have e1:u64q.dec (.int .u64 a)=some (a:Int):=Em.dec_some rfl
 have e2:u64q.dec (.int .u64 b)=some (b:Int):=Em.dec_some rfl
 unfold gGcd entry gf2
 simp only [e1,e2]
 rw [gif_pos ⟨by omega,by omega,by omega,by omega⟩]
 rfl
variable {E:PExt} (hU:Uni E)
include hU
theorem r_gcd (h0:E 144=none) (a b:Nat) (ha:a≤1000000) (hb:b≤1000000):Run Tryz.prog E 144 [.int .u64 a,.int .u64 b] (u64q.emb (Nat.gcd a b)):=by
 obtain ⟨G,hG⟩:=gn (Nat.gcd a b)
 rw [hG]
 apply Run.bodyL h0 Tryz.func144 rfl
 focus (simp [show Tryz.f144.ntmps=_ from rfl,List.replicate];rfl)
 have gx:=True.intro
 refine goA ?_
 clear gx
 refine Wp.loopI (fun m fr σ=>∃ (u v:Nat),∃ gg:Nat→PD,(v≤m∧u≤1000000∧v≤1000000∧Nat.gcd u v=G)∧fr=[.int .u64 u,.int .u64 v,gg 2,gg 3,gg 4,gg 5,gg 6,gg 7,gg 8,gg 9,gg 10,gg 11]∧σ=[]) ?_ (b) (by refine ⟨a,b,?_⟩;exact exF (⟨Nat.le_refl _,ha,hb,hG⟩) (by (first | rfl | (simp [];repeat (first | rfl | (apply And.intro))) | (simp [];done))) (by (first | rfl | (simp [];repeat (first | rfl | (apply And.intro))) | (simp [];done))))
 rintro m fr σ ⟨u,v,gg,hI,rfl,rfl⟩
 obtain ⟨hm,hu,hv,hg⟩:=hI
 by_cases q:v=0
 ·subst q
  rw [Nat.gcd_zero_right] at hg
  subst hg
  have gx:=True.intro
  refine goA ?_
  clear gx
  simp (disch:=first | omega | (simp;done) | (simp;omega)) [decide_eq_decide] <;> try rfl
 ·have q1:0 < v:=by omega
  have q2:¬ (v:Int)=0:=by omega
  have hml:u%v < v:=Nat.mod_lt _ (by omega)
  have hgr:Nat.gcd v (u%v)=G:=by rw [Nat.gcd_comm v (u%v),← Nat.gcd_rec,Nat.gcd_comm,hg]
  obtain ⟨r,hr⟩:=gn (u%v)
  have w1:((u:Int)).tmod (v:Int)=(r:Int):=by rw [← hr];rfl
  rw [hr] at hml hgr
  have w2:IntKind.u64.wrap (r:Int)=(r:Int):=by simp only [IntKind.wrap,IntKind.bits,IntKind.signed];simp;omega
  have gx:=An @q (An @q1 (An @q2 (An @w1 (@w2))))
  refine goA ?_
  clear gx
  refine LoopI.normal (m - 1) (by omega) (by refine ⟨v,r,?_⟩;exact exF (⟨by omega,hv,by omega,hgr⟩) (by (first | rfl | (simp [];repeat (first | rfl | (apply And.intro))) | (simp [];done))) (by (first | rfl | (simp [];repeat (first | rfl | (apply And.intro))) | (simp [];done))))
theorem r_mag (h0:E 145=none) (n:Int) (h:-1000000≤n∧n≤1000000):Run Tryz.prog E 145 [.int .i64 n] (u64q.emb n.natAbs):=by
 apply Run.bodyL h0 Tryz.func145 rfl
 focus (simp [show Tryz.f145.ntmps=_ from rfl,List.replicate];rfl)
 by_cases a:n < 0
 ·have w1:IntKind.u64.wrap n=n+18446744073709551616:=by simp only [IntKind.wrap,IntKind.bits,IntKind.signed];simp;omega
  have w2:IntKind.u64.wrap (-(n+18446744073709551616))=(n.natAbs:Int):=by simp only [IntKind.wrap,IntKind.bits,IntKind.signed];simp;omega
  have gx:=An @a (An @w1 (@w2))
  refine goA ?_
  clear gx
  simp (disch:=first | omega | (simp;done) | (simp;omega)) [decide_eq_decide] <;> try rfl
 ·have w1:IntKind.u64.wrap n=(n.natAbs:Int):=by simp only [IntKind.wrap,IntKind.bits,IntKind.signed];simp;omega
  have gx:=An @a (@w1)
  refine goA ?_
  clear gx
  simp (disch:=first | omega | (simp;done) | (simp;omega)) [decide_eq_decide] <;> try rfl
noncomputable def gMag:Nat→List PD→List SObj→Option (PD×List SObj):=entry (gf1 i64 u64q fun n=>gif (-1000000≤n∧n≤1000000) (some (n.natAbs:Int)))
omit hU in
theorem gMag_of {n:Int} (h:-1000000≤n∧n≤1000000) (fl:Nat) (σ:List SObj):gMag fl [.int .i64 n] σ=some (.int .u64 n.natAbs,σ):=by
 have e1:i64.dec (.int .i64 n)=some n:=Em.dec_some rfl
 unfold gMag entry gf1
 simp only [e1]
 rw [gif_pos h]
 rfl
theorem r_frac (h0:E 106=none) (h1:E 145=some gMag) (h2:E 144=some gGcd) (n d:Int):Run Tryz.prog E 106 [.agg [.int .i64 n,.int .i64 d]] (i64.emb (fracE n d)):=by
 by_cases a:d≤0
 ·skip
  apply Run.bodyL h0 Tryz.func106 rfl
  focus (simp [show Tryz.f106.ntmps=_ from rfl,List.replicate];rfl)
  have gx:=@a
  refine goA ?_
  clear gx
  simp (disch:=first | omega | (simp;done) | (simp;omega)) [decide_eq_decide,fracE,a] <;> try rfl
 by_cases b:1000000 < d
 ·skip
  apply Run.bodyL h0 Tryz.func106 rfl
  focus (simp [show Tryz.f106.ntmps=_ from rfl,List.replicate];rfl)
  have gx:=An @a (@b)
  refine goA ?_
  clear gx
  simp (disch:=first | omega | (simp;done) | (simp;omega)) [decide_eq_decide,fracE,a,b] <;> try rfl
 by_cases c:n < -1000000
 ·skip
  apply Run.bodyL h0 Tryz.func106 rfl
  focus (simp [show Tryz.f106.ntmps=_ from rfl,List.replicate];rfl)
  have gx:=An @a (An @b (@c))
  refine goA ?_
  clear gx
  simp (disch:=first | omega | (simp;done) | (simp;omega)) [decide_eq_decide,fracE,a,b,c] <;> try rfl
 by_cases e:1000000 < n
 ·skip
  apply Run.bodyL h0 Tryz.func106 rfl
  focus (simp [show Tryz.f106.ntmps=_ from rfl,List.replicate];rfl)
  have gx:=An @a (An @b (An @c (@e)))
  refine goA ?_
  clear gx
  simp (disch:=first | omega | (simp;done) | (simp;omega)) [decide_eq_decide,fracE,a,b,c,e] <;> try rfl
 have hM:=gMag_of (n:=n) (by omega)
 obtain ⟨D,rfl⟩:∃ D:Nat,d=D:=⟨d.toNat,by omega⟩
 obtain ⟨N,hN⟩:=gn (n.natAbs)
 rw [hN] at hM
 have hG:=gGcd_of (a:=N) (b:=D) (by omega) (by omega)
 have w:IntKind.u64.wrap (D:Int)=D:=by simp only [IntKind.wrap,IntKind.bits,IntKind.signed];simp;omega
 obtain ⟨g,hg⟩:=gn (Nat.gcd N D)
 have a2:¬ D=0:=by omega
 have b2:¬ 1000000 < D:=by omega
 have hE:fracE n D=if g=1 then 0 else 2:=by
  unfold fracE
  rw [hN,Int.toNat_natCast]
  by_cases q:g=1
  ·rw [if_pos q,if_neg (by omega)]
  ·rw [if_neg q,if_pos (by omega)]
 rw [hE]
 rw [hg] at hG
 by_cases q:g=1
 ·have q1:(g:Int)=1:=by omega
  apply Run.bodyL h0 Tryz.func106 rfl
  focus (simp [show Tryz.f106.ntmps=_ from rfl,List.replicate];rfl)
  have gx:=An @h1 (An @h2 (An @a (An @a2 (An @b (An @b2 (An @c (An @e (An @hM (An @hG (An @w (An @q1 (@q))))))))))))
  refine goA ?_
  clear gx
  simp (disch:=first | omega | (simp;done) | (simp;omega)) [decide_eq_decide,q] <;> try rfl
 ·have q1:¬ (g:Int)=1:=by omega
  apply Run.bodyL h0 Tryz.func106 rfl
  focus (simp [show Tryz.f106.ntmps=_ from rfl,List.replicate];rfl)
  have gx:=An @h1 (An @h2 (An @a (An @a2 (An @b (An @b2 (An @c (An @e (An @hM (An @hG (An @w (An @q1 (@q))))))))))))
  refine goA ?_
  clear gx
  simp (disch:=first | omega | (simp;done) | (simp;omega)) [decide_eq_decide,q] <;> try rfl
noncomputable def gFr:Nat→List PD→List SObj→Option (PD×List SObj):=entry (gf1 Em.feet i64 fun x=>some (fracE x.1 x.2))
omit hU in
theorem gFr_of (n d:Int) (fl:Nat) (σ:List SObj):gFr fl [.agg [.int .i64 n,.int .i64 d]] σ=some (.int .i64 (fracE n d),σ):=by
 have e1:Em.feet.dec (.agg [.int .i64 n,.int .i64 d])=some (n,d):=Em.dec_some rfl
 unfold gFr entry gf1
 simp only [e1]
 rfl
theorem r_pitch (h0:E 79=none) (h1:E 106=some gFr) (n d:Int):Run Tryz.prog E 79 [.agg [.int .i64 n,.int .i64 d]] (i64.emb (pitchE n d)):=by
 have hF:=gFr_of n d
 by_cases a:fracE n d=0
 ·have hd:0 < d∧d≤1000000:=by
   unfold fracE at a
   split at a
   ·cases a
   ·omega
  have w:IntKind.i64.wrap (128*d)=128*d:=by rw [IntKind.wrap_i64];omega
  rw [a] at hF
  unfold pitchE
  rw [a]
  apply Run.bodyL h0 Tryz.func79 rfl
  focus (simp [show Tryz.f79.ntmps=_ from rfl,List.replicate];rfl)
  by_cases b:n≤0
  ·have gx:=An @h1 (An @hF (@b))
   refine goA ?_
   clear gx
   simp (disch:=first | omega | (simp;done) | (simp;omega)) [decide_eq_decide,b] <;> try rfl
  by_cases c:128*d < n
  ·have gx:=An @h1 (An @hF (An @b (An @w (@c))))
   refine goA ?_
   clear gx
   simp (disch:=first | omega | (simp;done) | (simp;omega)) [decide_eq_decide,b,c] <;> try rfl
  by_cases e:128 < d
  ·have gx:=An @h1 (An @hF (An @b (An @w (An @c (@e)))))
   refine goA ?_
   clear gx
   simp (disch:=first | omega | (simp;done) | (simp;omega)) [decide_eq_decide,b,c,e] <;> try rfl
  ·have gx:=An @h1 (An @hF (An @b (An @w (An @c (@e)))))
   refine goA ?_
   clear gx
   simp (disch:=first | omega | (simp;done) | (simp;omega)) [decide_eq_decide,b,c,e] <;> try rfl
 ·unfold pitchE
  rw [if_pos a]
  obtain ⟨f,hf⟩:=gn (fracE n d)
  rw [hf] at a hF
  apply Run.bodyL h0 Tryz.func79 rfl
  focus (simp [show Tryz.f79.ntmps=_ from rfl,List.replicate];rfl)
  have gx:=An @h1 (An @hF (@a))
  refine goA ?_
  clear gx
  simp (disch:=first | omega | (simp;done) | (simp;omega)) [decide_eq_decide] <;> try rfl
end Go.Kz

namespace Go.Kz
open Go Go.Proofs
set_option maxRecDepth 100000
set_option maxHeartbeats 4000000
def ixF {α:Type} (p:α→Bool):List α→Nat→Int
 | [],_=>-1
 | x::r,i=>if p x=true then (i:Int) else ixF p r (i+1)
theorem ixF_any {α:Type} (p:α→Bool):∀ (l:List α) (i:Nat),decide (0≤ixF p l i)=l.any p
 | [],_=>rfl
 | x::r,i=>by
   unfold ixF
   cases h:p x with
   | true=>rw [if_pos rfl,List.any_cons,h];simp
   | false=>rw [if_neg (by decide),List.any_cons,h,ixF_any p r (i+1)];rfl
def badW (w:Int):Bool:=decide (w < 0)||decide (1000000 < w)
noncomputable def gBad:Nat→List PD→List SObj→Option (PD×List SObj):=entry (gf1 i64 Em.bool fun n=>some (badW n))
theorem gBad_of (n:Int) (fl:Nat) (σ:List SObj):gBad fl [.int .i64 n] σ=some (.bool (badW n),σ):=by
 have e:i64.dec (.int .i64 n)=some n:=Em.dec_some rfl
 unfold gBad entry gf1
 simp only [e]
 rfl
variable {E:PExt} (hU:Uni E)
include hU
theorem r_bad (h0:E 108=none) (n:Int):Run Tryz.prog E 108 [.int .i64 n] (Em.bool.emb (badW n)):=by
 apply Run.bodyL h0 Tryz.func108 rfl
 focus (simp [show Tryz.f108.ntmps=_ from rfl,List.replicate];rfl)
 by_cases a:n < 0
 ·have gx:=@a
  refine goA ?_
  clear gx
  simp (disch:=first | omega | (simp;done) | (simp;omega)) [decide_eq_decide,badW,a] <;> try rfl
 ·by_cases b:1000000 < n
  ·have gx:=An @a (@b)
   refine goA ?_
   clear gx
   simp (disch:=first | omega | (simp;done) | (simp;omega)) [decide_eq_decide,badW,a,b] <;> try rfl
  ·have gx:=An @a (@b)
   refine goA ?_
   clear gx
   simp (disch:=first | omega | (simp;done) | (simp;omega)) [decide_eq_decide,badW,a,b] <;> try rfl
theorem r_IndexI (h0:E 146=none) (h1:E 108=some gBad) (l:List Int) (hl:l.length≤1000000):Run Tryz.prog E 146 [i64s.emb l,.func 108 []] (i64.emb (ixF badW l 0)):=by
 obtain ⟨B,hB⟩:=gn (ixF badW l 0)
 rw [hB]
 apply Run.bodyL h0 Tryz.func146 rfl
 focus (simp [show Tryz.f146.ntmps=_ from rfl,List.replicate];rfl)
 have gx:=True.intro
 refine goA ?_
 clear gx
 refine Wp.loopI (fun m fr σ=>∃ (i:Nat),∃ gg:Nat→PD,(i+m=l.length∧ixF badW (l.drop i) i=B)∧fr=[i64s.emb l,.func 108 [],gg 2,gg 3,gg 4,gg 5,i64s.emb l,.int .i64 l.length,.int .i64 i,gg 9,gg 10,gg 11,gg 12,gg 13,gg 14,gg 15,gg 16,gg 17,gg 18]∧σ=[]) ?_ (l.length) (by refine ⟨0,?_⟩;exact exF (⟨by omega,hB⟩) (by (first | rfl | (simp [];repeat (first | rfl | (apply And.intro))) | (simp [];done))) (by (first | rfl | (simp [];repeat (first | rfl | (apply And.intro))) | (simp [];done))))
 rintro m fr σ ⟨i,gg,hI,rfl,rfl⟩
 obtain ⟨hm,hs⟩:=hI
 by_cases hi:i < l.length
 ·have q1:(i:Int) < (l.length:Int):=by omega
  obtain ⟨a,ha⟩:=gn (l[i])
  have hc:l.drop i=a::l.drop (i+1):=by rw [List.drop_eq_getElem_cons hi,ha]
  have hE:=gBad_of a
  rw [hc] at hs
  unfold ixF at hs
  cases hb:badW a with
  | true=>
    rw [hb] at hE
    rw [if_pos hb] at hs
    have hB2:B=(i:Int):=hs.symm
    clear hs
    have gx:=An @q1 (An @hi (@ha))
    refine goA ?_
    clear gx
    first | refine Wp.seq ?_ | skip
    apply Wp.regionS
    repeat (first
     | (refine Fr.i ?_;simp only [pput,List.set_cons_zero,List.set_cons_succ];try rfl)
     | (refine By.i ?_;(focus (simp (disch:=first | omega | (simp;done) | (simp;omega)) [wrap_i64,wrap_u64,h1,hE,hi,ha];first | done | rfl | exact ⟨rfl,rfl⟩)))
     | (refine By.i ?_;simp (disch:=first | omega | (simp;done) | (simp;omega)) [wrap_i64,wrap_u64,h1,hE,hi,ha];refine ⟨(by (try simp only [List.length_append,List.length_cons,List.length_nil,maxLen]);omega),rfl⟩)
     | (refine Wt.i ?_;first | rfl | (focus (simp [h1,hE,hi,ha];done)))
     | (refine Ns.i ?_;(try simp only [List.append_nil,List.nil_append,List.cons_append,List.append_assoc,List.length_append,List.length_cons,List.length_nil,Nat.zero_add,Nat.reduceAdd]);rfl) | rfl
     | (apply SL.pass;(focus (refine Wt.i ?_;rfl))) | (apply SL.convertR;(focus rfl)) | apply SL.move | apply SL.assign | apply SL.load | apply SL.isnilE | apply SL.isnilN | apply SL.make | apply SL.binOp | apply SL.append
     | apply SL.copy | apply SL.builtin | apply SL.fieldAddr | apply SL.indexAddr | apply SL.field | apply SL.extract | apply SL.fcall | apply SL.pick | apply SL.store | apply SL.unOp | apply SL.convert | apply SL.index | apply SL.slice
     | apply SL.build | apply SL.nilCheck | apply SL.buildSlice | apply SL.box | apply SL.alloc | apply SL.makeFunc)
    apply SQ.nil
    have gx:=@q1
    refine goA ?_
    clear gx
    simp (disch:=first | omega | (simp;done) | (simp;omega)) [decide_eq_decide,hB2] <;> try rfl
  | false=>
    rw [hb] at hE
    rw [if_neg (by rw [hb];decide)] at hs
    have gx:=An @q1 (An @hi (@ha))
    refine goA ?_
    clear gx
    first | refine Wp.seq ?_ | skip
    apply Wp.regionS
    repeat (first
     | (refine Fr.i ?_;simp only [pput,List.set_cons_zero,List.set_cons_succ];try rfl)
     | (refine By.i ?_;(focus (simp (disch:=first | omega | (simp;done) | (simp;omega)) [wrap_i64,wrap_u64,h1,hE,hi,ha];first | done | rfl | exact ⟨rfl,rfl⟩)))
     | (refine By.i ?_;simp (disch:=first | omega | (simp;done) | (simp;omega)) [wrap_i64,wrap_u64,h1,hE,hi,ha];refine ⟨(by (try simp only [List.length_append,List.length_cons,List.length_nil,maxLen]);omega),rfl⟩)
     | (refine Wt.i ?_;first | rfl | (focus (simp [h1,hE,hi,ha];done)))
     | (refine Ns.i ?_;(try simp only [List.append_nil,List.nil_append,List.cons_append,List.append_assoc,List.length_append,List.length_cons,List.length_nil,Nat.zero_add,Nat.reduceAdd]);rfl) | rfl
     | (apply SL.pass;(focus (refine Wt.i ?_;rfl))) | (apply SL.convertR;(focus rfl)) | apply SL.move | apply SL.assign | apply SL.load | apply SL.isnilE | apply SL.isnilN | apply SL.make | apply SL.binOp | apply SL.append
     | apply SL.copy | apply SL.builtin | apply SL.fieldAddr | apply SL.indexAddr | apply SL.field | apply SL.extract | apply SL.fcall | apply SL.pick | apply SL.store | apply SL.unOp | apply SL.convert | apply SL.index | apply SL.slice
     | apply SL.build | apply SL.nilCheck | apply SL.buildSlice | apply SL.box | apply SL.alloc | apply SL.makeFunc)
    apply SQ.nil
    have gx:=@q1
    refine goA ?_
    clear gx
    refine LoopI.normal (m - 1) (by omega) (by refine ⟨i+1,?_⟩;exact exF (⟨by omega,hs⟩) (by (first | rfl | (simp [];repeat (first | rfl | (apply And.intro))) | (simp [];done))) (by (first | rfl | (simp [];repeat (first | rfl | (apply And.intro))) | (simp [];done))))
 ·have q1:¬ (i:Int) < (l.length:Int):=by omega
  rw [List.drop_eq_nil_of_le (by omega)] at hs
  have hB2:B=-1:=hs.symm
  have gx:=@q1
  refine goA ?_
  clear gx
  simp (disch:=first | omega | (simp;done) | (simp;omega)) [decide_eq_decide,hB2] <;> try rfl
noncomputable def gIxI:Nat→List PD→List SObj→Option (PD×List SObj):=entry (fun args=>match args with
 | [p,.func g []]=>if g=108 then gf1 i64s i64 (fun l=>gif (l.length≤1000000) (some (ixF badW l 0))) [p] else none
 | _=>none)
omit hU in
theorem gIxI_of {l:List Int} (hl:l.length≤1000000) (fl:Nat) (σ:List SObj):gIxI fl [i64s.emb l,.func 108 []] σ=some (.int .i64 (ixF badW l 0),σ):=by
 have e1:=Em.dec_some (i64s.str l)
 unfold gIxI entry gf1
 simp only [e1,if_true]
 rw [gif_pos hl]
 rfl
noncomputable def gCoI:Nat→List PD→List SObj→Option (PD×List SObj):=entry (fun args=>match args with
 | [p,.func g []]=>if g=108 then gf1 i64s Em.bool (fun l=>gif (l.length≤1000000) (some (l.any badW))) [p] else none
 | _=>none)
omit hU in
theorem gCoI_of {l:List Int} (hl:l.length≤1000000) (fl:Nat) (σ:List SObj):gCoI fl [i64s.emb l,.func 108 []] σ=some (.bool (l.any badW),σ):=by
 have e1:=Em.dec_some (i64s.str l)
 unfold gCoI entry gf1
 simp only [e1,if_true]
 rw [gif_pos hl]
 rfl
theorem r_ContI (h0:E 107=none) (h1:E 146=some gIxI) (l:List Int) (hl:l.length≤1000000):Run Tryz.prog E 107 [i64s.emb l,.func 108 []] (Em.bool.emb (l.any badW)):=by
 have hE:=gIxI_of hl
 rw [← ixF_any badW l 0]
 apply Run.bodyL h0 Tryz.func107 rfl
 focus (simp [show Tryz.f107.ntmps=_ from rfl,List.replicate];rfl)
 simp only [emb_list] at hE
 have gx:=An @h1 (@hE)
 refine goA ?_
 clear gx
 simp (disch:=first | omega | (simp;done) | (simp;omega)) [decide_eq_decide] <;> try rfl
def rankE (r:RankD):Int:=
 if nameB r.name=false∨nameB r.tone=false then 8 else if pitchE r.num r.den≠0 then pitchE r.num r.den else if ¬ (-256≤r.first∧r.first≤256) then 3 else if r.wind.length=0 then 13 else if 128 < r.wind.length then 4 else if r.wind.any badW=true then 3 else 0
noncomputable def gNm:Nat→List PD→List SObj→Option (PD×List SObj):=entry (gf1 Em.text Em.bool fun s=>gif (s.length≤100000) (some (nameB s)))
omit hU in
theorem gNm_of {s:List UInt8} (h:s.length≤100000) (fl:Nat) (σ:List SObj):gNm fl [.str s] σ=some (.bool (nameB s),σ):=by
 have e1:Em.text.dec (.str s)=some s:=Em.dec_some rfl
 unfold gNm entry gf1
 simp only [e1]
 rw [gif_pos h]
 rfl
theorem r_winds (h0:E 81=none) (h1:E 107=some gCoI) (l:List Int) (hl:l.length≤1000000):Run Tryz.prog E 81 [i64s.emb l] (i64.emb (if l.any badW=true then 3 else 0)):=by
 have hE:=gCoI_of hl
 simp only [emb_list] at hE
 cases hb:l.any badW with
 | true=>
   rw [hb] at hE
   apply Run.bodyL h0 Tryz.func81 rfl
   focus (simp [show Tryz.f81.ntmps=_ from rfl,List.replicate];rfl)
   have gx:=An @h1 (@hE)
   refine goA ?_
   clear gx
   simp (disch:=first | omega | (simp;done) | (simp;omega)) [decide_eq_decide] <;> try rfl
 | false=>
   rw [hb] at hE
   apply Run.bodyL h0 Tryz.func81 rfl
   focus (simp [show Tryz.f81.ntmps=_ from rfl,List.replicate];rfl)
   have gx:=An @h1 (@hE)
   refine goA ?_
   clear gx
   simp (disch:=first | omega | (simp;done) | (simp;omega)) [decide_eq_decide] <;> try rfl
noncomputable def gPi:Nat→List PD→List SObj→Option (PD×List SObj):=entry (gf1 Em.feet i64 fun x=>some (pitchE x.1 x.2))
omit hU in
theorem gPi_of (n d:Int) (fl:Nat) (σ:List SObj):gPi fl [.agg [.int .i64 n,.int .i64 d]] σ=some (.int .i64 (pitchE n d),σ):=by
 have e1:Em.feet.dec (.agg [.int .i64 n,.int .i64 d])=some (n,d):=Em.dec_some rfl
 unfold gPi entry gf1
 simp only [e1]
 rfl
noncomputable def gFi:Nat→List PD→List SObj→Option (PD×List SObj):=entry (gf1 i64 Em.bool fun n=>some (decide (-256≤n)&&decide (n≤256)))
omit hU in
theorem gFi_of (n:Int) (fl:Nat) (σ:List SObj):gFi fl [.int .i64 n] σ=some (.bool (decide (-256≤n)&&decide (n≤256)),σ):=by
 have e1:i64.dec (.int .i64 n)=some n:=Em.dec_some rfl
 unfold gFi entry gf1
 simp only [e1]
 rfl
noncomputable def gWi:Nat→List PD→List SObj→Option (PD×List SObj):=entry (gf1 i64s i64 fun l=>gif (l.length≤1000000) (some (if l.any badW=true then 3 else 0)))
omit hU in
theorem gWi_of {l:List Int} (h:l.length≤1000000) (fl:Nat) (σ:List SObj):gWi fl [i64s.emb l] σ=some (.int .i64 (if l.any badW=true then 3 else 0),σ):=by
 have e1:=Em.dec_some (i64s.str l)
 unfold gWi entry gf1
 simp only [e1]
 rw [gif_pos h]
 rfl
def okN (s:List UInt8):Prop:=s.length≤100000
theorem r_rankCheck (h0:E 37=none) (h1:E 36=some gNm) (h2:E 79=some gPi) (h3:E 80=some gFi) (h4:E 81=some gWi) (r:RankD) (hr:okR r) (hn:okN r.name) (ht:okN r.tone):Run Tryz.prog E 37 [Em.rank.emb r] (i64.emb (rankE r)):=by
 obtain ⟨n,t,a,b,f,w⟩:=r
 have e1:=gNm_of hn
 have e2:=gNm_of ht
 have e3:=gPi_of a b
 have e4:=gFi_of f
 have e5:=gWi_of (show w.length≤1000000 from hr)
 have hw:w.length≤1000000:=hr
 unfold rankE
 simp only [emb_list] at e1 e2 e5
 simp only [emb_rank,emb_list]
 cases c1:nameB n with
 | false=>
   rw [c1] at e1
   rw [if_pos (.inl rfl)]
   apply Run.bodyL h0 Tryz.func37 rfl
   focus (simp [show Tryz.f37.ntmps=_ from rfl,List.replicate];rfl)
   have gx:=An @h1 (@e1)
   refine goA ?_
   clear gx
   simp (disch:=first | omega | (simp;done) | (simp;omega)) [decide_eq_decide] <;> try rfl
 | true=>
 rw [c1] at e1
 cases c2:nameB t with
 | false=>
   rw [c2] at e2
   rw [if_pos (.inr rfl)]
   apply Run.bodyL h0 Tryz.func37 rfl
   focus (simp [show Tryz.f37.ntmps=_ from rfl,List.replicate];rfl)
   have gx:=An @h1 (An @e1 (@e2))
   refine goA ?_
   clear gx
   simp (disch:=first | omega | (simp;done) | (simp;omega)) [decide_eq_decide] <;> try rfl
 | true=>
 rw [c2] at e2
 rw [if_neg (by simp)]
 obtain ⟨p,hp⟩:=gn (pitchE a b)
 rw [hp] at e3 ⊢
 by_cases c3:p=0
 rotate_left
 ·rw [if_pos c3]
  apply Run.bodyL h0 Tryz.func37 rfl
  focus (simp [show Tryz.f37.ntmps=_ from rfl,List.replicate];rfl)
  have gx:=An @h1 (An @h2 (An @e1 (An @e2 (An @e3 (@c3)))))
  refine goA ?_
  clear gx
  simp (disch:=first | omega | (simp;done) | (simp;omega)) [decide_eq_decide] <;> try rfl
 subst c3
 rw [if_neg (by simp)]
 by_cases c4:-256≤f∧f≤256
 rotate_left
 ·rw [if_pos c4]
  have c4':(decide (-256≤f)&&decide (f≤256))=false:=by simpa using fun h=>Int.not_le.1 (fun g=>c4 ⟨h,g⟩)
  rw [c4'] at e4
  apply Run.bodyL h0 Tryz.func37 rfl
  focus (simp [show Tryz.f37.ntmps=_ from rfl,List.replicate];rfl)
  have gx:=An @h1 (An @h2 (An @h3 (An @e1 (An @e2 (An @e3 (@e4))))))
  refine goA ?_
  clear gx
  simp (disch:=first | omega | (simp;done) | (simp;omega)) [decide_eq_decide] <;> try rfl
 rw [if_neg (not_not_intro c4)]
 have c4':(decide (-256≤f)&&decide (f≤256))=true:=by simpa using c4
 rw [c4'] at e4
 by_cases c5:w.length=0
 ·rw [if_pos c5]
  have c5':(w.length:Int)=0:=by omega
  have c6:w=[]:=List.eq_nil_of_length_eq_zero c5
  subst c6
  apply Run.bodyL h0 Tryz.func37 rfl
  focus (simp [show Tryz.f37.ntmps=_ from rfl,List.replicate];rfl)
  have gx:=An @h1 (An @h2 (An @h3 (An @e1 (An @e2 (An @e3 (@e4))))))
  refine goA ?_
  clear gx
  simp (disch:=first | omega | (simp;done) | (simp;omega)) [decide_eq_decide] <;> try rfl
 rw [if_neg c5]
 have c5':¬ w=[]:=fun h=>c5 (by rw [h];rfl)
 by_cases c6:128 < w.length
 ·rw [if_pos c6]
  have c7:128 < (w.length:Int):=by omega
  apply Run.bodyL h0 Tryz.func37 rfl
  focus (simp [show Tryz.f37.ntmps=_ from rfl,List.replicate];rfl)
  have gx:=An @h1 (An @h2 (An @h3 (An @e1 (An @e2 (An @e3 (An @e4 (An @c5 (An @c5' (An @c6 (@c7))))))))))
  refine goA ?_
  clear gx
  simp (disch:=first | omega | (simp;done) | (simp;omega)) [decide_eq_decide] <;> try rfl
 rw [if_neg c6]
 have c7:¬ 128 < (w.length:Int):=by omega
 obtain ⟨q,hq⟩:∃ q,(if w.any badW=true then (3:Int) else 0)=q:=⟨_,rfl⟩
 rw [hq] at e5 ⊢
 apply Run.bodyL h0 Tryz.func37 rfl
 focus (simp [show Tryz.f37.ntmps=_ from rfl,List.replicate];rfl)
 have gx:=An @h1 (An @h2 (An @h3 (An @h4 (An @e1 (An @e2 (An @e3 (An @e4 (An @e5 (An @c5 (An @c5' (An @c6 (@c7))))))))))))
 refine goA ?_
 clear gx
 simp (disch:=first | omega | (simp;done) | (simp;omega)) [decide_eq_decide] <;> try rfl
end Go.Kz

namespace Go.Kz
open Go Go.Proofs
set_option maxRecDepth 100000
set_option maxHeartbeats 4000000
def drawsGo (k:Nat):List DrawD→List DrawD→Int
 | _,[]=>0
 | pre,d::r=>if d.rank < 0∨(k:Int)≤d.rank then 10 else if d.shift < -127∨127 < d.shift then 3 else if (pre.any fun x=>decide (x=d))=true then 9 else drawsGo k (pre++[d]) r
def drawsErr (k:Nat) (l:List DrawD):Int:=if 8 < l.length then 4 else drawsGo k [] l
variable {E:PExt} (hU:Uni E)
include hU
theorem r_IndexD (h0:E 176=none) (l:List DrawD) (v:DrawD) (hl:l.length≤1000000):Run Tryz.prog E 176 [drawsE.emb l,Em.draw.emb v] (i64.emb (ixF (fun x=>decide (x=v)) l 0)):=by
 obtain ⟨B,hB⟩:∃ B,ixF (fun x=>decide (x=v)) l 0=B:=⟨_,rfl⟩
 rw [hB]
 obtain ⟨v0,v1⟩:=v
 simp only [emb_draw]
 apply Run.bodyL h0 Tryz.func176 rfl
 focus (simp [show Tryz.f176.ntmps=_ from rfl,List.replicate];rfl)
 have gx:=True.intro
 refine goA ?_
 clear gx
 refine Wp.loopI (fun m fr σ=>∃ (i:Nat),∃ gg:Nat→PD,(i+m=l.length∧ixF (fun x=>decide (x=DrawD.mk v0 v1)) (l.drop i) i=B)∧fr=[drawsE.emb l,gg 1,gg 2,.ptr 0 0,gg 4,gg 5,drawsE.emb l,.int .i64 l.length,.int .i64 i,gg 9,gg 10,gg 11,gg 12,gg 13,gg 14,gg 15,gg 16,gg 17,gg 18]∧σ=[.box (.agg [.int .i64 v0,.int .i64 v1])]) ?_ (l.length) (by refine ⟨0,?_⟩;exact exF (⟨by omega,hB⟩) (by (first | rfl | (simp [];repeat (first | rfl | (apply And.intro))) | (simp [];done))) (by (first | rfl | (simp [];repeat (first | rfl | (apply And.intro))) | (simp [];done))))
 rintro m fr σ ⟨i,gg,hI,rfl,rfl⟩
 obtain ⟨hm,hs⟩:=hI
 by_cases hi:i < l.length
 ·have q1:(i:Int) < (l.length:Int):=by omega
  obtain ⟨a,ha⟩:=gn (l[i])
  have hc:l.drop i=a::l.drop (i+1):=by rw [List.drop_eq_getElem_cons hi,ha]
  rw [hc] at hs
  unfold ixF at hs
  obtain ⟨a0,a1⟩:=a
  by_cases hb:a0=v0
  ·by_cases hb2:a1=v1
   ·rw [if_pos (by rw [hb,hb2];simp)] at hs
    have hB2:B=(i:Int):=hs.symm
    clear hs
    have gx:=An @q1 (An @hi (An @ha (An @hb (@hb2))))
    refine goA ?_
    clear gx
    simp (disch:=first | omega | (simp;done) | (simp;omega)) [decide_eq_decide,hB2] <;> try rfl
   ·rw [if_neg (by simpa using fun _=>hb2)] at hs
    have gx:=An @q1 (An @hi (An @ha (An @hb (An @hb2 ((Ne.symm hb2))))))
    refine goA ?_
    clear gx
    refine LoopI.normal (m - 1) (by omega) (by refine ⟨i+1,?_⟩;exact exF (⟨by omega,hs⟩) (by (first | rfl | (simp [];repeat (first | rfl | (apply And.intro))) | (simp [];done))) (by (first | rfl | (simp [];repeat (first | rfl | (apply And.intro))) | (simp [];done))))
  ·rw [if_neg (by simpa using fun h=>absurd h hb)] at hs
   have gx:=An @q1 (An @hi (An @ha (An @hb ((Ne.symm hb)))))
   refine goA ?_
   clear gx
   refine LoopI.normal (m - 1) (by omega) (by refine ⟨i+1,?_⟩;exact exF (⟨by omega,hs⟩) (by (first | rfl | (simp [];repeat (first | rfl | (apply And.intro))) | (simp [];done))) (by (first | rfl | (simp [];repeat (first | rfl | (apply And.intro))) | (simp [];done))))
 ·have q1:¬ (i:Int) < (l.length:Int):=by omega
  rw [List.drop_eq_nil_of_le (by omega)] at hs
  have hB2:B=-1:=hs.symm
  have gx:=@q1
  refine goA ?_
  clear gx
  simp (disch:=first | omega | (simp;done) | (simp;omega)) [decide_eq_decide,hB2] <;> try rfl
noncomputable def gIxD:Nat→List PD→List SObj→Option (PD×List SObj):=entry (gf2 drawsE Em.draw i64 fun l v=>gif (l.length≤1000000) (some (ixF (fun x=>decide (x=v)) l 0)))
omit hU in
theorem gIxD_of {l:List DrawD} {v:DrawD} (hl:l.length≤1000000) (fl:Nat) (σ:List SObj):gIxD fl [drawsE.emb l,Em.draw.emb v] σ=some (.int .i64 (ixF (fun x=>decide (x=v)) l 0),σ):=by
 have e1:=Em.dec_some (drawsE.str l)
 have e2:=Em.dec_some (Em.draw.str v)
 unfold gIxD entry gf2
 simp only [e1,e2]
 rw [gif_pos hl]
 rfl
noncomputable def gCoD:Nat→List PD→List SObj→Option (PD×List SObj):=entry (gf2 drawsE Em.draw Em.bool fun l v=>gif (l.length≤1000000) (some (l.any fun x=>decide (x=v))))
omit hU in
theorem gCoD_of {l:List DrawD} {v:DrawD} {p:PD} (hl:l.length≤1000000) (hp:p.strip=drawsE.emb l) (fl:Nat) (σ:List SObj):gCoD fl [p,Em.draw.emb v] σ=some (.bool (l.any fun x=>decide (x=v)),σ):=by
 have e1:=Em.dec_some hp
 have e2:=Em.dec_some (Em.draw.str v)
 unfold gCoD entry gf2
 simp only [e1,e2]
 rw [gif_pos hl]
 rfl
theorem r_ContD (h0:E 147=none) (h1:E 176=some gIxD) (l:List DrawD) (v:DrawD) (hl:l.length≤1000000):Run Tryz.prog E 147 [drawsE.emb l,Em.draw.emb v] (Em.bool.emb (l.any fun x=>decide (x=v))):=by
 have hE:=gIxD_of (v:=v) hl
 rw [← ixF_any _ l 0]
 simp only [emb_list,emb_draw] at hE
 simp only [emb_draw]
 apply Run.bodyL h0 Tryz.func147 rfl
 focus (simp [show Tryz.f147.ntmps=_ from rfl,List.replicate];rfl)
 have gx:=An @h1 (@hE)
 refine goA ?_
 clear gx
 simp (disch:=first | omega | (simp;done) | (simp;omega)) [decide_eq_decide] <;> try rfl
theorem r_draws (h0:E 110=none) (h1:E 147=some gCoD) (rs:List RankD) (hrs:rs.length≤1000000) (lo hg:Int) (l:List DrawD) (hl:l.length≤1000000) :
  Run Tryz.prog E 110 [.agg [ranks.emb rs,.int .i64 lo,.int .i64 hg],drawsE.emb l] (i64.emb (drawsErr rs.length l)):=by
 unfold drawsErr
 by_cases c:8 < l.length
 ·have c1:8 < (l.length:Int):=by omega
  rw [if_pos c]
  apply Run.bodyL h0 Tryz.func110 rfl
  focus (simp [show Tryz.f110.ntmps=_ from rfl,List.replicate];rfl)
  have gx:=An @c (@c1)
  refine goA ?_
  clear gx
  simp (disch:=first | omega | (simp;done) | (simp;omega)) [decide_eq_decide] <;> try rfl
 have c1:¬ 8 < (l.length:Int):=by omega
 rw [if_neg c]
 obtain ⟨B,hB⟩:=gn (drawsGo rs.length [] l)
 rw [hB]
 apply Run.bodyL h0 Tryz.func110 rfl
 focus (simp [show Tryz.f110.ntmps=_ from rfl,List.replicate];rfl)
 have gx:=An @c (@c1)
 refine goA ?_
 clear gx
 obtain ⟨X,hX⟩:=gn (SObj.box (.agg [.slice (sz 6 rs) (rs.map Em.rank.emb) .any,.int .i64 lo,.int .i64 hg]))
 refine Wp.loopI (fun m fr σ=>∃ (i:Nat) (σ1:List SObj),∃ gg:Nat→PD,(i+m=l.length∧σ1[0]?=some X∧drawsGo rs.length (l.take i) (l.drop i)=B)∧fr=[gg 0,drawsE.emb l,.ptr 0 0,gg 3,gg 4,gg 5,gg 6,gg 7,gg 8,gg 9,drawsE.emb l,.int .i64 l.length,.int .i64 i,gg 13,gg 14,gg 15,gg 16,gg 17,gg 18,gg 19,gg 20,gg 21,gg 22,gg 23,gg 24,gg 25,gg 26,gg 27,gg 28,gg 29,gg 30,gg 31,gg 32,gg 33,gg 34,gg 35,gg 36,gg 37,gg 38,gg 39,gg 40,gg 41,gg 42,gg 43,gg 44]∧σ=σ1) ?_ (l.length) (by refine ⟨0,[X],?_⟩;exact exF (⟨by omega,rfl,hB⟩) (by (first | rfl | (simp [hX];repeat (first | rfl | (apply And.intro))) | (simp [hX];done))) (by (first | rfl | (simp [hX];repeat (first | rfl | (apply And.intro))) | (simp [hX];done))))
 rintro m fr σ ⟨i,σ1,gg,hI,rfl,rfl⟩
 obtain ⟨hm,hx0,hs⟩:=hI
 by_cases hi:i < l.length
 ·have q1:(i:Int) < (l.length:Int):=by omega
  obtain ⟨a,ha⟩:=gn (l[i])
  have hc:l.drop i=a::l.drop (i+1):=by rw [List.drop_eq_getElem_cons hi,ha]
  rw [hc] at hs
  unfold drawsGo at hs
  obtain ⟨a0,a1⟩:=a
  have hlt0:0 < σ.length:=(List.getElem?_eq_some_iff.1 hx0).1
  have j0:∀ x:SObj,(σ++[x])[σ.length]?=some x:=fun x=>by simp
  have j1:∀ x:SObj,(σ++[x])[0]?=some X:=fun x=>by rw [List.getElem?_append_left hlt0];exact hx0
  rw [← hX] at j1
  have hx1:=hx0
  rw [← hX] at hx1
  obtain ⟨hltx,hxe⟩:=List.getElem?_eq_some_iff.1 hx1
  by_cases c2:a0 < 0
  ·rw [if_pos (.inl c2)] at hs
   subst hs
   have gx:=An @q1 (An @hi (An @ha (An @j0 (An @j1 (An @hx1 (An @hlt0 (An @hxe (@c2))))))))
   refine goA ?_
   clear gx
   simp (disch:=first | omega | (simp;done) | (simp;omega)) [decide_eq_decide] <;> try rfl
  by_cases c3:(rs.length:Int)≤a0
  ·rw [if_pos (.inr c3)] at hs
   subst hs
   have gx:=An @q1 (An @hi (An @ha (An @j0 (An @j1 (An @hx1 (An @hlt0 (An @hxe (An @c2 (@c3)))))))))
   refine goA ?_
   clear gx
   simp (disch:=first | omega | (simp;done) | (simp;omega)) [decide_eq_decide] <;> try rfl
  rw [if_neg (fun h=>h.elim c2 c3)] at hs
  by_cases c4:a1 < -127
  ·rw [if_pos (.inl c4)] at hs
   subst hs
   have gx:=An @q1 (An @hi (An @ha (An @j0 (An @j1 (An @hx1 (An @hlt0 (An @hxe (An @c2 (An @c3 (@c4))))))))))
   refine goA ?_
   clear gx
   simp (disch:=first | omega | (simp;done) | (simp;omega)) [decide_eq_decide] <;> try rfl
  by_cases c5:127 < a1
  ·rw [if_pos (.inr c5)] at hs
   subst hs
   have gx:=An @q1 (An @hi (An @ha (An @j0 (An @j1 (An @hx1 (An @hlt0 (An @hxe (An @c2 (An @c3 (An @c4 (@c5)))))))))))
   refine goA ?_
   clear gx
   simp (disch:=first | omega | (simp;done) | (simp;omega)) [decide_eq_decide] <;> try rfl
  rw [if_neg (fun h=>h.elim c4 c5)] at hs
  have hsl:(PD.slice (sz 2 l) ((l.map Em.draw.emb).take i) .any).strip=drawsE.emb (l.take i):=by
   rw [PD.strip_slice,← List.map_take,show ((l.take i).map Em.draw.emb).map PD.strip=(l.take i).map Em.draw.emb by rw [List.map_map];exact List.map_congr_left fun x _=>Em.draw.str x]
   have hne:l≠[]:=fun h=>by rw [h] at hi;simp at hi
   rw [emb_list]
   simp [sz,hne]
  have hE:=gCoD_of (v:=⟨a0,a1⟩) (l:=l.take i) (p:=PD.slice (sz 2 l) ((l.map Em.draw.emb).take i) .any) (by rw [List.length_take];omega) hsl
  simp only [emb_draw] at hE
  have hle:i≤l.length:=by omega
  have htk:l.take (i+1)=l.take i++[⟨a0,a1⟩]:=by rw [List.take_succ_eq_append_getElem hi,ha]
  cases hb:(l.take i).any fun x=>decide (x=DrawD.mk a0 a1) with
  | true=>
    rw [hb] at hE hs
    rw [if_pos rfl] at hs
    subst hs
    have gx:=An @q1 (An @hi (An @ha (An @j0 (An @j1 (An @hx1 (An @hlt0 (An @hxe (An @c2 (An @c3 (An @c4 (An @c5 (An @h1 (An @hE (@hle))))))))))))))
    refine goA ?_
    clear gx
    simp (disch:=first | omega | (simp;done) | (simp;omega)) [decide_eq_decide] <;> try rfl
  | false=>
    rw [hb] at hE hs
    rw [if_neg (by decide)] at hs
    have gx:=An @q1 (An @hi (An @ha (An @j0 (An @j1 (An @hx1 (An @hlt0 (An @hxe (An @c2 (An @c3 (An @c4 (An @c5 (An @h1 (An @hE (@hle))))))))))))))
    refine goA ?_
    clear gx
    refine LoopI.normal (m - 1) (by omega) (by refine ⟨i+1,σ++[.box (.agg [.int .i64 a0,.int .i64 a1])],?_⟩;exact exF (⟨by omega,by rw [List.getElem?_append_left hlt0];exact hx0,by rw [htk];exact hs⟩) (by (first | rfl | (simp [];repeat (first | rfl | (apply And.intro))) | (simp [];done))) (by (first | rfl | (simp [];repeat (first | rfl | (apply And.intro))) | (simp [];done))))
 ·have q1:¬ (i:Int) < (l.length:Int):=by omega
  rw [List.drop_eq_nil_of_le (by omega)] at hs
  have hB2:B=0:=hs.symm
  have gx:=@q1
  refine goA ?_
  clear gx
  simp (disch:=first | omega | (simp;done) | (simp;omega)) [decide_eq_decide,hB2] <;> try rfl
end Go.Kz

namespace Go.Kz
open Go Go.Proofs
set_option maxRecDepth 100000
set_option maxHeartbeats 4000000
def okRn (r:RankD):Prop:=okR r∧okN r.name∧okN r.tone
def ranksGo:List RankD→Int
 | []=>0
 | r::t=>if rankE r≠0 then rankE r else ranksGo t
def placeE (rs:List RankD) (lo hg:Int):Int:=if 60 < rs.length then 4 else if ranksGo rs≠0 then ranksGo rs else compE lo hg
noncomputable def gRk:Nat→List PD→List SObj→Option (PD×List SObj):=entry (gf1 Em.rank i64 fun r=>gif (okRn r) (some (rankE r)))
theorem gRk_of {r:RankD} (h:okRn r) (fl:Nat) (σ:List SObj):gRk fl [Em.rank.emb r] σ=some (.int .i64 (rankE r),σ):=by
 have e1:=Em.dec_some (Em.rank.str r)
 unfold gRk entry gf1
 simp only [e1]
 rw [gif_pos h]
 rfl
noncomputable def gCp:Nat→List PD→List SObj→Option (PD×List SObj):=entry (gf1 Em.feet i64 fun x=>some (compE x.1 x.2))
theorem gCp_of (n d:Int) (fl:Nat) (σ:List SObj):gCp fl [.agg [.int .i64 n,.int .i64 d]] σ=some (.int .i64 (compE n d),σ):=by
 have e1:Em.feet.dec (.agg [.int .i64 n,.int .i64 d])=some (n,d):=Em.dec_some rfl
 unfold gCp entry gf1
 simp only [e1]
 rfl
variable {E:PExt} (hU:Uni E)
include hU
theorem r_place (h0:E 109=none) (h1:E 37=some gRk) (h2:E 82=some gCp) (rs:List RankD) (hrs:∀ r∈rs,okRn r) (hrl:rs.length≤1000000) (lo hg:Int) :
  Run Tryz.prog E 109 [.agg [ranks.emb rs,.int .i64 lo,.int .i64 hg]] (i64.emb (placeE rs lo hg)):=by
 unfold placeE
 by_cases c:60 < rs.length
 ·have c1:60 < (rs.length:Int):=by omega
  rw [if_pos c]
  apply Run.bodyL h0 Tryz.func109 rfl
  focus (simp [show Tryz.f109.ntmps=_ from rfl,List.replicate];rfl)
  have gx:=An @c (@c1)
  refine goA ?_
  clear gx
  simp (disch:=first | omega | (simp;done) | (simp;omega)) [decide_eq_decide] <;> try rfl
 have c1:¬ 60 < (rs.length:Int):=by omega
 rw [if_neg c]
 obtain ⟨B,hB⟩:=gn ((if ranksGo rs≠0 then ranksGo rs else compE lo hg))
 rw [hB]
 have hC:=gCp_of lo hg
 apply Run.bodyL h0 Tryz.func109 rfl
 focus (simp [show Tryz.f109.ntmps=_ from rfl,List.replicate];rfl)
 have gx:=An @c (@c1)
 refine goA ?_
 clear gx
 obtain ⟨X,hX⟩:=gn (SObj.box (.agg [.slice (sz 6 rs) (rs.map Em.rank.emb) .any,.int .i64 lo,.int .i64 hg]))
 refine Wp.loopI (fun m fr σ=>∃ (i:Nat) (σ1:List SObj),∃ gg:Nat→PD,(i+m=rs.length∧σ1[0]?=some X∧(if ranksGo (rs.drop i)≠0 then ranksGo (rs.drop i) else compE lo hg)=B)∧fr=[gg 0,.ptr 0 0,gg 2,gg 3,gg 4,gg 5,gg 6,gg 7,gg 8,gg 9,gg 10,ranks.emb rs,.int .i64 rs.length,.int .i64 i,gg 14,gg 15,gg 16,gg 17,gg 18,gg 19,gg 20,gg 21,gg 22,gg 23,gg 24,gg 25]∧σ=σ1) ?_ (rs.length) (by refine ⟨0,[X],?_⟩;exact exF (⟨by omega,rfl,hB⟩) (by (first | rfl | (simp [hX];repeat (first | rfl | (apply And.intro))) | (simp [hX];done))) (by (first | rfl | (simp [hX];repeat (first | rfl | (apply And.intro))) | (simp [hX];done))))
 rintro m fr σ ⟨i,σ1,gg,hI,rfl,rfl⟩
 obtain ⟨hm,hx0,hs⟩:=hI
 have hx1:=hx0
 rw [← hX] at hx1
 obtain ⟨hlt0,hxe⟩:=List.getElem?_eq_some_iff.1 hx1
 by_cases hi:i < rs.length
 ·have q1:(i:Int) < (rs.length:Int):=by omega
  obtain ⟨a,ha⟩:=gn (rs[i])
  have hc:rs.drop i=a::rs.drop (i+1):=by rw [List.drop_eq_getElem_cons hi,ha]
  rw [hc] at hs
  unfold ranksGo at hs
  have hE:=gRk_of (hrs a (ha▸List.getElem_mem hi))
  have j0:∀ x:SObj,(σ++[x])[σ.length]?=some x:=fun x=>by simp
  obtain ⟨e,he⟩:=gn (rankE a)
  rw [he] at hE hs
  simp only [emb_rank,emb_list] at hE
  by_cases c2:e=0
  ·subst c2
   simp only [ne_eq,not_true_eq_false,if_false] at hs
   have gx:=An @q1 (An @hi (An @ha (An @j0 (An @h1 (@hE)))))
   refine goA ?_
   clear gx
   refine LoopI.normal (m - 1) (by omega) (by refine ⟨i+1,σ++[.box (.agg [.str a.name,.str a.tone,.int .i64 a.num,.int .i64 a.den,.int .i64 a.first,.slice (sz 1 a.wind) (a.wind.map i64.emb) .any])],?_⟩;exact exF (⟨by omega,by rw [List.getElem?_append_left hlt0];exact hx0,hs⟩) (by (first | rfl | (simp [];repeat (first | rfl | (apply And.intro))) | (simp [];done))) (by (first | rfl | (simp [];repeat (first | rfl | (apply And.intro))) | (simp [];done))))
  ·simp only [ne_eq,c2,not_false_eq_true,if_true] at hs
   subst hs
   have gx:=An @q1 (An @hi (An @ha (An @j0 (An @h1 (An @hE (@c2))))))
   refine goA ?_
   clear gx
   simp (disch:=first | omega | (simp;done) | (simp;omega)) [decide_eq_decide] <;> try rfl
 ·have q1:¬ (i:Int) < (rs.length:Int):=by omega
  rw [List.drop_eq_nil_of_le (by omega)] at hs
  have hs2:compE lo hg=B:=hs
  rw [hs2] at hC
  have gx:=An @q1 (An @hx1 (An @hlt0 (An @hxe (An @h2 (@hC)))))
  refine goA ?_
  clear gx
  simp (disch:=first | omega | (simp;done) | (simp;omega)) [decide_eq_decide] <;> try rfl
end Go.Kz

namespace Go.Kz
open Go
section
variable {P:Program} {call:PCall} {fl:Nat} {ops:Array Oper} {l:List Oper} {fr fr1:List PD} {σ σ1:List SObj} {K:List PD→List SObj→Prop}
variable {dst:Option Tmp} {x y z:Operand} {t ty:TypeId} {pos:String} {edges:Array Edge} {guard:Option (Nat×Bool)} {p q v r:PD} {ok:Bool}
theorem SL.lookup (hw:Wt (Region.wanted ⟨dst,.lookup t x y ok,ty,pos,edges,guard⟩ (pyield ops fr)=true)) (hx:evalO fr x=some p) (hy:evalO fr y=some q) (hr:By (plookup P σ t p q ok=some r)) (hf:Fr (pput fr dst r=fr1)) (k:SQ P call fl ops l fr1 σ K) :
  SQ P call fl ops (⟨dst,.lookup t x y ok,ty,pos,edges,guard⟩::l) fr σ K:=
 .step hw.h (pstep_mem rfl rfl (by simp only [pmem,evalO_ok hx,evalO_ok hy,hr.h])) (hf.h▸k)
theorem SL.mapUpdate (hw:Wt (Region.wanted ⟨dst,.mapUpdate t x y z,ty,pos,edges,guard⟩ (pyield ops fr)=true)) (hx:evalO fr x=some p) (hy:evalO fr y=some q) (hz:evalO fr z=some v) (hr:By (pmapUpdate P fl σ t p q v=some σ1)) (hf:Fr (pput fr dst (.tup [])=fr1)) (k:SQ P call fl ops l fr1 σ1 K) :
  SQ P call fl ops (⟨dst,.mapUpdate t x y z,ty,pos,edges,guard⟩::l) fr σ K:=
 .step hw.h (pstep_mem rfl rfl (by simp only [pmem,evalO_ok hx,evalO_ok hy,evalO_ok hz,hr.h])) (hf.h▸k)
theorem SL.makeMap {kt e:TypeId} (hw:Wt (Region.wanted ⟨dst,.makeMap t none,ty,pos,edges,guard⟩ (pyield ops fr)=true)) (hx:By (P.underlying t=some (.map kt e))) (hr:Ns (σ++[.map []]=σ1)) {n:Nat} (hn:Ns (σ.length=n)) (hf:Fr (pput fr dst (.mref n)=fr1)) (k:SQ P call fl ops l fr1 σ1 K) :
  SQ P call fl ops (⟨dst,.makeMap t none,ty,pos,edges,guard⟩::l) fr σ K:=by
 obtain ⟨rfl⟩:=hr.h
 obtain ⟨rfl⟩:=hn.h
 exact .step hw.h (pstep_mem rfl rfl (by simp only [pmem,hx.h])) (hf.h▸k)
end
theorem goM {R G:Prop} (r:R) (h:Hd R→G:=by
  (intro hh
   (repeat (first
    | (refine Fr.i ?_;simp only [pput,List.set_cons_zero,List.set_cons_succ];try rfl)
    | (refine By.i ?_;(focus (simp (disch:=first | omega | (simp;done) | (simp;omega)) [wrap_i64,wrap_u64,gx,entry,gf0,gf1,gf2,gf3];first | done | rfl | exact ⟨rfl,rfl⟩)))
    | (refine By.i ?_;simp (disch:=first | omega | (simp;done) | (simp;omega)) [wrap_i64,wrap_u64,gx,entry,gf0,gf1,gf2,gf3];refine ⟨(by (try simp only [List.length_append,List.length_cons,List.length_nil,maxLen]);omega),rfl⟩)
    | (refine Wt.i ?_;first | rfl | (focus (simp [gx,entry,gf0,gf1,gf2,gf3];done)))
    | (refine Ns.i ?_;(try simp only [List.append_nil,List.nil_append,List.cons_append,List.append_assoc,List.length_append,List.length_cons,List.length_nil,Nat.zero_add,Nat.reduceAdd]);rfl) | rfl
    | (apply SL.pass;(focus (refine Wt.i ?_;rfl))) | (apply SL.appendT;(focus decide +kernel)) | (apply SL.convertR;(focus rfl)) | apply SL.move | apply SL.assign | apply SL.load | apply SL.isnilE | apply SL.isnilN | apply SL.make
    | apply SL.binOp | apply SL.append | apply SL.copy | apply SL.builtin | apply SL.fieldAddr | apply SL.indexAddr | apply SL.field | apply SL.extract | apply SL.fcall | apply SL.pick | apply SL.store | apply SL.unOp | apply SL.convert | apply SL.index
    | apply SL.slice | apply SL.build | apply SL.nilCheck | apply SL.buildSlice | apply SL.box | apply SL.alloc | apply SL.makeFunc | apply SL.lookup | apply SL.mapUpdate | apply SL.makeMap | apply SQ.nil | (apply WL.reg;(focus decide +kernel))
    | (apply WL.drawP (by assumption);(focus decide +kernel);(focus decide +kernel)) | (apply WL.drawF;(focus decide +kernel);(focus decide +kernel)) | (apply WL.reg1;(focus decide +kernel))
    | (apply WL.drawP1 (by assumption);(focus decide +kernel);(focus decide +kernel)) | (apply WL.drawF1;(focus decide +kernel);(focus decide +kernel)) | (apply WL.drawM (by assumption);(focus decide +kernel);(focus decide +kernel))
    | (apply WL.drawM1 (by assumption);(focus decide +kernel);(focus decide +kernel)) | (apply WL.drawA (by assumption);(focus decide +kernel);(focus decide +kernel))
    | (apply WL.drawA1 (by assumption);(focus decide +kernel);(focus decide +kernel)) | apply WL.skip | (apply WL.ct;(focus rfl)) | (apply WL.cf;(focus rfl)) | refine SeqQ.normal ?_ | refine SeqQ.ret ?_ | refine SeqQ.exit ?_
    | refine BlockQ.normal ?_ | refine BlockQ.ret ?_ | refine BlockQ.here ?_ | refine BlockQ.there (by decide) ?_ | refine Wp.block ?_ | refine Wp.skip ?_ | refine Wp.ret ?_ | refine Wp.exit ?_ | refine LoopI.ret ?_ | refine LoopI.exit ?_
    | refine LoopQ.normal ?_ | refine LoopQ.ret ?_ | refine LoopQ.exit ?_ | refine Wp.seq (Wp.seq ?_) | refine Wp.seq (Wp.block ?_) | (refine Wp.seq ?_;apply WL.ct;(focus rfl)) | (refine Wp.seq ?_;apply WL.cf;(focus rfl))))
   exact hh.out)):G:=h ⟨r⟩
end Go.Kz
