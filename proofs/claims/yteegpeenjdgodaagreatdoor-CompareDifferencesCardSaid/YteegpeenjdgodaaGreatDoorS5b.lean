/- Steps of the proof. -/
import Derived.Test.YteegpeenjdgodaaGreatDoorS5
set_option linter.all false
set_option maxHeartbeats 40000000
set_option maxRecDepth 100000
open Go.Proofs.Tryz
noncomputable section
namespace Go.Kz
open Go Go.Proofs
section
variable{E:aE}(hU:aH E)
include hU
theorem aKK(h0:E 57=none)(h1:E 88=some (eZ eT wG))(a b:bU)(hx:mA a)(hy:mA b):aI prog E 57 [Em.stop.aA a,Em.stop.aA b] (Em.bool.aA (decide (a=b))):=by
 obtain⟨a0,a1,a2,a3⟩:=a;obtain⟨b0,b1,b2,b3⟩:=b;simp only[qE,aV];refine aI.aN 66 h0 func57 (h:=?_)
 by_cases e0:a0=b0
 rotate_left
 .have f0:(a0==b0)=false:=by simpa using e0
  refine aC (A2 @e0 @f0) ?_;exact qv
 by_cases e1:a1=b1
 rotate_left
 .refine aC (A2 @e0 e1) ?_;exact qw
 by_cases e2:a2=b2
 rotate_left
 .refine aC (A3 @e0 e1 e2) ?_;exact qx
 by_cases hq:a3.length=b3.length
 rotate_left
 .have cK:¬(a3.length:Int)=(b3.length:Int):=by omega
  have hF:=rC hq;have hne:¬a3=b3:=by simpa using hF
  refine aC (A5 @e0 e1 e2 @hq cK) ?_;simp(disch:=first|omega|(simp;done)|(simp;omega)) [yAu,bU.mk.injEq,hne]<;>try rfl
 have cK:(a3.length:Int)=(b3.length:Int):=ye;obtain⟨B,hB⟩:∃B,decide (a3=b3)=B:=⟨_,rfl⟩;rw[show decide ((⟨a0,a1,a2,a3⟩:bU)=⟨b0,b1,b2,b3⟩)=B by rw[<-hB];simp[e0,e1,e2]];have hx1:a3.length<=1000000:=hx.1;refine aC (A5 @e0 e1 e2 @hq cK) ?_;refine Wp.cI (λm fr σ=>∃(i:Nat) (σ1:List aB),∃gg:Nat->PD,(i+m=a3.length/\decide (a3.drop i=b3.drop i)=B)/\fr=gg 0::gg 1::.ptr 0 0::.ptr 1 0::.bool false::.int .i64 i::gg 6::gg 7::gg 8::gg 9::gg 10::gg 11::gg 12::gg 13::gg 14::gg 15::gg 16::gg 17::gg 18::gg 19::gg 20::gg 21::gg 22::gg 23::gg 24::gg 25::gg 26::gg 27::gg 28::gg 29::gg 30::gg 31::gg 32::gg 33::gg 34::gg 35::gg 36::gg 37::gg 38::gg 39::gg 40::gg 41::gg 42::gg 43::gg 44::gg 45::gg 46::gg 47::gg 48::gg 49::gg 50::gg 51::gg 52::gg 53::gg 54::gg 55::gg 56::gg 57::gg 58::gg 59::gg 60::gg 61::gg 62::gg 63::gg 64::gg 65::[]/\σ=.box (.agg [.str a0,.int .i64 a1,.int .i64 a2,.slice (sz 3 a3) (a3.map Em.eU.aA) .any])::.box (.agg [.str b0,.int .i64 b1,.int .i64 b2,.slice (sz 3 b3) (b3.map Em.eU.aA) .any])::σ1) ?_ (a3.length) (by refine⟨0,[],?_⟩;exact jZ (⟨ye,hB⟩) yh yh)
 rintro m fr σ ⟨i,σ1,gg,hI,rfl,rfl⟩
 obtain⟨hm,hs⟩:=hI
 by_cases hi:i<a3.length
 .have q1:(i:Int)<(a3.length:Int):=by omega
  have hir:i<b3.length:=ye;have q2:(i:Int)<(b3.length:Int):=ye;obtain⟨a,ha⟩:=gn (a3[i]);obtain⟨b,hb⟩:=gn (b3[i]);have dI:a3.drop i=a::a3.drop (i+1):=yy;have hc2:b3.drop i=b::b3.drop (i+1):=Ac;rw[dI,hc2,rB]at hs;have ka:tN a:=hx.2 a (ha▸yAm hi);have kb:tN b:=hy.2 b (hb▸yAm hir);obtain⟨x0,x1,x2⟩:=a;obtain⟨y0,y1,y2⟩:=b;have hE:=λfl σ=>kW (a:=eT) (R:=wG) (x:=x2) (y:=y2) ka kb fl σ
  simp only[aV]at hE;have j0:∀x y:aB,(σ1++[x,y])[σ1.length]?=some x:=λx y=>yg
  have j1:∀x y:aB,(σ1++[x,y])[σ1.length+1]?=some y:=λx y=>yg
  have hseg:∀D,decide (x2=y2)=D->decide ((⟨x0,x1,x2⟩:gL)=⟨y0,y1,y2⟩)=(decide (x0=y0)&&(decide (x1=y1)&&D)):=λD hD=>by
   rw[<-hD]
   by_cases e0:x0=y0<;>by_cases e1:x1=y1<;>by_cases e2:x2=y2<;>simp[e0,e1,e2]
  obtain⟨D,hD⟩:∃D,decide (x2=y2)=D:=⟨_,rfl⟩;rw[hseg D hD]at hs;rw[hD]at hE;refine aC (A6 q1 q2 hi hir ha @hb) ?_
  first|apply Wp.aMo yp [(41,6),(44,6)] yu|apply tv yp [(41,6),(44,6)] yu
  refine CF (A6 q1 q2 hi hir ha @hb) ?_;apply SQ.nil;refine⟨(by simp[JY,gJ]<;>omega),?_⟩
  by_cases e0:x0=y0
  rotate_left
  .rw[yBc e0,yAX,yAX]at hs;have bQ:B=false:=hs.symm
   first|refine Wp.seq ?_|skip
   apply Wp.mE;refine kH (A3 j0 j1 @e0) ?_;exact wj
  rw[yAV e0,yBm]at hs
  by_cases e1:x1=y1
  rotate_left
  .rw[yBc e1,yAX,yAX]at hs;have bQ:B=false:=hs.symm
   first|refine Wp.seq ?_|skip
   apply Wp.mE;refine kH (A4 j0 j1 @e0 e1) ?_;exact wj
  rw[yAV e1,yBm]at hs;cases D with
  |false=>
   have bQ:B=false:=hs.symm
   first|refine Wp.seq ?_|skip
   apply Wp.mE;refine kH (A6 j0 j1 @e0 e1 h1 hE) ?_;exact wj
  |true=>
   rw[yBm]at hs
   first|refine Wp.seq ?_|skip
   apply Wp.mE;refine kH (A6 j0 j1 @e0 e1 h1 hE) ?_;apply SQ.nil;refine aC trivial ?_;refine bC.normal (m-1) ye ⟨i+1,_,bG (⟨ye,hs⟩)⟩
 .have q1:¬(i:Int)<(a3.length:Int):=by omega
  exact uo
theorem aKM(h0:E 38=none)(h1:E 57=some (eZ Em.stop mA))(a b:bD)(hx:mB a)(hy:mB b):aI prog E 38 [Em.div.aA a,Em.div.aA b] (Em.bool.aA (decide (a=b))):=by
 obtain⟨a0,a1,a2,a3,a4⟩:=a;obtain⟨b0,b1,b2,b3,b4⟩:=b;simp only[nN,aV];refine aI.aN 53 h0 func38 (h:=?_)
 by_cases e0:a0=b0
 rotate_left
 .have f0:(a0==b0)=false:=by simpa using e0
  refine aC (A2 @e0 @f0) ?_;exact qy
 by_cases e1:a1=b1
 rotate_left
 .have f1:(a1==b1)=false:=by simpa using e1
  refine aC (A3 @e0 e1 @f1) ?_;exact qz
 by_cases e2:a2=b2
 rotate_left
 .refine aC (A3 @e0 e1 e2) ?_;exact ri
 by_cases e3:a3=b3
 rotate_left
 .refine aC (A4 @e0 e1 e2 e3) ?_;exact rj
 by_cases hq:a4.length=b4.length
 rotate_left
 .have cK:¬(a4.length:Int)=(b4.length:Int):=by omega
  have hF:=rC hq;have hne:¬a4=b4:=by simpa using hF
  refine aC (A6 @e0 e1 e2 e3 @hq cK) ?_;simp(disch:=first|omega|(simp;done)|(simp;omega)) [yAu,bD.mk.injEq,hne]<;>try rfl
 have cK:(a4.length:Int)=(b4.length:Int):=ye;obtain⟨B,hB⟩:∃B,decide (a4=b4)=B:=⟨_,rfl⟩;rw[show decide ((⟨a0,a1,a2,a3,a4⟩:bD)=⟨b0,b1,b2,b3,b4⟩)=B by rw[<-hB];simp[e0,e1,e2,e3]];have hx1:a4.length<=1000000:=hx.1;refine aC (A6 @e0 e1 e2 e3 @hq cK) ?_;refine Wp.cI (λm fr σ=>∃(i:Nat),∃gg:Nat->PD,(i+m=a4.length/\decide (a4.drop i=b4.drop i)=B)/\fr=[gg 0,gg 1,.ptr 0 0,.ptr 1 0,.bool false,.int .i64 i,gg 6,gg 7,gg 8,gg 9,gg 10,gg 11,gg 12,gg 13,gg 14,gg 15,gg 16,gg 17,gg 18,gg 19,gg 20,gg 21,gg 22,gg 23,gg 24,gg 25,gg 26,gg 27,gg 28,gg 29,gg 30,gg 31,gg 32,gg 33,gg 34,gg 35,gg 36,gg 37,gg 38,gg 39,gg 40,gg 41,gg 42,gg 43,gg 44,gg 45,gg 46,gg 47,gg 48,gg 49,gg 50,gg 51,gg 52]/\σ=[.box (.agg [.str a0,.bool a1,.int .i64 a2,.int .i64 a3,.slice (sz 4 a4) (a4.map Em.stop.aA) .any]),.box (.agg [.str b0,.bool b1,.int .i64 b2,.int .i64 b3,.slice (sz 4 b4) (b4.map Em.stop.aA) .any])]) ?_ (a4.length) (by refine⟨0,?_⟩;exact jZ (⟨ye,hB⟩) yh yh)
 rintro m fr σ ⟨i,gg,hI,rfl,rfl⟩
 obtain⟨hm,hs⟩:=hI
 by_cases hi:i<a4.length
 .have q1:(i:Int)<(a4.length:Int):=by omega
  have hir:i<b4.length:=ye;have q2:(i:Int)<(b4.length:Int):=ye;obtain⟨a,ha⟩:=gn (a4[i]);obtain⟨b,hb⟩:=gn (b4[i]);have dI:a4.drop i=a::a4.drop (i+1):=yy;have hc2:b4.drop i=b::b4.drop (i+1):=Ac;rw[dI,hc2,rB]at hs;have ka:mA a:=hx.2 a (ha▸yAm hi);have kb:mA b:=hy.2 b (hb▸yAm hir);have hE:=λfl σ=>kW (a:=Em.stop) ka kb fl σ
  simp only[qE,aV]at hE
  by_cases e:a=b
  .exact wu
  .rw[yBc e,yAX]at hs;rw[yBc e]at hE;have bQ:B=false:=hs.symm;refine aC (A8 q1 q2 hi hir ha @hb h1 hE) ?_;exact ag
 .have q1:¬(i:Int)<(a4.length:Int):=by omega
  exact uo
theorem aKO(h0:E 15=none)(h1:E 37=some (eZ Em.aG kG))(h2:E 38=some (eZ Em.div mB))(a b:aM)(hx:eV a)(hy:eV b) :
  aI prog E 15 [Em.bH.aA a,Em.bH.aA b] (Em.bool.aA (decide (a=b))):=by
 obtain⟨a0,a1,a2,a3⟩:=a;obtain⟨b0,b1,b2,b3⟩:=b;simp only[iA,aV];refine aI.aN 96 h0 func15 (h:=?_)
 by_cases e0:a0=b0
 rotate_left
 .have f0:(a0==b0)=false:=by simpa using e0
  refine aC (A2 @e0 @f0) ?_;exact rm
 by_cases l1:a1.length=b1.length
 rotate_left
 .have cK:¬(a1.length:Int)=(b1.length:Int):=by omega
  have hne:¬a1=b1:=by simpa using rC l1
  refine aC (A3 @e0 l1 cK) ?_;exact ij
 by_cases l2:a2.length=b2.length
 rotate_left
 .have cK:¬(a2.length:Int)=(b2.length:Int):=by omega
  have hne:¬a2=b2:=by simpa using rC l2
  refine aC (A4 @e0 l1 l2 cK) ?_;exact ij
 by_cases l3:a3.length=b3.length
 rotate_left
 .have cK:¬(a3.length:Int)=(b3.length:Int):=by omega
  have hne:¬a3=b3:=by simpa using rC l3
  refine aC (A5 @e0 l1 l2 l3 cK) ?_;exact ij
 obtain⟨B1,GN⟩:∃B,decide (a1=b1)=B:=⟨_,rfl⟩;obtain⟨B2,bQ⟩:∃B,decide (a2=b2)=B:=⟨_,rfl⟩;obtain⟨B3,BT⟩:∃B,decide (a3=b3)=B:=⟨_,rfl⟩;rw[show decide ((⟨a0,a1,a2,a3⟩:aM)=⟨b0,b1,b2,b3⟩)=(B1&&(B2&&B3)) by
  rw[<-GN,<-bQ,<-BT]
  by_cases f1:a1=b1<;>by_cases f2:a2=b2<;>by_cases f3:a3=b3<;>simp[e0,f1,f2,f3]]
 have hx1:a1.length<=1000000:=hx.1.1;have hx2:a2.length<=1000000:=hx.2.1.1;have hx3:a3.length<=1000000:=hx.2.2;refine aC (A4 @e0 l1 l2 l3) ?_;refine Wp.cI (λm fr σ=>∃(i:Nat),∃gg:Nat->PD,(i+m=a1.length/\decide (a1.drop i=b1.drop i)=B1)/\fr=gg 0::gg 1::.ptr 0 0::.ptr 1 0::.bool false::.int .i64 i::gg 6::gg 7::gg 8::gg 9::gg 10::gg 11::gg 12::gg 13::gg 14::gg 15::gg 16::gg 17::gg 18::gg 19::gg 20::gg 21::gg 22::gg 23::gg 24::gg 25::gg 26::gg 27::gg 28::gg 29::gg 30::gg 31::gg 32::gg 33::gg 34::gg 35::gg 36::gg 37::gg 38::gg 39::gg 40::gg 41::gg 42::gg 43::gg 44::gg 45::gg 46::gg 47::gg 48::gg 49::gg 50::gg 51::gg 52::gg 53::gg 54::gg 55::gg 56::gg 57::gg 58::gg 59::gg 60::gg 61::gg 62::gg 63::gg 64::gg 65::gg 66::gg 67::gg 68::gg 69::gg 70::gg 71::gg 72::gg 73::gg 74::gg 75::gg 76::gg 77::gg 78::gg 79::gg 80::gg 81::gg 82::gg 83::gg 84::gg 85::gg 86::gg 87::gg 88::gg 89::gg 90::gg 91::gg 92::gg 93::gg 94::gg 95::[]/\σ=[.box (.agg [.str a0,.slice (sz 6 a1) (a1.map Em.aG.aA) .any,.slice (sz 5 a2) (a2.map Em.div.aA) .any,.slice (sz 5 a3) (a3.map Em.aJ.aA) .any]),.box (.agg [.str b0,.slice (sz 6 b1) (b1.map Em.aG.aA) .any,.slice (sz 5 b2) (b2.map Em.div.aA) .any,.slice (sz 5 b3) (b3.map Em.aJ.aA) .any])]) ?_ (a1.length) (by refine⟨0,?_⟩;exact dU (⟨ye,GN⟩) @l1)
 rintro m fr σ ⟨i,gg,hI,rfl,rfl⟩
 obtain⟨hm,hs⟩:=hI
 by_cases hi:i<a1.length
 .have q1:(i:Int)<(a1.length:Int):=by omega
  have hir:i<b1.length:=ye;have q2:(i:Int)<(b1.length:Int):=ye;obtain⟨a,ha⟩:=gn (a1[i]);obtain⟨b,hb⟩:=gn (b1[i]);have dI:a1.drop i=a::a1.drop (i+1):=yy;have hc2:b1.drop i=b::b1.drop (i+1):=Ac;rw[dI,hc2,rB]at hs;have ka:kG a:=hx.1.2 a (ha▸yAm hi);have kb:kG b:=hy.1.2 b (hb▸yAm hir);have hE:=λfl σ=>kW (a:=Em.aG) ka kb fl σ
  simp only[oD,aV]at hE
  by_cases e:a=b
  .exact wu
  .rw[yBc e,yAX]at hs;rw[yBc e]at hE;rw[<-hs];refine aC (A8 q1 q2 hi hir ha @hb h1 hE) ?_;exact aa
 .have q1:¬(i:Int)<(a1.length:Int):=by omega
  rw[yAs ye,yAs ye]at hs;have KN:B1=true:=hs.symm;subst KN;refine aC q1 ?_;refine Wp.cI (λm fr σ=>∃(i:Nat),∃gg:Nat->PD,(i+m=a2.length/\decide (a2.drop i=b2.drop i)=B2)/\fr=gg 0::gg 1::.ptr 0 0::.ptr 1 0::.bool false::gg 5::.int .i64 i::gg 7::gg 8::gg 9::gg 10::gg 11::gg 12::gg 13::gg 14::gg 15::gg 16::gg 17::gg 18::gg 19::gg 20::gg 21::gg 22::gg 23::gg 24::gg 25::gg 26::gg 27::gg 28::gg 29::gg 30::gg 31::gg 32::gg 33::gg 34::gg 35::gg 36::gg 37::gg 38::gg 39::gg 40::gg 41::gg 42::gg 43::gg 44::gg 45::gg 46::gg 47::gg 48::gg 49::gg 50::gg 51::gg 52::gg 53::gg 54::gg 55::gg 56::gg 57::gg 58::gg 59::gg 60::gg 61::gg 62::gg 63::gg 64::gg 65::gg 66::gg 67::gg 68::gg 69::gg 70::gg 71::gg 72::gg 73::gg 74::gg 75::gg 76::gg 77::gg 78::gg 79::gg 80::gg 81::gg 82::gg 83::gg 84::gg 85::gg 86::gg 87::gg 88::gg 89::gg 90::gg 91::gg 92::gg 93::gg 94::gg 95::[]/\σ=[.box (.agg [.str a0,.slice (sz 6 a1) (a1.map Em.aG.aA) .any,.slice (sz 5 a2) (a2.map Em.div.aA) .any,.slice (sz 5 a3) (a3.map Em.aJ.aA) .any]),.box (.agg [.str b0,.slice (sz 6 b1) (b1.map Em.aG.aA) .any,.slice (sz 5 b2) (b2.map Em.div.aA) .any,.slice (sz 5 b3) (b3.map Em.aJ.aA) .any])]) ?_ (a2.length) (by refine⟨0,?_⟩;exact dU (⟨ye,bQ⟩) @l2)
  rintro m fr σ ⟨i,gg,hI,rfl,rfl⟩
  obtain⟨hm,hs⟩:=hI
  by_cases hi:i<a2.length
  .have q1:(i:Int)<(a2.length:Int):=by omega
   have hir:i<b2.length:=ye;have q2:(i:Int)<(b2.length:Int):=ye;obtain⟨a,ha⟩:=gn (a2[i]);obtain⟨b,hb⟩:=gn (b2[i]);have dI:a2.drop i=a::a2.drop (i+1):=yy;have hc2:b2.drop i=b::b2.drop (i+1):=Ac;rw[dI,hc2,rB]at hs;have ka:mB a:=hx.2.1.2 a (ha▸yAm hi);have kb:mB b:=hy.2.1.2 b (hb▸yAm hir);have hE:=λfl σ=>kW (a:=Em.div) ka kb fl σ
   simp only[nN,aV]at hE
   by_cases e:a=b
   .rw[yAV e,yBm]at hs;rw[yAV e]at hE;refine aC (A8 q1 q2 hi hir ha @hb h2 hE) ?_;exact ai
   .rw[yBc e,yAX]at hs;rw[yBc e]at hE;rw[<-hs];refine aC (A8 q1 q2 hi hir ha @hb h2 hE) ?_;exact aa
  .have q1:¬(i:Int)<(a2.length:Int):=by omega
   rw[yAs ye,yAs ye]at hs;have KN:B2=true:=hs.symm;subst KN;refine aC q1 ?_;refine Wp.cI (λm fr σ=>∃(i:Nat),∃gg:Nat->PD,(i+m=a3.length/\decide (a3.drop i=b3.drop i)=B3)/\fr=gg 0::gg 1::.ptr 0 0::.ptr 1 0::.bool false::gg 5::gg 6::.int .i64 i::gg 8::gg 9::gg 10::gg 11::gg 12::gg 13::gg 14::gg 15::gg 16::gg 17::gg 18::gg 19::gg 20::gg 21::gg 22::gg 23::gg 24::gg 25::gg 26::gg 27::gg 28::gg 29::gg 30::gg 31::gg 32::gg 33::gg 34::gg 35::gg 36::gg 37::gg 38::gg 39::gg 40::gg 41::gg 42::gg 43::gg 44::gg 45::gg 46::gg 47::gg 48::gg 49::gg 50::gg 51::gg 52::gg 53::gg 54::gg 55::gg 56::gg 57::gg 58::gg 59::gg 60::gg 61::gg 62::gg 63::gg 64::gg 65::gg 66::gg 67::gg 68::gg 69::gg 70::gg 71::gg 72::gg 73::gg 74::gg 75::gg 76::gg 77::gg 78::gg 79::gg 80::gg 81::gg 82::gg 83::gg 84::gg 85::gg 86::gg 87::gg 88::gg 89::gg 90::gg 91::gg 92::gg 93::gg 94::gg 95::[]/\σ=[.box (.agg [.str a0,.slice (sz 6 a1) (a1.map Em.aG.aA) .any,.slice (sz 5 a2) (a2.map Em.div.aA) .any,.slice (sz 5 a3) (a3.map Em.aJ.aA) .any]),.box (.agg [.str b0,.slice (sz 6 b1) (b1.map Em.aG.aA) .any,.slice (sz 5 b2) (b2.map Em.div.aA) .any,.slice (sz 5 b3) (b3.map Em.aJ.aA) .any])]) ?_ (a3.length) (by refine⟨0,?_⟩;exact dU (⟨ye,BT⟩) @l3)
   rintro m fr σ ⟨i,gg,hI,rfl,rfl⟩
   obtain⟨hm,hs⟩:=hI
   by_cases hi:i<a3.length
   .have q1:(i:Int)<(a3.length:Int):=by omega
    have hir:i<b3.length:=ye;have q2:(i:Int)<(b3.length:Int):=ye;obtain⟨a,ha⟩:=gn (a3[i]);obtain⟨b,hb⟩:=gn (b3[i]);have dI:a3.drop i=a::a3.drop (i+1):=yy;have hc2:b3.drop i=b::b3.drop (i+1):=Ac;rw[dI,hc2,rB]at hs;obtain⟨c0,c1,c2,c3,c4⟩:=a;obtain⟨d0,d1,d2,d3,d4⟩:=b
    by_cases f0:c0=d0
    rotate_left
    .rw[show decide ((⟨c0,c1,c2,c3,c4⟩:bR)=⟨d0,d1,d2,d3,d4⟩)=false by simp[f0],yAX]at hs;rw[<-hs];refine aC (A7 q1 q2 hi hir ha @hb @f0) ?_;exact aa
    by_cases f1:c1=d1
    rotate_left
    .rw[show decide ((⟨c0,c1,c2,c3,c4⟩:bR)=⟨d0,d1,d2,d3,d4⟩)=false by simp[f1],yAX]at hs;rw[<-hs];refine aC (A8 q1 q2 hi hir ha @hb @f0 @f1) ?_;exact aa
    by_cases f2:c2=d2
    rotate_left
    .rw[show decide ((⟨c0,c1,c2,c3,c4⟩:bR)=⟨d0,d1,d2,d3,d4⟩)=false by simp[f2],yAX]at hs;rw[<-hs];refine aC (A9 q1 q2 hi hir ha @hb @f0 @f1 @f2) ?_;exact aa
    by_cases f3:c3=d3
    rotate_left
    .rw[show decide ((⟨c0,c1,c2,c3,c4⟩:bR)=⟨d0,d1,d2,d3,d4⟩)=false by simp[f3],yAX]at hs;rw[<-hs];refine aC (A10 q1 q2 hi hir ha @hb @f0 @f1 @f2 @f3) ?_;exact aa
    by_cases f4:c4=d4
    rotate_left
    .rw[show decide ((⟨c0,c1,c2,c3,c4⟩:bR)=⟨d0,d1,d2,d3,d4⟩)=false by simp[f4],yAX]at hs;rw[<-hs];refine aC (A11 q1 q2 hi hir ha @hb @f0 @f1 @f2 @f3 @f4) ?_;exact aa
    rw[show decide ((⟨c0,c1,c2,c3,c4⟩:bR)=⟨d0,d1,d2,d3,d4⟩)=true by simp[f0,f1,f2,f3,f4],yBm]at hs;refine aC (A11 q1 q2 hi hir ha @hb @f0 @f1 @f2 @f3 @f4) ?_;exact ai
   .have q1:¬(i:Int)<(a3.length:Int):=by omega
    rw[yAs ye,yAs ye]at hs;have KN:B3=true:=hs.symm;subst KN;refine aC q1 ?_;exact aa
end
section
def tE(n d:Int):Int:=if d<=0\/1000000<d\/n < -1000000\/1000000<n\/Nat.gcd n.natAbs d.toNat≠1 then 2 else 0
def qX(n d:Int):Int:=if tE n d≠0 then 2 else if n<=0\/128*d<n then 3 else if 128<d then 4 else 0
def VZ(n:Int):Prop:=-9223372036854775808<=n/\n<=9223372036854775807
abbrev BQ:Em Int:=Em.int .u64
def NI:Nat->List PD->List aB->Option (PD×List aB):=entry (eD BQ BQ BQ λa b=>dY (0<=a/\a<=1000000/\0<=b/\b<=1000000) (some (Nat.gcd a.toNat b.toNat)))
theorem aMY{a b:Nat}(ha:a<=1000000)(hb:b<=1000000)(fl:Nat)(σ:List aB):NI fl [.int .u64 a,.int .u64 b] σ=some (.int .u64 (Nat.gcd a b),σ):=by
 have e1:BQ.dec (.int .u64 a)=some (a:Int):=Em.cO rfl;have e2:BQ.dec (.int .u64 b)=some (b:Int):=Em.cO rfl;unfold NI entry eD;simp only[e1,e2];rw[gO ⟨ye,ye,ye,ye⟩];rfl
variable{E:aE}(hU:aH E)
include hU
theorem aJK(h0:E 145=none)(a b:Nat)(ha:a<=1000000)(hb:b<=1000000):aI prog E 145 [.int .u64 a,.int .u64 b] (BQ.aA (Nat.gcd a b)):=by
 obtain⟨G,hG⟩:=gn (Nat.gcd a b);rw[hG];refine aI.aN 12 h0 func145 (h:=?_);refine aC trivial ?_;refine Wp.cI (λm fr σ=>∃(u v:Nat),∃gg:Nat->PD,(v<=m/\u<=1000000/\v<=1000000/\Nat.gcd u v=G)/\fr=[.int .u64 u,.int .u64 v,gg 2,gg 3,gg 4,gg 5,gg 6,gg 7,gg 8,gg 9,gg 10,gg 11]/\σ=[]) ?_ (b) (by refine⟨a,b,?_⟩;exact bG (⟨yAk _,ha,hb,hG⟩))
 rintro m fr σ ⟨u,v,gg,hI,rfl,rfl⟩
 obtain⟨hm,hu,hv,hg⟩:=hI
 by_cases q:v=0
 .subst q;rw[Nat.gcd_zero_right]at hg;subst hg;exact ux
 .have q1:0<v:=by omega
  have q2:¬(v:Int)=0:=ye;have hml:u%v<v:=yBw _ ye;have hgr:Nat.gcd v (u%v)=G:=by rw[Nat.gcd_comm v (u%v),<-Nat.gcd_rec,Nat.gcd_comm,hg]
  obtain⟨r,hr⟩:=gn (u%v);have w1:((u:Int)).tmod (v:Int)=(r:Int):=by rw[<-hr];rfl
  rw[hr]at hml hgr;have w2:IntKind.u64.wrap (r:Int)=(r:Int):=yq;refine aC (A5 @q q1 q2 w1 w2) ?_;refine bC.normal (m-1) ye (by refine⟨v,r,?_⟩;exact bG (⟨ye,hv,ye,hgr⟩))
theorem aJM(h0:E 146=none)(n:Int)(h:-1000000<=n/\n<=1000000):aI prog E 146 [.int .i64 n] (BQ.aA n.natAbs):=by
 refine aI.aN 10 h0 func146 (h:=?_)
 by_cases a:n<0
 .have w1:IntKind.u64.wrap n=n+18446744073709551616:=by simp only[IntKind.wrap,IntKind.bits,IntKind.signed];simp;omega
  have w2:IntKind.u64.wrap (-(n+18446744073709551616))=(n.natAbs:Int):=yq;refine aC (A3 @a w1 w2) ?_;exact aa
 .have w1:IntKind.u64.wrap n=(n.natAbs:Int):=by simp only[IntKind.wrap,IntKind.bits,IntKind.signed];simp;omega
  refine aC (A2 @a w1) ?_;exact aa
def NJ:Nat->List PD->List aB->Option (PD×List aB):=entry (bZ i64 BQ λn=>dY (-1000000<=n/\n<=1000000) (some (n.natAbs:Int)))
omit hU in
theorem aMZ{n:Int}(h:-1000000<=n/\n<=1000000)(fl:Nat)(σ:List aB):NJ fl [.int .i64 n] σ=some (.int .u64 n.natAbs,σ):=by
 have e1:i64.dec (.int .i64 n)=some n:=Em.cO rfl;unfold NJ entry bZ;exact jc
theorem aJO(h0:E 124=none)(h1:E 146=some NJ)(h2:E 145=some NI)(n d:Int):aI prog E 124 [.agg [.int .i64 n,.int .i64 d]] (i64.aA (tE n d)):=by
 by_cases a:d<=0
 .skip
  refine aI.aN 31 h0 func124 (h:=?_);refine aC @a ?_;simp(disch:=first|omega|(simp;done)|(simp;omega)) [yAu,tE,a]<;>try rfl
 by_cases b:1000000<d
 .skip
  refine aI.aN 31 h0 func124 (h:=?_);refine aC (A2 @a @b) ?_;simp(disch:=first|omega|(simp;done)|(simp;omega)) [yAu,tE,a,b]<;>try rfl
 by_cases c:n < -1000000
 .skip
  refine aI.aN 31 h0 func124 (h:=?_);refine aC (A3 @a @b @c) ?_;simp(disch:=first|omega|(simp;done)|(simp;omega)) [yAu,tE,a,b,c]<;>try rfl
 by_cases e:1000000<n
 .skip
  refine aI.aN 31 h0 func124 (h:=?_);refine aC (A4 @a @b @c @e) ?_;simp(disch:=first|omega|(simp;done)|(simp;omega)) [yAu,tE,a,b,c,e]<;>try rfl
 have hM:=aMZ (n:=n) ye;obtain⟨D,rfl⟩:∃D:Nat,d=D:=⟨d.toNat,ye⟩;obtain⟨N,hN⟩:=gn (n.natAbs);rw[hN]at hM;have hG:=aMY (a:=N) (b:=D) ye ye;have w:IntKind.u64.wrap (D:Int)=D:=yq;obtain⟨g,hg⟩:=gn (Nat.gcd N D);have a2:¬D=0:=ye;have b2:¬1000000<D:=ye;have hE:tE n D=if g=1 then 0 else 2:=by
  unfold tE;rw[hN,yBy]
  by_cases q:g=1
  .rw[yAJ q,yAI ye]
  .rw[yAI q,yAJ ye]
 rw[hE];rw[hg]at hG
 by_cases q:g=1
 .have q1:(g:Int)=1:=by omega
  exact ic
 .have q1:¬(g:Int)=1:=by omega
  exact ic
def NK:Nat->List PD->List aB->Option (PD×List aB):=entry (bZ Em.cH i64 λx=>some (tE x.1 x.2))
omit hU in
theorem aM0(n d:Int)(fl:Nat)(σ:List aB):NK fl [.agg [.int .i64 n,.int .i64 d]] σ=some (.int .i64 (tE n d),σ):=by
 have e1:Em.cH.dec (.agg [.int .i64 n,.int .i64 d])=some (n,d):=Em.cO rfl;unfold NK entry bZ;simp only[e1];rfl
theorem aJQ(h0:E 93=none)(h1:E 124=some NK)(n d:Int):aI prog E 93 [.agg [.int .i64 n,.int .i64 d]] (i64.aA (qX n d)):=by
 have hF:=aM0 n d
 by_cases a:tE n d=0
 .have hd:0<d/\d<=1000000:=by
   unfold tE at a;split at a
   .cases a
   .omega
  have w:IntKind.i64.wrap (128*d)=128*d:=ym;rw[a]at hF;unfold qX;rw[a];refine aI.aN 23 h0 func93 (h:=?_)
  by_cases b:n<=0
  .refine aC (A3 h1 hF @b) ?_;simp(disch:=first|omega|(simp;done)|(simp;omega)) [yAu,b]<;>try rfl
  by_cases c:128*d<n
  .refine aC (A5 h1 hF @b @w @c) ?_;simp(disch:=first|omega|(simp;done)|(simp;omega)) [yAu,b,c]<;>try rfl
  by_cases e:128<d
  .exact mc
  .exact mc
 .unfold qX;rw[yAJ a];obtain⟨f,hf⟩:=gn (tE n d);rw[hf]at a hF;refine aI.aN 23 h0 func93 (h:=?_);refine aC (A3 h1 hF @a) ?_;exact aa
end
section
def dR{α:Type}(p:α->Bool):List α->Nat->Int
 | [],_=>-1
 |x::r,i=>if p x=true then(i:Int)else dR p r (i+1)
theorem OL{α:Type}(p:α->Bool):∀(l:List α) (i:Nat),decide (0<=dR p l i)=l.any p
 | [],_=>rfl
 |x::r,i=>by
  unfold dR;cases h:p x with
  |true=>rw[yAJ rfl,yDR,h];simp
  |false=>rw[yAI yj,yDR,h,OL p r (i+1)];rfl
theorem aDu{α:Type}(p:α->Bool):∀(l:List α) (i:Nat),-1<=dR p l i/\dR p l i<i+l.length\/dR p l i=-1
 | [],_=>.inr rfl
 |x::r,i=>by
  unfold dR;split
  .refine .inl ⟨ye,?_⟩;rw[yAS];omega
  .rcases aDu p r (i+1)with h|h
   .refine .inl ⟨h.1,?_⟩;rw[yAS];omega
   .exact .inr h
def kV(w:Int):Bool:=decide (w<0)||decide (1000000<w)
def NL:Nat->List PD->List aB->Option (PD×List aB):=entry (bZ i64 Em.bool λn=>some (kV n))
theorem aMT(n:Int)(fl:Nat)(σ:List aB):NL fl [.int .i64 n] σ=some (.bool (kV n),σ):=by
 have e:i64.dec (.int .i64 n)=some n:=Em.cO rfl;unfold NL entry bZ;simp only[e];rfl
variable{E:aE}(hU:aH E)
include hU
theorem aJS(h0:E 126=none)(n:Int):aI prog E 126 [.int .i64 n] (Em.bool.aA (kV n)):=by
 refine aI.aN 9 h0 func126 (h:=?_)
 by_cases a:n<0
 .refine aC @a ?_;simp(disch:=first|omega|(simp;done)|(simp;omega)) [yAu,kV,a]<;>try rfl
 .by_cases b:1000000<n
  .exact nt
  .exact nt
theorem aJU(h0:E 147=none)(h1:E 126=some NL)(l:List Int)(hl:l.length<=1000000):aI prog E 147 [eS.aA l,.func 126 []] (i64.aA (dR kV l 0)):=by
 obtain⟨B,hB⟩:=gn (dR kV l 0);rw[hB];refine aI.aN 19 h0 func147 (h:=?_);refine aC trivial ?_;refine Wp.cI (λm fr σ=>∃(i:Nat),∃gg:Nat->PD,(i+m=l.length/\dR kV (l.drop i) i=B)/\fr=[eS.aA l,.func 126 [],gg 2,gg 3,gg 4,gg 5,eS.aA l,.int .i64 l.length,.int .i64 i,gg 9,gg 10,gg 11,gg 12,gg 13,gg 14,gg 15,gg 16,gg 17,gg 18]/\σ=[]) ?_ (l.length) (by refine⟨0,?_⟩;exact bG (⟨ye,hB⟩))
 rintro m fr σ ⟨i,gg,hI,rfl,rfl⟩
 obtain⟨hm,hs⟩:=hI
 by_cases hi:i<l.length
 .have q1:(i:Int)<(l.length:Int):=by omega
  obtain⟨a,ha⟩:=gn (l[i]);have hc:l.drop i=a::l.drop (i+1):=yy;have hE:=aMT a;rw[hc]at hs;unfold dR at hs;cases hb:kV a with
  |true=>
   rw[hb]at hE;rw[yAJ hb]at hs;have bQ:B=(i:Int):=hs.symm;clear hs;refine aC (A3 q1 hi ha) ?_
   first|refine Wp.seq ?_|skip
   apply Wp.mE;refine kH (A4 h1 hE hi ha) ?_;apply SQ.nil;exact uu
  |false=>
   rw[hb]at hE;rw[yAI (by rw[hb];decide)]at hs;refine aC (A3 q1 hi ha) ?_
   first|refine Wp.seq ?_|skip
   apply Wp.mE;refine kH (A4 h1 hE hi ha) ?_;apply SQ.nil;refine aC q1 ?_;exact ai
 .have q1:¬(i:Int)<(l.length:Int):=by omega
  rw[yAs ye]at hs;have bQ:B=-1:=hs.symm;exact uu
def NM:Nat->List PD->List aB->Option (PD×List aB):=entry (λargs=>match args with
 | [p,.func g []]=>if g=126 then bZ eS i64 (λl=>dY (l.length<=1000000) (some (dR kV l 0))) [p]else none
 |_=>none)
omit hU in
theorem aMU{l:List Int}(hl:l.length<=1000000)(fl:Nat)(σ:List aB):NM fl [eS.aA l,.func 126 []] σ=some (.int .i64 (dR kV l 0),σ):=by
 have e1:=Em.cO (eS.str l);unfold NM entry bZ;simp only[e1,yAK];rw[gO hl];rfl
def NN:Nat->List PD->List aB->Option (PD×List aB):=entry (λargs=>match args with
 | [p,.func g []]=>if g=126 then bZ eS Em.bool (λl=>dY (l.length<=1000000) (some (l.any kV))) [p]else none
 |_=>none)
omit hU in
theorem aMV{l:List Int}(hl:l.length<=1000000)(fl:Nat)(σ:List aB):NN fl [eS.aA l,.func 126 []] σ=some (.bool (l.any kV),σ):=by
 have e1:=Em.cO (eS.str l);unfold NN entry bZ;simp only[e1,yAK];rw[gO hl];rfl
theorem aJW(h0:E 125=none)(h1:E 147=some NM)(l:List Int)(hl:l.length<=1000000):aI prog E 125 [eS.aA l,.func 126 []] (Em.bool.aA (l.any kV)):=by
 have hE:=aMU hl;rw[<-OL kV l 0];refine aI.aN 9 h0 func125 (h:=?_);simp only[aV]at hE;exact wm
def mK(r:bB):Int:=
 if dV r.name=false\/dV r.jQ=false then 8 else if qX r.num r.den≠0 then qX r.num r.den else if ¬(-256<=r.first/\r.first<=256)then 3 else if r.nM.length=0 then 13 else if 128<r.nM.length then 4 else if r.nM.any kV=true then 3 else 0
def DC:Nat->List PD->List aB->Option (PD×List aB):=entry (bZ Em.text Em.bool λs=>dY (s.length<=100000) (some (dV s)))
omit hU in
theorem GF{s:Ez}(h:s.length<=100000)(fl:Nat)(σ:List aB):DC fl [.str s] σ=some (.bool (dV s),σ):=by
 have e1:Em.text.dec (.str s)=some s:=Em.cO rfl;unfold DC entry bZ;exact jc
theorem aJY(h0:E 95=none)(h1:E 125=some NN)(l:List Int)(hl:l.length<=1000000):aI prog E 95 [eS.aA l] (i64.aA (if l.any kV=true then 3 else 0)):=by
 have hE:=aMV hl;simp only[aV]at hE;cases hb:l.any kV with
 |true=>
  rw[hb]at hE;refine aI.aN 5 h0 func95 (h:=?_);exact wm
 |false=>
  rw[hb]at hE;refine aI.aN 5 h0 func95 (h:=?_);exact wm
def JA:Nat->List PD->List aB->Option (PD×List aB):=entry (bZ Em.cH i64 λx=>some (qX x.1 x.2))
omit hU in
theorem aDt(n d:Int)(fl:Nat)(σ:List aB):JA fl [.agg [.int .i64 n,.int .i64 d]] σ=some (.int .i64 (qX n d),σ):=by
 have e1:Em.cH.dec (.agg [.int .i64 n,.int .i64 d])=some (n,d):=Em.cO rfl;unfold JA entry bZ;simp only[e1];rfl
def NP:Nat->List PD->List aB->Option (PD×List aB):=entry (bZ i64 Em.bool λn=>some (decide (-256<=n)&&decide (n<=256)))
omit hU in
theorem aMW(n:Int)(fl:Nat)(σ:List aB):NP fl [.int .i64 n] σ=some (.bool (decide (-256<=n)&&decide (n<=256)),σ):=by
 have e1:i64.dec (.int .i64 n)=some n:=Em.cO rfl;unfold NP entry bZ;simp only[e1];rfl
def NO:Nat->List PD->List aB->Option (PD×List aB):=entry (bZ eS i64 λl=>dY (l.length<=1000000) (some (if l.any kV=true then 3 else 0)))
omit hU in
theorem aMX{l:List Int}(h:l.length<=1000000)(fl:Nat)(σ:List aB):NO fl [eS.aA l] σ=some (.int .i64 (if l.any kV=true then 3 else 0),σ):=by
 have e1:=Em.cO (eS.str l);unfold NO entry bZ;exact jc
def kU(s:List UInt8):Prop:=s.length<=100000
theorem aJ2(h0:E 61=none)(h1:E 60=some DC)(h2:E 93=some JA)(h3:E 94=some NP)(h4:E 95=some NO)(r:bB)(hr:kG r)(hn:kU r.name)(ht:kU r.jQ):aI prog E 61 [Em.aG.aA r] (i64.aA (mK r)):=by
 obtain⟨n,t,a,b,f,w⟩:=r;have e1:=GF hn;have e2:=GF ht;have e3:=aDt a b;have e4:=aMW f;have e5:=aMX (show w.length<=1000000 from hr);have hw:w.length<=1000000:=hr;unfold mK;simp only[aV]at e1 e2 e5;simp only[oD,aV];cases c1:dV n with
 |false=>
  rw[c1]at e1;rw[yAJ (.inl rfl)];refine aI.aN 38 h0 func61 (h:=?_);refine aC (A2 h1 e1) ?_;exact aa
 |true=>
 rw[c1]at e1;cases c2:dV t with
 |false=>
  rw[c2]at e2;rw[yAJ (.inr rfl)];refine aI.aN 38 h0 func61 (h:=?_);refine aC (A3 h1 e1 e2) ?_;exact aa
 |true=>
 rw[c2]at e2;rw[yAI yg];obtain⟨p,hp⟩:=gn (qX a b);rw[hp]at e3 ⊢
 by_cases c3:p=0
 rotate_left
 .rw[yAJ c3];refine aI.aN 38 h0 func61 (h:=?_);refine aC (A6 h1 h2 e1 e2 e3 c3) ?_;exact aa
 subst c3;rw[yAI yg]
 by_cases c4:-256<=f/\f<=256
 rotate_left
 .rw[yAJ c4];have rV:(decide (-256<=f)&&decide (f<=256))=false:=by simpa using λh=>Int.not_le.1 (λg=>c4 ⟨h,g⟩)
  rw[rV]at e4;exact xg
 rw[yAI (not_not_intro c4)];have rV:(decide (-256<=f)&&decide (f<=256))=true:=by simpa using c4
 rw[rV]at e4
 by_cases c5:w.length=0
 .rw[yAJ c5];have VY:(w.length:Int)=0:=ye;have c6:w=[]:=yAf c5;subst c6;exact xg
 rw[yAI c5];have VY:¬w=[]:=λh=>c5 Ah
 by_cases c6:128<w.length
 .rw[yAJ c6];have c7:128<(w.length:Int):=ye;refine aI.aN 38 h0 func61 (h:=?_);refine aC (A11 h1 h2 h3 e1 e2 e3 e4 c5 VY c6 c7) ?_;exact aa
 rw[yAI c6];have c7:¬128<(w.length:Int):=ye;obtain⟨q,hq⟩:∃q,(if w.any kV=true then(3:Int)else 0)=q:=⟨_,rfl⟩;rw[hq]at e5 ⊢;refine aI.aN 38 h0 func61 (h:=?_);refine aC (A13 h1 h2 h3 h4 e1 e2 e3 e4 e5 c5 VY c6 c7) ?_;exact aa
end
section
def xE(k:Nat):List cT->List cT->Int
 |_,[]=>0
 |pre,d::r=>if d.aG<0\/(k:Int)<=d.aG then 10 else if d.shift < -127\/127<d.shift then 3 else if (pre.any λx=>decide (x=d))=true then 9 else xE k (pre++[d]) r
def lX(k:Nat)(l:List cT):Int:=if 8<l.length then 4 else xE k [] l
variable{E:aE}(hU:aH E)
include hU
theorem aJ4(h0:E 167=none)(l:List cT)(v:cT)(hl:l.length<=1000000):aI prog E 167 [eT.aA l,Em.draw.aA v] (i64.aA (dR (λx=>decide (x=v)) l 0)):=by
 obtain⟨B,hB⟩:∃B,dR (λx=>decide (x=v)) l 0=B:=⟨_,rfl⟩;rw[hB];obtain⟨v0,v1⟩:=v;simp only[CC];refine aI.aN 19 h0 func167 (h:=?_);refine aC trivial ?_;refine Wp.cI (λm fr σ=>∃(i:Nat),∃gg:Nat->PD,(i+m=l.length/\dR (λx=>decide (x=cT.mk v0 v1)) (l.drop i) i=B)/\fr=[eT.aA l,gg 1,gg 2,.ptr 0 0,gg 4,gg 5,eT.aA l,.int .i64 l.length,.int .i64 i,gg 9,gg 10,gg 11,gg 12,gg 13,gg 14,gg 15,gg 16,gg 17,gg 18]/\σ=[.box (.agg [.int .i64 v0,.int .i64 v1])]) ?_ (l.length) (by refine⟨0,?_⟩;exact bG (⟨ye,hB⟩))
 rintro m fr σ ⟨i,gg,hI,rfl,rfl⟩
 obtain⟨hm,hs⟩:=hI
 by_cases hi:i<l.length
 .have q1:(i:Int)<(l.length:Int):=by omega
  obtain⟨a,ha⟩:=gn (l[i]);have hc:l.drop i=a::l.drop (i+1):=yy;rw[hc]at hs;unfold dR at hs;obtain⟨a0,a1⟩:=a
  by_cases hb:a0=v0
  .by_cases hb2:a1=v1
   .rw[yAJ (by rw[hb,hb2];simp)]at hs;have bQ:B=(i:Int):=hs.symm;clear hs;refine aC (A5 q1 hi ha @hb hb2) ?_;exact ag
   .rw[yAI (by simpa using λ_=>hb2)]at hs;refine aC (An @q1 (An @hi (An @ha (An @hb (An @hb2 ((yBb hb2))))))) ?_;exact ai
  .rw[yAI (by simpa using λh=>absurd h hb)]at hs;refine aC (An @q1 (An @hi (An @ha (An @hb ((yBb hb)))))) ?_;exact ai
 .have q1:¬(i:Int)<(l.length:Int):=by omega
  rw[yAs ye]at hs;have bQ:B=-1:=hs.symm;exact uu
def NQ:Nat->List PD->List aB->Option (PD×List aB):=entry (eD eT Em.draw i64 λl v=>dY (l.length<=1000000) (some (dR (λx=>decide (x=v)) l 0)))
omit hU in
theorem aMR{l:List cT}{v:cT}(hl:l.length<=1000000)(fl:Nat)(σ:List aB):NQ fl [eT.aA l,Em.draw.aA v] σ=some (.int .i64 (dR (λx=>decide (x=v)) l 0),σ):=by
 have e1:=Em.cO (eT.str l);have e2:=Em.cO (Em.draw.str v);unfold NQ entry eD;simp only[e1,e2];rw[gO hl];rfl
def NR:Nat->List PD->List aB->Option (PD×List aB):=entry (eD eT Em.draw Em.bool λl v=>dY (l.length<=1000000) (some (l.any λx=>decide (x=v))))
omit hU in
theorem aMS{l:List cT}{v:cT}{p:PD}(hl:l.length<=1000000)(hp:p.strip=eT.aA l)(fl:Nat)(σ:List aB):NR fl [p,Em.draw.aA v] σ=some (.bool (l.any λx=>decide (x=v)),σ):=by
 have e1:=Em.cO hp;have e2:=Em.cO (Em.draw.str v);unfold NR entry eD;simp only[e1,e2];rw[gO hl];rfl
theorem aJ6(h0:E 148=none)(h1:E 167=some NQ)(l:List cT)(v:cT)(hl:l.length<=1000000):aI prog E 148 [eT.aA l,Em.draw.aA v] (Em.bool.aA (l.any λx=>decide (x=v))):=by
 have hE:=aMR (v:=v) hl;rw[<-OL _ l 0];simp only[aV,CC]at hE;simp only[CC];refine aI.aN 9 h0 func148 (h:=?_);exact wm
theorem aJ8(h0:E 128=none)(h1:E 148=some NR)(rs:List bB)(hrs:rs.length<=1000000)(lo hg:Int)(l:List cT)(hl:l.length<=1000000) :
  aI prog E 128 [.agg [aK.aA rs,.int .i64 lo,.int .i64 hg],eT.aA l] (i64.aA (lX rs.length l)):=by
 unfold lX
 by_cases c:8<l.length
 .have c1:8<(l.length:Int):=by omega
  rw[yAJ c];refine aI.aN 45 h0 func128 (h:=?_);refine aC (A2 @c c1) ?_;exact aa
 have c1:¬8<(l.length:Int):=ye;rw[yAI c];obtain⟨B,hB⟩:=gn (xE rs.length [] l);rw[hB];refine aI.aN 45 h0 func128 (h:=?_);refine aC (A2 @c c1) ?_;obtain⟨X,hX⟩:=gn (aB.box (.agg [.slice (sz 6 rs) (rs.map Em.aG.aA) .any,.int .i64 lo,.int .i64 hg]));refine Wp.cI (λm fr σ=>∃(i:Nat) (σ1:List aB),∃gg:Nat->PD,(i+m=l.length/\σ1[0]?=some X/\xE rs.length (l.take i) (l.drop i)=B)/\fr=[gg 0,eT.aA l,.ptr 0 0,gg 3,gg 4,gg 5,gg 6,gg 7,gg 8,gg 9,eT.aA l,.int .i64 l.length,.int .i64 i,gg 13,gg 14,gg 15,gg 16,gg 17,gg 18,gg 19,gg 20,gg 21,gg 22,gg 23,gg 24,gg 25,gg 26,gg 27,gg 28,gg 29,gg 30,gg 31,gg 32,gg 33,gg 34,gg 35,gg 36,gg 37,gg 38,gg 39,gg 40,gg 41,gg 42,gg 43,gg 44]/\σ=σ1) ?_ (l.length) (by refine⟨0,[X],?_⟩;exact dU (⟨ye,rfl,hB⟩) @hX)
 rintro m fr σ ⟨i,σ1,gg,hI,rfl,rfl⟩
 obtain⟨hm,hx0,hs⟩:=hI
 by_cases hi:i<l.length
 .have q1:(i:Int)<(l.length:Int):=by omega
  obtain⟨a,ha⟩:=gn (l[i]);have hc:l.drop i=a::l.drop (i+1):=yy;rw[hc]at hs;unfold xE at hs;obtain⟨a0,a1⟩:=a;have fI:0<σ.length:=(yA.1 hx0).1;have j0:∀x:aB,(σ++[x])[σ.length]?=some x:=λx=>yg
  have j1:∀x:aB,(σ++[x])[0]?=some X:=λx=>Bf
  rw[<-hX]at j1;have hx1:=hx0;rw[<-hX]at hx1;obtain⟨hltx,hxe⟩:=yA.1 hx1
  by_cases c2:a0<0
  .rw[yAJ (.inl c2)]at hs;subst hs;refine aC (A9 q1 hi ha j0 j1 hx1 fI hxe c2) ?_;exact aa
  by_cases c3:(rs.length:Int)<=a0
  .rw[yAJ (.inr c3)]at hs;subst hs;refine aC (A10 q1 hi ha j0 j1 hx1 fI hxe c2 c3) ?_;exact aa
  rw[yAI (λh=>h.elim c2 c3)]at hs
  by_cases c4:a1 < -127
  .rw[yAJ (.inl c4)]at hs;subst hs;refine aC (A11 q1 hi ha j0 j1 hx1 fI hxe c2 c3 c4) ?_;exact aa
  by_cases c5:127<a1
  .rw[yAJ (.inr c5)]at hs;subst hs;refine aC (A12 q1 hi ha j0 j1 hx1 fI hxe c2 c3 c4 c5) ?_;exact aa
  rw[yAI (λh=>h.elim c4 c5)]at hs;have hsl:(PD.slice (sz 2 l) ((l.map Em.draw.aA).take i) .any).strip=eT.aA (l.take i):=by
   rw[PD.rH,<-yCR,show((l.take i).map Em.draw.aA).map PD.strip=(l.take i).map Em.draw.aA by rw[yBA];exact yAG λx _=>Em.draw.str x];have hne:l≠[]:=λh=>by rw[h]at hi;simp at hi
   rw[aV];simp[sz,hne]
  have hE:=aMS (v:=⟨a0,a1⟩) (l:=l.take i) (p:=PD.slice (sz 2 l) ((l.map Em.draw.aA).take i) .any) Ai hsl;simp only[CC]at hE;have hle:i<=l.length:=ye;have htk:l.take (i+1)=l.take i++[⟨a0,a1⟩]:=Dc;cases hb:(l.take i).any λx=>decide (x=cT.mk a0 a1)with
  |true=>
   rw[hb]at hE hs;rw[yAJ rfl]at hs;subst hs;refine aC xy ?_;exact aa
  |false=>
   rw[hb]at hE hs;rw[yAI yj]at hs;refine aC xy ?_;refine bC.normal (m-1) ye (by refine⟨i+1,σ++[.box (.agg [.int .i64 a0,.int .i64 a1])],?_⟩;exact bG (⟨ye,Bf,by rw[htk];exact hs⟩))
 .have q1:¬(i:Int)<(l.length:Int):=by omega
  rw[yAs ye]at hs;have bQ:B=0:=hs.symm;exact uu
end
section
def y6(r:bB):Prop:=kG r/\kU r.name/\kU r.jQ
def xH:List bB->Int
 | []=>0
 |r::t=>if mK r≠0 then mK r else xH t
def vO(rs:List bB)(lo hg:Int):Int:=if 60<rs.length then 4 else if xH rs≠0 then xH rs else lK lo hg
def JB:Nat->List PD->List aB->Option (PD×List aB):=entry (bZ Em.aG i64 λr=>dY (y6 r) (some (mK r)))
theorem aDl{r:bB}(h:y6 r)(fl:Nat)(σ:List aB):JB fl [Em.aG.aA r] σ=some (.int .i64 (mK r),σ):=by
 have e1:=Em.cO (Em.aG.str r);unfold JB entry bZ;exact jc
def F1:Nat->List PD->List aB->Option (PD×List aB):=entry (bZ Em.cH i64 λx=>some (lK x.1 x.2))
theorem VU(n d:Int)(fl:Nat)(σ:List aB):F1 fl [.agg [.int .i64 n,.int .i64 d]] σ=some (.int .i64 (lK n d),σ):=by
 have e1:Em.cH.dec (.agg [.int .i64 n,.int .i64 d])=some (n,d):=Em.cO rfl;unfold F1 entry bZ;simp only[e1];rfl
variable{E:aE}(hU:aH E)
include hU
theorem aKa(h0:E 127=none)(h1:E 61=some JB)(h2:E 96=some F1)(rs:List bB)(hrs:∀r∈rs,y6 r)(hrl:rs.length<=1000000)(lo hg:Int) :
  aI prog E 127 [.agg [aK.aA rs,.int .i64 lo,.int .i64 hg]] (i64.aA (vO rs lo hg)):=by
 unfold vO
 by_cases c:60<rs.length
 .have c1:60<(rs.length:Int):=by omega
  rw[yAJ c];refine aI.aN 26 h0 func127 (h:=?_);refine aC (A2 @c c1) ?_;exact aa
 have c1:¬60<(rs.length:Int):=ye;rw[yAI c];obtain⟨B,hB⟩:=gn ((if xH rs≠0 then xH rs else lK lo hg));rw[hB];have hC:=VU lo hg;refine aI.aN 26 h0 func127 (h:=?_);refine aC (A2 @c c1) ?_;obtain⟨X,hX⟩:=gn (aB.box (.agg [.slice (sz 6 rs) (rs.map Em.aG.aA) .any,.int .i64 lo,.int .i64 hg]));refine Wp.cI (λm fr σ=>∃(i:Nat) (σ1:List aB),∃gg:Nat->PD,(i+m=rs.length/\σ1[0]?=some X/\(if xH (rs.drop i)≠0 then xH (rs.drop i)else lK lo hg)=B)/\fr=[gg 0,.ptr 0 0,gg 2,gg 3,gg 4,gg 5,gg 6,gg 7,gg 8,gg 9,gg 10,aK.aA rs,.int .i64 rs.length,.int .i64 i,gg 14,gg 15,gg 16,gg 17,gg 18,gg 19,gg 20,gg 21,gg 22,gg 23,gg 24,gg 25]/\σ=σ1) ?_ (rs.length) (by refine⟨0,[X],?_⟩;exact dU (⟨ye,rfl,hB⟩) @hX)
 rintro m fr σ ⟨i,σ1,gg,hI,rfl,rfl⟩
 obtain⟨hm,hx0,hs⟩:=hI;have hx1:=hx0;rw[<-hX]at hx1;obtain⟨fI,hxe⟩:=yA.1 hx1
 by_cases hi:i<rs.length
 .have q1:(i:Int)<(rs.length:Int):=by omega
  obtain⟨a,ha⟩:=gn (rs[i]);have hc:rs.drop i=a::rs.drop (i+1):=yy;rw[hc]at hs;unfold xH at hs;have hE:=aDl (hrs a (ha▸yAm hi));have j0:∀x:aB,(σ++[x])[σ.length]?=some x:=λx=>yg
  obtain⟨e,he⟩:=gn (mK a);rw[he]at hE hs;simp only[oD,aV]at hE
  by_cases c2:e=0
  .subst c2;simp only[ne_eq,yBL,yAN]at hs;refine aC (A6 q1 hi ha j0 h1 hE) ?_;refine bC.normal (m-1) ye (by refine⟨i+1,σ++[.box (.agg [.str a.name,.str a.jQ,.int .i64 a.num,.int .i64 a.den,.int .i64 a.first,.slice (sz 1 a.nM) (a.nM.map i64.aA) .any])],?_⟩;exact bG (⟨ye,Bf,hs⟩))
  .simp only[ne_eq,c2,yCz,yAK]at hs;subst hs;refine aC (A7 q1 hi ha j0 h1 hE c2) ?_;exact aa
 .have q1:¬(i:Int)<(rs.length:Int):=by omega
  rw[yAs ye]at hs;have hs2:lK lo hg=B:=hs;rw[hs2]at hC;refine aC (A6 q1 hx1 fI hxe h2 hC) ?_;exact aa
end
end Go.Kz
namespace Go.Kz
section
open Go
section
variable{P:Program}{call:bY}{fl:Nat}{ops:Fc}{l:List Oper}{fr aQ:Ey}{σ σ1:Ex}{K:List PD->List aB->Prop}
variable{dst:Option Tmp}{x y z:Operand}{t ty:TypeId}{pos:String}{edges:Array Edge}{guard:Option (Nat×Bool)}{p q v r:PD}{ok:Bool}
theorem SL.lookup(hw:Wt (Region.wanted ⟨dst,.lookup t x y ok,ty,pos,edges,guard⟩ (bM ops fr)=true))(hx:bV fr x=some p)(hy:bV fr y=some q)(hr:By (FE P σ t p q ok=some r))(hf:Fr (aW fr dst r=aQ))(k:SQ P call fl ops l aQ σ K) :
  SQ P call fl ops (⟨dst,.lookup t x y ok,ty,pos,edges,guard⟩::l) fr σ K:=
 .step hw.h (wM rfl rfl (by simp only[cJ,eA hx,eA hy,hr.h])) (hf.h▸k)
theorem SL.mapUpdate(hw:Wt (Region.wanted ⟨dst,.mapUpdate t x y z,ty,pos,edges,guard⟩ (bM ops fr)=true))(hx:bV fr x=some p)(hy:bV fr y=some q)(hz:bV fr z=some v)(hr:By (FF P fl σ t p q v=some σ1))(hf:Fr (aW fr dst (.aP [])=aQ))(k:SQ P call fl ops l aQ σ1 K) :
  SQ P call fl ops (⟨dst,.mapUpdate t x y z,ty,pos,edges,guard⟩::l) fr σ K:=
 .step hw.h (wM rfl rfl (by simp only[cJ,eA hx,eA hy,eA hz,hr.h])) (hf.h▸k)
theorem SL.makeMap{kt e:TypeId}(hw:Wt (Region.wanted ⟨dst,.makeMap t none,ty,pos,edges,guard⟩ (bM ops fr)=true))(hx:By (P.underlying t=some (.map kt e)))(hr:Ns (σ++[.map []]=σ1)){n:Nat}(hn:Ns (σ.length=n))(hf:Fr (aW fr dst (.eO n)=aQ))(k:SQ P call fl ops l aQ σ1 K) :
  SQ P call fl ops (⟨dst,.makeMap t none,ty,pos,edges,guard⟩::l) fr σ K:=by
 obtain⟨rfl⟩:=hr.h;obtain⟨rfl⟩:=hn.h;exact .step hw.h (wM rfl rfl (by simp only[cJ,hx.h])) (hf.h▸k)
end
theorem lL{X R G:Prop}(gx:X)(r:R)(h:X->Hd R->G:=by
  (intro gx hh
   (repeat(first
    |(refine Fr.i ?_;simp only[aW,yAY,yAZ];try rfl)
    |(refine By.i ?_;(focus(simp(disch:=first|omega|(simp;done)|(simp;omega)) [wrap_i64,wrap_u64,gx,entry,uV,bZ,eD,wH];first|done|rfl|exact⟨rfl,rfl⟩)))
    |(refine By.i ?_;simp(disch:=first|omega|(simp;done)|(simp;omega)) [wrap_i64,wrap_u64,gx,entry,uV,bZ,eD,wH];refine⟨ze,rfl⟩)
    |(refine Wt.i ?_;first|rfl|(focus(simp[gx,entry,uV,bZ,eD,wH];done)))
    |(refine Ns.i ?_;(try simp only[yAl,yAO,yAQ,yAi,yAa,yAS,yAT,yAp,Nat.reduceAdd]);rfl)|rfl
    |(apply SL.pass;(focus(refine Wt.i ?_;rfl)))|(apply SL.aFI;(focus decide +kernel))|(apply tv;(focus rfl))|apply SL.move|apply SL.assign|apply SL.load|apply SL.uW|apply tv|apply SL.make
    |apply SL.binOp|apply SL.append|apply tv|apply SL.builtin|apply SL.fieldAddr|apply SL.indexAddr|apply tv|apply SL.extract|apply SL.uX|apply SL.pick|apply SL.store|apply SL.unOp|apply SL.convert|apply SL.index
    |apply SL.slice|apply SL.build|apply tv|apply SL.buildSlice|apply SL.box|apply SL.alloc|apply SL.makeFunc|apply SL.lookup|apply SL.mapUpdate|apply SL.makeMap|apply SQ.nil|(apply WL.CD;(focus decide +kernel))
    |(apply WL.AD yp;(focus decide +kernel);(focus decide +kernel))|(apply tv;(focus decide +kernel);(focus decide +kernel))|(apply WL.HB;(focus decide +kernel))
    |(apply WL.HC yp;(focus decide +kernel);(focus decide +kernel))|(apply WL.HD;(focus decide +kernel);(focus decide +kernel))|(apply tv yp;(focus decide +kernel);(focus decide +kernel))
    |(apply WL.HF yp;(focus decide +kernel);(focus decide +kernel))|(apply WL.HG yp;(focus decide +kernel);(focus decide +kernel))
    |(apply tv yp;(focus decide +kernel);(focus decide +kernel))|apply tv|(apply WL.ct;(focus rfl))|(apply WL.cf;(focus rfl))|refine gG.normal ?_|refine gG.ret ?_|refine gG.exit ?_
    |refine iP.normal ?_|refine iP.ret ?_|refine iP.here ?_|refine tv yj ?_|refine Wp.block ?_|refine Wp.skip ?_|refine Wp.ret ?_|refine Wp.exit ?_|refine bC.ret ?_|refine bC.exit ?_
    |refine mD.normal ?_|refine tv ?_|refine mD.exit ?_|refine Wp.seq (Wp.seq ?_)|refine Wp.seq (Wp.block ?_)|(refine Wp.seq ?_;apply WL.ct;(focus rfl))|(refine Wp.seq ?_;apply WL.cf;(focus rfl))))
   exact hh.out)):G:=h gx ⟨r⟩
end
end Go.Kz
namespace Go.Kz
open Go Go.Proofs
section
def DL(pv:Option Int)(n:Int):Bool:=match pv with|none=>false|some t=>decide (n<=t)
def xG(k:Nat)(lo hg:Int):Option Int->List gL->Int
 |_,[]=>0
 |pv,g::r=>if min g.lo g.hi<lo\/hg<max g.lo g.hi then 23 else if g.hi<g.lo\/DL pv g.lo=true then 6 else if lX k g.aT≠0 then lX k g.aT else xG k lo hg (some g.hi) r
def J3(l:List gL):Nat->Option Int
 |0=>none
 |j+1=>(l[j]?).map gL.hi
def xF(k:Nat)(lo hg:Int)(l:List gL):Int:=if l.length=0 then 13 else if 12<l.length then 4 else xG k lo hg none l
def qW(rs:List bB)(lo hg:Int)(s:bU):Int:=
 if vO rs lo hg≠0 then vO rs lo hg else if dV s.name=false then 8 else if qX s.num s.den≠0 then qX s.num s.den else xF rs.length lo hg s.aO
def bE.place:bE (List bB×Int×Int):=((bE.one aK).pair ((bE.one i64).pair (.one i64))).lM (λr=>(r.1,r.2.1,r.2.2)) (λx y h=>by obtain⟨_,_,_⟩:=x;obtain⟨_,_,_⟩:=y;simpa using h)
def Em.place:Em (List bB×Int×Int):=.agg .place
@[simp] theorem VT{r:List bB×Int×Int}:Em.place.aA r=.agg [aK.aA r.1,.int .i64 r.2.1,.int .i64 r.2.2]:=rfl
def zP(rs:List bB):Prop:=(∀r∈rs,y6 r)/\rs.length<=1000000
def NT:Nat->List PD->List aB->Option (PD×List aB):=entry (bZ Em.place i64 λx=>dY (zP x.1) (some (vO x.1 x.2.1 x.2.2)))
theorem aMP{rs:List bB}(h:zP rs)(lo hg:Int)(fl:Nat)(σ:List aB):NT fl [.agg [aK.aA rs,.int .i64 lo,.int .i64 hg]] σ=some (.int .i64 (vO rs lo hg),σ):=by
 have e1:=Em.cO (Em.place.str (rs,lo,hg));rw[VT]at e1;unfold NT entry bZ;exact jc
def NS:Nat->List PD->List aB->Option (PD×List aB):=entry (eD Em.place eT i64 λx l=>dY (x.1.length<=1000000/\l.length<=1000000) (some (lX x.1.length l)))
theorem aMQ{rs:List bB}{l:List cT}(h:rs.length<=1000000)(hl:l.length<=1000000)(lo hg:Int)(fl:Nat)(σ:List aB):NS fl [.agg [aK.aA rs,.int .i64 lo,.int .i64 hg],eT.aA l] σ=some (.int .i64 (lX rs.length l),σ):=by
 have e1:=Em.cO (Em.place.str (rs,lo,hg));rw[VT]at e1;have e2:=Em.cO (eT.str l);unfold NS entry eD;simp only[e1,e2];rw[gO ⟨h,hl⟩];rfl
variable{E:aE}(hU:aH E)
include hU
theorem aKc(h0:E 97=none)(h1:E 127=some NT)(h2:E 60=some DC)(h3:E 93=some JA)(h4:E 128=some NS)(rs:List bB)(hrs:zP rs)(lo hg:Int)(s:bU)(hs:mA s)(hn:kU s.name) :
  aI prog E 97 [.agg [aK.aA rs,.int .i64 lo,.int .i64 hg],Em.stop.aA s] (i64.aA (qW rs lo hg s)):=by
 obtain⟨n,a,b,l⟩:=s;have e1:=aMP hrs lo hg;have e2:=GF hn;have e3:=aDt a b;have hl:l.length<=1000000:=hs.1;unfold qW;obtain⟨p,hp⟩:=gn (vO rs lo hg);obtain⟨q,hq⟩:=gn (qX a b);rw[hp]at e1 ⊢;simp only[aV]at e1;simp only[hq]at e3 ⊢;simp only[qE,aV]
 by_cases c1:p=0
 rotate_left
 .rw[yAJ c1];refine aI.aN 94 h0 func97 (h:=?_);refine aC (A3 h1 e1 c1) ?_;exact aa
 subst c1;simp only[ne_eq,yBL,yAN];cases c2:dV n with
 |false=>
  simp only at e2;rw[c2]at e2;rw[yAJ rfl];refine aI.aN 94 h0 func97 (h:=?_);refine aC (A4 h1 h2 e1 e2) ?_;exact aa
 |true=>
 simp only at e2;rw[c2]at e2;rw[yAI yg]
 by_cases c3:q=0
 rotate_left
 .rw[yAJ c3];refine aI.aN 94 h0 func97 (h:=?_);refine aC (A7 h1 h2 h3 e1 e2 e3 c3) ?_;exact aa
 subst c3;simp only[yBL,yAN];unfold xF
 by_cases c4:l.length=0
 .rw[yAJ c4];have c6:l=[]:=yAf c4;subst c6;refine aI.aN 94 h0 func97 (h:=?_);refine aC (A6 h1 h2 h3 e1 e2 e3) ?_;exact aa
 rw[yAI c4];have rV:¬l=[]:=λh=>c4 Ah
 by_cases c5:12<l.length
 .rw[yAJ c5];have c6:12<(l.length:Int):=ye;refine aI.aN 94 h0 func97 (h:=?_);refine aC (A10 h1 h2 h3 e1 e2 e3 c4 rV c5 c6) ?_;exact aa
 rw[yAI c5];have c6:¬12<(l.length:Int):=ye;obtain⟨B,hB⟩:=gn (xG rs.length lo hg none l);rw[hB];refine aI.aN 94 h0 func97 (h:=?_);refine aC (A10 h1 h2 h3 e1 e2 e3 c4 rV c5 c6) ?_;obtain⟨X,hX⟩:=gn (aB.box (.agg [.slice (sz 6 rs) (rs.map Em.aG.aA) .any,.int .i64 lo,.int .i64 hg]));obtain⟨Y,hY⟩:=gn (aB.box (.agg [.str n,.int .i64 a,.int .i64 b,.slice (sz 3 l) (l.map Em.eU.aA) .any]));refine Wp.cI (λm fr σ=>∃(i:Nat) (σ1:List aB),∃gg:Nat->PD,(i+m=l.length/\σ1[0]?=some X/\σ1[1]?=some Y/\xG rs.length lo hg (J3 l i) (l.drop i)=B)/\fr=gg 0::gg 1::.ptr 0 0::.ptr 1 0::gg 4::gg 5::gg 6::gg 7::gg 8::gg 9::gg 10::gg 11::gg 12::gg 13::gg 14::gg 15::gg 16::gg 17::gg 18::gg 19::gg 20::gg 21::gg 22::gg 23::gg 24::gg 25::gg 26::gg 27::gg 28::gg 29::gg 30::gg 31::gg 32::gg 33::gg 34::gg 35::mS.aA l::.int .i64 l.length::.int .i64 i::gg 39::gg 40::gg 41::gg 42::gg 43::gg 44::gg 45::gg 46::gg 47::gg 48::gg 49::gg 50::gg 51::gg 52::gg 53::gg 54::gg 55::gg 56::gg 57::gg 58::gg 59::gg 60::gg 61::gg 62::gg 63::gg 64::gg 65::gg 66::gg 67::gg 68::gg 69::gg 70::gg 71::gg 72::gg 73::gg 74::gg 75::gg 76::gg 77::gg 78::gg 79::gg 80::gg 81::gg 82::gg 83::gg 84::gg 85::gg 86::gg 87::gg 88::gg 89::gg 90::gg 91::gg 92::gg 93::[]/\σ=σ1) ?_ (l.length) (by refine⟨0,[X,Y],?_⟩;exact dU (⟨ye,rfl,rfl,hB⟩) (A2 hX hY))
 rintro m fr σ ⟨i,σ1,gg,hI,rfl,rfl⟩
 obtain⟨hm,hx0,hy0,hs2⟩:=hI
 by_cases hi:i<l.length
 .have q1:(i:Int)<(l.length:Int):=by omega
  obtain⟨g,fN⟩:=gn (l[i]);have hc:l.drop i=g::l.drop (i+1):=by rw[yAq hi,fN]
  have hpv:J3 l (i+1)=some g.hi:=by
   show(l[i]?).map gL.hi=_
   rw[yAh hi,fN];rfl
  rw[hc]at hs2;unfold xG at hs2;have hgm:g∈l:=fN▸yAm hi
  have hgl:g.aT.length<=1000000:=hs.2 g hgm;have hD:=aMQ hrs.2 hgl lo hg;have hx1:=hx0;have hy1:=hy0;rw[<-hX]at hx1;rw[<-hY]at hy1;obtain⟨fI,hxe⟩:=yA.1 hx1;obtain⟨j7,hye⟩:=yA.1 hy1;obtain⟨g0,g1,gd⟩:=g;simp only[aV]at hD;simp only at hs2 hpv hgl hD;have j0:∀x:aB,(σ++[x])[σ.length]?=some x:=λx=>yg
  obtain⟨MN,hMN⟩:=gn (min g0 g1);obtain⟨MX,hMX⟩:=gn (max g0 g1);have hmn:(if g1<g0 then g1 else g0)=MN:=by rw[<-hMN];split<;>omega
  have hmx:(if g0<g1 then g1 else g0)=MX:=by rw[<-hMX];split<;>omega
  rw[hMN,hMX]at hs2
  by_cases c7:MN<lo
  .rw[yAJ (.inl c7)]at hs2;subst hs2;refine aC (A13 q1 hi fN j0 hx1 hy1 fI j7 hxe hye hmn hmx c7) ?_;exact aa
  by_cases c8:hg<MX
  .rw[yAJ (.inr c8)]at hs2;subst hs2;refine aC (A14 q1 hi fN j0 hx1 hy1 fI j7 hxe hye hmn hmx c7 c8) ?_;exact aa
  rw[yAI (λh=>h.elim c7 c8)]at hs2
  by_cases c9:g1<g0
  .rw[yAJ (.inl c9)]at hs2;subst hs2;have DR:¬g0<g1:=ye;have d7:¬g1<lo:=ye;have d8:¬hg<g0:=ye;refine aC (A14 q1 hi fN j0 hx1 hy1 fI j7 hxe hye c9 DR @d7 @d8) ?_;exact aa
  have d7:¬g0<lo:=ye;have d8:¬hg<g1:=ye;have hm2:(if g0<g1 then g1 else g0)=g1:=by split<;>omega
  clear hmn hmx hMN hMX c7 c8;obtain⟨dr,hdr⟩:=gn (lX rs.length gd);rw[hdr]at hD hs2;obtain⟨Z,hZ⟩:=gn (aB.box (.agg [.int .i64 g0,.int .i64 g1,.slice (sz 2 gd) (gd.map Em.draw.aA) .any]))
  by_cases ci:i=0
  .subst ci;rw[show J3 l 0=none from rfl,yAI (λh=>h.elim c9 (by simp[DL]))]at hs2
   by_cases tD:dr=0
   .subst tD;simp only[ne_eq,yBL,yAN]at hs2;refine aC (A16 q1 hi fN j0 hx1 hy1 fI j7 hxe hye c9 hm2 @d7 @d8 h4 hD) ?_;refine bC.normal (m-1) ye (by refine⟨1,σ++[Z],?_⟩;exact dU (⟨ye,Bf,by rw[yAg j7];exact hy0,by rw[show J3 l 1=some g1 from hpv];exact hs2⟩) @hZ)
   .simp only[ne_eq,tD,yCz,yAK]at hs2;subst hs2;refine aC (A17 q1 hi fN j0 hx1 hy1 fI j7 hxe hye c9 hm2 @d7 @d8 h4 hD tD) ?_;exact aa
  .obtain⟨j,hji⟩:∃j,i=j+1:=⟨i-1,ye⟩;have hj:j<l.length:=ye;obtain⟨p,qL⟩:=gn (l[j]);have hpo:J3 l i=some p.hi:=by
    rw[hji];show(l[j]?).map gL.hi=_
    rw[yAh hj,qL];rfl
   rw[hpo]at hs2;obtain⟨p0,p1,pd⟩:=p;have w1:IntKind.i64.wrap ((i:Int)-1)=(j:Int):=ym;have q3:0<i:=ye
   by_cases xK:g0<=p1
   .rw[yAJ (.inr (by simpa [DL]using xK))]at hs2;subst hs2;refine aC (A19 q1 hi fN j0 hx1 hy1 fI j7 hxe hye c9 hm2 @d7 @d8 q3 w1 hj qL xK) ?_;exact aa
   rw[yAI (λh=>h.elim c9 (by simpa [DL]using xK))]at hs2
   by_cases tD:dr=0
   .subst tD;simp only[ne_eq,yBL,yAN]at hs2;refine aC (A20 q1 hi fN j0 hx1 hy1 fI j7 hxe hye c9 hm2 @d7 @d8 h4 hD q3 w1 hj (A2 qL xK)) ?_;refine bC.normal (m-1) ye (by refine⟨i+1,σ++[Z],?_⟩;exact dU (⟨ye,Bf,by rw[yAg j7];exact hy0,by rw[hpv];exact hs2⟩) @hZ)
   .simp only[ne_eq,tD,yCz,yAK]at hs2;subst hs2;refine aC (A20 q1 hi fN j0 hx1 hy1 fI j7 hxe hye c9 hm2 @d7 @d8 h4 hD q3 w1 hj (A3 qL xK tD)) ?_;exact aa
 .have q1:¬(i:Int)<(l.length:Int):=by omega
  rw[yAs ye]at hs2;have bQ:B=0:=hs2.symm;exact uu
end
end Go.Kz
end
