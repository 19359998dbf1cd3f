/- Steps of the proof. -/
import Derived.Test.YteegpeenjdgodaaGreatDoorG5
set_option linter.all false
set_option maxHeartbeats 40000000
set_option maxRecDepth 100000
open Go.Proofs.Tryz
noncomputable section
namespace Go.Kz
open Go Go.Proofs
section
variable{E:aE}(hU:aH E)
include hU
theorem aLQ(h0:E 57=none)(h1:E 88=some (eU fN zA))(a b:bW)(hx:iV a)(hy:iV b):aJ prog E 57 [Em.stop.aA a,Em.stop.aA b] (Em.bool.aA (decide (a=b))):=by
 obtain⟨a0,a1,a2,a3⟩:=a;obtain⟨b0,b1,b2,b3⟩:=b;simp only[pV,aW];refine aJ.aN 66 h0 func57 (h:=?_)
 by_cases e0:a0=b0
 rotate_left
 .have f0:(a0==b0)=false:=by simpa using e0
  refine aC (A2 @e0 @f0) ?_;exact uj
 by_cases e1:a1=b1
 rotate_left
 .refine aC (A2 @e0 e1) ?_;exact uk
 by_cases e2:a2=b2
 rotate_left
 .refine aC (A3 @e0 e1 e2) ?_;exact um
 by_cases hq:a3.length=b3.length
 rotate_left
 .have cX:¬(a3.length:Int)=(b3.length:Int):=by omega
  have hF:=rX hq;have hne:¬a3=b3:=by simpa using hF
  refine aC (A5 @e0 e1 e2 @hq cX) ?_;simp(disch:=first|omega|(simp;done)|(simp;omega)) [yAu,bW.mk.injEq,hne]<;>try rfl
 have cX:(a3.length:Int)=(b3.length:Int):=Ah;obtain⟨B,hB⟩:∃B,decide (a3=b3)=B:=⟨_,rfl⟩;rw[show decide ((⟨a0,a1,a2,a3⟩:bW)=⟨b0,b1,b2,b3⟩)=B by rw[<-hB];simp[e0,e1,e2]];have hx1:a3.length<=1000000:=hx.1;refine aC (A5 @e0 e1 e2 @hq cX) ?_;refine Wp.cZ (λm fr σ=>∃(i:Nat) (σ1:List aB),∃gg:Nat->PD,(i+m=a3.length/\decide (a3.drop i=b3.drop i)=B)/\fr=gg 0::gg 1::.ptr 0 0::.ptr 1 0::.bool false::.int .i64 i::gg 6::gg 7::gg 8::gg 9::gg 10::gg 11::gg 12::gg 13::gg 14::gg 15::gg 16::gg 17::gg 18::gg 19::gg 20::gg 21::gg 22::gg 23::gg 24::gg 25::gg 26::gg 27::gg 28::gg 29::gg 30::gg 31::gg 32::gg 33::gg 34::gg 35::gg 36::gg 37::gg 38::gg 39::gg 40::gg 41::gg 42::gg 43::gg 44::gg 45::gg 46::gg 47::gg 48::gg 49::gg 50::gg 51::gg 52::gg 53::gg 54::gg 55::gg 56::gg 57::gg 58::gg 59::gg 60::gg 61::gg 62::gg 63::gg 64::gg 65::[]/\σ=.box (.agg [.str a0,.int .i64 a1,.int .i64 a2,.slice (sz 3 a3) (a3.map Em.eZ.aA) .any])::.box (.agg [.str b0,.int .i64 b1,.int .i64 b2,.slice (sz 3 b3) (b3.map Em.eZ.aA) .any])::σ1) ?_ (a3.length) (by refine⟨0,[],?_⟩;exact j6 (⟨Ah,hB⟩) Ak Ak)
 rintro m fr σ ⟨i,σ1,gg,hI,rfl,rfl⟩
 obtain⟨hm,hs⟩:=hI
 by_cases hi:i<a3.length
 .have q1:(i:Int)<(a3.length:Int):=by omega
  have hir:i<b3.length:=Ah;have q2:(i:Int)<(b3.length:Int):=Ah;obtain⟨a,ha⟩:=gn (a3[i]);obtain⟨b,hb⟩:=gn (b3[i]);have dY:a3.drop i=a::a3.drop (i+1):=At;have hc2:b3.drop i=b::b3.drop (i+1):=Bm;rw[dY,hc2,rW]at hs;have ka:vO a:=hx.2 a (ha▸yAm hi);have kb:vO b:=hy.2 b (hb▸yAm hir);obtain⟨x0,x1,x2⟩:=a;obtain⟨y0,y1,y2⟩:=b;have hE:=λfl σ=>mM (a:=fN) (R:=zA) (x:=x2) (y:=y2) ka kb fl σ
  simp only[aW]at hE;have j0:∀x y:aB,(σ1++[x,y])[σ1.length]?=some x:=λx y=>Ai
  have j1:∀x y:aB,(σ1++[x,y])[σ1.length+1]?=some y:=λx y=>Ai
  have hseg:∀D,decide (x2=y2)=D->decide ((⟨x0,x1,x2⟩:iU)=⟨y0,y1,y2⟩)=(decide (x0=y0)&&(decide (x1=y1)&&D)):=λD hD=>by
   rw[<-hD]
   by_cases e0:x0=y0<;>by_cases e1:x1=y1<;>by_cases e2:x2=y2<;>simp[e0,e1,e2]
  obtain⟨D,hD⟩:∃D,decide (x2=y2)=D:=⟨_,rfl⟩;rw[hseg D hD]at hs;rw[hD]at hE;refine aC (A6 q1 q2 hi hir ha @hb) ?_
  first|apply Wp.aOQ Bl [(41,6),(44,6)] Ao|apply tv Bl [(41,6),(44,6)] Ao
  refine oU (A6 q1 q2 hi hir ha @hb) ?_;apply SQ.nil;refine⟨(by simp[K3,fU]<;>omega),?_⟩
  by_cases e0:x0=y0
  rotate_left
  .rw[yBd e0,yBa,yBa]at hs;have bY:B=false:=hs.symm
   first|refine Wp.seq ?_|skip
   apply Wp.mZ;refine kH (A3 j0 j1 @e0) ?_;exact yo
  rw[yAY e0,yBt]at hs
  by_cases e1:x1=y1
  rotate_left
  .rw[yBd e1,yBa,yBa]at hs;have bY:B=false:=hs.symm
   first|refine Wp.seq ?_|skip
   apply Wp.mZ;refine kH (A4 j0 j1 @e0 e1) ?_;exact yo
  rw[yAY e1,yBt]at hs;cases D with
  |false=>
   have bY:B=false:=hs.symm
   first|refine Wp.seq ?_|skip
   apply Wp.mZ;refine kH (A6 j0 j1 @e0 e1 h1 hE) ?_;exact yo
  |true=>
   rw[yBt]at hs
   first|refine Wp.seq ?_|skip
   apply Wp.mZ;refine kH (A6 j0 j1 @e0 e1 h1 hE) ?_;apply SQ.nil;refine aC trivial ?_;refine bV.normal (m-1) Ah ⟨i+1,_,cF (⟨Ah,hs⟩)⟩
 .have q1:¬(i:Int)<(a3.length:Int):=by omega
  exact wm
theorem aLS(h0:E 38=none)(h1:E 57=some (eU Em.stop iV))(a b:bD)(hx:fY a)(hy:fY b):aJ prog E 38 [Em.div.aA a,Em.div.aA b] (Em.bool.aA (decide (a=b))):=by
 obtain⟨a0,a1,a2,a3,a4⟩:=a;obtain⟨b0,b1,b2,b3,b4⟩:=b;simp only[lX,aW];refine aJ.aN 53 h0 func38 (h:=?_)
 by_cases e0:a0=b0
 rotate_left
 .have f0:(a0==b0)=false:=by simpa using e0
  refine aC (A2 @e0 @f0) ?_;exact uo
 by_cases e1:a1=b1
 rotate_left
 .have f1:(a1==b1)=false:=by simpa using e1
  refine aC (A3 @e0 e1 @f1) ?_;exact uq
 by_cases e2:a2=b2
 rotate_left
 .refine aC (A3 @e0 e1 e2) ?_;exact ur
 by_cases e3:a3=b3
 rotate_left
 .refine aC (A4 @e0 e1 e2 e3) ?_;exact uu
 by_cases hq:a4.length=b4.length
 rotate_left
 .have cX:¬(a4.length:Int)=(b4.length:Int):=by omega
  have hF:=rX hq;have hne:¬a4=b4:=by simpa using hF
  refine aC (A6 @e0 e1 e2 e3 @hq cX) ?_;simp(disch:=first|omega|(simp;done)|(simp;omega)) [yAu,bD.mk.injEq,hne]<;>try rfl
 have cX:(a4.length:Int)=(b4.length:Int):=Ah;obtain⟨B,hB⟩:∃B,decide (a4=b4)=B:=⟨_,rfl⟩;rw[show decide ((⟨a0,a1,a2,a3,a4⟩:bD)=⟨b0,b1,b2,b3,b4⟩)=B by rw[<-hB];simp[e0,e1,e2,e3]];have hx1:a4.length<=1000000:=hx.1;refine aC (A6 @e0 e1 e2 e3 @hq cX) ?_;refine Wp.cZ (λm fr σ=>∃(i:Nat),∃gg:Nat->PD,(i+m=a4.length/\decide (a4.drop i=b4.drop i)=B)/\fr=[gg 0,gg 1,.ptr 0 0,.ptr 1 0,.bool false,.int .i64 i,gg 6,gg 7,gg 8,gg 9,gg 10,gg 11,gg 12,gg 13,gg 14,gg 15,gg 16,gg 17,gg 18,gg 19,gg 20,gg 21,gg 22,gg 23,gg 24,gg 25,gg 26,gg 27,gg 28,gg 29,gg 30,gg 31,gg 32,gg 33,gg 34,gg 35,gg 36,gg 37,gg 38,gg 39,gg 40,gg 41,gg 42,gg 43,gg 44,gg 45,gg 46,gg 47,gg 48,gg 49,gg 50,gg 51,gg 52]/\σ=[.box (.agg [.str a0,.bool a1,.int .i64 a2,.int .i64 a3,.slice (sz 4 a4) (a4.map Em.stop.aA) .any]),.box (.agg [.str b0,.bool b1,.int .i64 b2,.int .i64 b3,.slice (sz 4 b4) (b4.map Em.stop.aA) .any])]) ?_ (a4.length) (by refine⟨0,?_⟩;exact j6 (⟨Ah,hB⟩) Ak Ak)
 rintro m fr σ ⟨i,gg,hI,rfl,rfl⟩
 obtain⟨hm,hs⟩:=hI
 by_cases hi:i<a4.length
 .have q1:(i:Int)<(a4.length:Int):=by omega
  have hir:i<b4.length:=Ah;have q2:(i:Int)<(b4.length:Int):=Ah;obtain⟨a,ha⟩:=gn (a4[i]);obtain⟨b,hb⟩:=gn (b4[i]);have dY:a4.drop i=a::a4.drop (i+1):=At;have hc2:b4.drop i=b::b4.drop (i+1):=Bm;rw[dY,hc2,rW]at hs;have ka:iV a:=hx.2 a (ha▸yAm hi);have kb:iV b:=hy.2 b (hb▸yAm hir);have hE:=λfl σ=>mM (a:=Em.stop) ka kb fl σ
  simp only[pV,aW]at hE
  by_cases e:a=b
  .exact yu
  .rw[yBd e,yBa]at hs;rw[yBd e]at hE;have bY:B=false:=hs.symm;refine aC (A8 q1 q2 hi hir ha @hb h1 hE) ?_;exact aq
 .have q1:¬(i:Int)<(a4.length:Int):=by omega
  exact wm
theorem aLU(h0:E 15=none)(h1:E 37=some (eU Em.aG fX))(h2:E 38=some (eU Em.div fY))(a b:aP)(hx:gG a)(hy:gG b) :
  aJ prog E 15 [Em.bM.aA a,Em.bM.aA b] (Em.bool.aA (decide (a=b))):=by
 obtain⟨a0,a1,a2,a3⟩:=a;obtain⟨b0,b1,b2,b3⟩:=b;simp only[gF,aW];refine aJ.aN 96 h0 func15 (h:=?_)
 by_cases e0:a0=b0
 rotate_left
 .have f0:(a0==b0)=false:=by simpa using e0
  refine aC (A2 @e0 @f0) ?_;exact uv
 by_cases l1:a1.length=b1.length
 rotate_left
 .have cX:¬(a1.length:Int)=(b1.length:Int):=by omega
  have hne:¬a1=b1:=by simpa using rX l1
  refine aC (A3 @e0 l1 cX) ?_;exact jl
 by_cases l2:a2.length=b2.length
 rotate_left
 .have cX:¬(a2.length:Int)=(b2.length:Int):=by omega
  have hne:¬a2=b2:=by simpa using rX l2
  refine aC (A4 @e0 l1 l2 cX) ?_;exact jl
 by_cases l3:a3.length=b3.length
 rotate_left
 .have cX:¬(a3.length:Int)=(b3.length:Int):=by omega
  have hne:¬a3=b3:=by simpa using rX l3
  refine aC (A5 @e0 l1 l2 l3 cX) ?_;exact jl
 obtain⟨B1,II⟩:∃B,decide (a1=b1)=B:=⟨_,rfl⟩;obtain⟨B2,bY⟩:∃B,decide (a2=b2)=B:=⟨_,rfl⟩;obtain⟨B3,C3⟩:∃B,decide (a3=b3)=B:=⟨_,rfl⟩;rw[show decide ((⟨a0,a1,a2,a3⟩:aP)=⟨b0,b1,b2,b3⟩)=(B1&&(B2&&B3)) by
  rw[<-II,<-bY,<-C3]
  by_cases f1:a1=b1<;>by_cases f2:a2=b2<;>by_cases f3:a3=b3<;>simp[e0,f1,f2,f3]]
 have hx1:a1.length<=1000000:=hx.1.1;have hx2:a2.length<=1000000:=hx.2.1.1;have hx3:a3.length<=1000000:=hx.2.2;refine aC (A4 @e0 l1 l2 l3) ?_;refine Wp.cZ (λm fr σ=>∃(i:Nat),∃gg:Nat->PD,(i+m=a1.length/\decide (a1.drop i=b1.drop i)=B1)/\fr=gg 0::gg 1::.ptr 0 0::.ptr 1 0::.bool false::.int .i64 i::gg 6::gg 7::gg 8::gg 9::gg 10::gg 11::gg 12::gg 13::gg 14::gg 15::gg 16::gg 17::gg 18::gg 19::gg 20::gg 21::gg 22::gg 23::gg 24::gg 25::gg 26::gg 27::gg 28::gg 29::gg 30::gg 31::gg 32::gg 33::gg 34::gg 35::gg 36::gg 37::gg 38::gg 39::gg 40::gg 41::gg 42::gg 43::gg 44::gg 45::gg 46::gg 47::gg 48::gg 49::gg 50::gg 51::gg 52::gg 53::gg 54::gg 55::gg 56::gg 57::gg 58::gg 59::gg 60::gg 61::gg 62::gg 63::gg 64::gg 65::gg 66::gg 67::gg 68::gg 69::gg 70::gg 71::gg 72::gg 73::gg 74::gg 75::gg 76::gg 77::gg 78::gg 79::gg 80::gg 81::gg 82::gg 83::gg 84::gg 85::gg 86::gg 87::gg 88::gg 89::gg 90::gg 91::gg 92::gg 93::gg 94::gg 95::[]/\σ=[.box (.agg [.str a0,.slice (sz 6 a1) (a1.map Em.aG.aA) .any,.slice (sz 5 a2) (a2.map Em.div.aA) .any,.slice (sz 5 a3) (a3.map Em.aK.aA) .any]),.box (.agg [.str b0,.slice (sz 6 b1) (b1.map Em.aG.aA) .any,.slice (sz 5 b2) (b2.map Em.div.aA) .any,.slice (sz 5 b3) (b3.map Em.aK.aA) .any])]) ?_ (a1.length) (by refine⟨0,?_⟩;exact eS (⟨Ah,II⟩) @l1)
 rintro m fr σ ⟨i,gg,hI,rfl,rfl⟩
 obtain⟨hm,hs⟩:=hI
 by_cases hi:i<a1.length
 .have q1:(i:Int)<(a1.length:Int):=by omega
  have hir:i<b1.length:=Ah;have q2:(i:Int)<(b1.length:Int):=Ah;obtain⟨a,ha⟩:=gn (a1[i]);obtain⟨b,hb⟩:=gn (b1[i]);have dY:a1.drop i=a::a1.drop (i+1):=At;have hc2:b1.drop i=b::b1.drop (i+1):=Bm;rw[dY,hc2,rW]at hs;have ka:fX a:=hx.1.2 a (ha▸yAm hi);have kb:fX b:=hy.1.2 b (hb▸yAm hir);have hE:=λfl σ=>mM (a:=Em.aG) ka kb fl σ
  simp only[nN,aW]at hE
  by_cases e:a=b
  .exact yu
  .rw[yBd e,yBa]at hs;rw[yBd e]at hE;rw[<-hs];refine aC (A8 q1 q2 hi hir ha @hb h1 hE) ?_;exact ag
 .have q1:¬(i:Int)<(a1.length:Int):=by omega
  rw[yAs Ah,yAs Ah]at hs;have LX:B1=true:=hs.symm;subst LX;refine aC q1 ?_;refine Wp.cZ (λm fr σ=>∃(i:Nat),∃gg:Nat->PD,(i+m=a2.length/\decide (a2.drop i=b2.drop i)=B2)/\fr=gg 0::gg 1::.ptr 0 0::.ptr 1 0::.bool false::gg 5::.int .i64 i::gg 7::gg 8::gg 9::gg 10::gg 11::gg 12::gg 13::gg 14::gg 15::gg 16::gg 17::gg 18::gg 19::gg 20::gg 21::gg 22::gg 23::gg 24::gg 25::gg 26::gg 27::gg 28::gg 29::gg 30::gg 31::gg 32::gg 33::gg 34::gg 35::gg 36::gg 37::gg 38::gg 39::gg 40::gg 41::gg 42::gg 43::gg 44::gg 45::gg 46::gg 47::gg 48::gg 49::gg 50::gg 51::gg 52::gg 53::gg 54::gg 55::gg 56::gg 57::gg 58::gg 59::gg 60::gg 61::gg 62::gg 63::gg 64::gg 65::gg 66::gg 67::gg 68::gg 69::gg 70::gg 71::gg 72::gg 73::gg 74::gg 75::gg 76::gg 77::gg 78::gg 79::gg 80::gg 81::gg 82::gg 83::gg 84::gg 85::gg 86::gg 87::gg 88::gg 89::gg 90::gg 91::gg 92::gg 93::gg 94::gg 95::[]/\σ=[.box (.agg [.str a0,.slice (sz 6 a1) (a1.map Em.aG.aA) .any,.slice (sz 5 a2) (a2.map Em.div.aA) .any,.slice (sz 5 a3) (a3.map Em.aK.aA) .any]),.box (.agg [.str b0,.slice (sz 6 b1) (b1.map Em.aG.aA) .any,.slice (sz 5 b2) (b2.map Em.div.aA) .any,.slice (sz 5 b3) (b3.map Em.aK.aA) .any])]) ?_ (a2.length) (by refine⟨0,?_⟩;exact eS (⟨Ah,bY⟩) @l2)
  rintro m fr σ ⟨i,gg,hI,rfl,rfl⟩
  obtain⟨hm,hs⟩:=hI
  by_cases hi:i<a2.length
  .have q1:(i:Int)<(a2.length:Int):=by omega
   have hir:i<b2.length:=Ah;have q2:(i:Int)<(b2.length:Int):=Ah;obtain⟨a,ha⟩:=gn (a2[i]);obtain⟨b,hb⟩:=gn (b2[i]);have dY:a2.drop i=a::a2.drop (i+1):=At;have hc2:b2.drop i=b::b2.drop (i+1):=Bm;rw[dY,hc2,rW]at hs;have ka:fY a:=hx.2.1.2 a (ha▸yAm hi);have kb:fY b:=hy.2.1.2 b (hb▸yAm hir);have hE:=λfl σ=>mM (a:=Em.div) ka kb fl σ
   simp only[lX,aW]at hE
   by_cases e:a=b
   .rw[yAY e,yBt]at hs;rw[yAY e]at hE;refine aC (A8 q1 q2 hi hir ha @hb h2 hE) ?_;exact bl
   .rw[yBd e,yBa]at hs;rw[yBd e]at hE;rw[<-hs];refine aC (A8 q1 q2 hi hir ha @hb h2 hE) ?_;exact ag
  .have q1:¬(i:Int)<(a2.length:Int):=by omega
   rw[yAs Ah,yAs Ah]at hs;have LX:B2=true:=hs.symm;subst LX;refine aC q1 ?_;refine Wp.cZ (λm fr σ=>∃(i:Nat),∃gg:Nat->PD,(i+m=a3.length/\decide (a3.drop i=b3.drop i)=B3)/\fr=gg 0::gg 1::.ptr 0 0::.ptr 1 0::.bool false::gg 5::gg 6::.int .i64 i::gg 8::gg 9::gg 10::gg 11::gg 12::gg 13::gg 14::gg 15::gg 16::gg 17::gg 18::gg 19::gg 20::gg 21::gg 22::gg 23::gg 24::gg 25::gg 26::gg 27::gg 28::gg 29::gg 30::gg 31::gg 32::gg 33::gg 34::gg 35::gg 36::gg 37::gg 38::gg 39::gg 40::gg 41::gg 42::gg 43::gg 44::gg 45::gg 46::gg 47::gg 48::gg 49::gg 50::gg 51::gg 52::gg 53::gg 54::gg 55::gg 56::gg 57::gg 58::gg 59::gg 60::gg 61::gg 62::gg 63::gg 64::gg 65::gg 66::gg 67::gg 68::gg 69::gg 70::gg 71::gg 72::gg 73::gg 74::gg 75::gg 76::gg 77::gg 78::gg 79::gg 80::gg 81::gg 82::gg 83::gg 84::gg 85::gg 86::gg 87::gg 88::gg 89::gg 90::gg 91::gg 92::gg 93::gg 94::gg 95::[]/\σ=[.box (.agg [.str a0,.slice (sz 6 a1) (a1.map Em.aG.aA) .any,.slice (sz 5 a2) (a2.map Em.div.aA) .any,.slice (sz 5 a3) (a3.map Em.aK.aA) .any]),.box (.agg [.str b0,.slice (sz 6 b1) (b1.map Em.aG.aA) .any,.slice (sz 5 b2) (b2.map Em.div.aA) .any,.slice (sz 5 b3) (b3.map Em.aK.aA) .any])]) ?_ (a3.length) (by refine⟨0,?_⟩;exact eS (⟨Ah,C3⟩) @l3)
   rintro m fr σ ⟨i,gg,hI,rfl,rfl⟩
   obtain⟨hm,hs⟩:=hI
   by_cases hi:i<a3.length
   .have q1:(i:Int)<(a3.length:Int):=by omega
    have hir:i<b3.length:=Ah;have q2:(i:Int)<(b3.length:Int):=Ah;obtain⟨a,ha⟩:=gn (a3[i]);obtain⟨b,hb⟩:=gn (b3[i]);have dY:a3.drop i=a::a3.drop (i+1):=At;have hc2:b3.drop i=b::b3.drop (i+1):=Bm;rw[dY,hc2,rW]at hs;obtain⟨c0,c1,c2,c3,c4⟩:=a;obtain⟨d0,d1,d2,d3,d4⟩:=b
    by_cases f0:c0=d0
    rotate_left
    .rw[show decide ((⟨c0,c1,c2,c3,c4⟩:bP)=⟨d0,d1,d2,d3,d4⟩)=false by simp[f0],yBa]at hs;rw[<-hs];refine aC (A7 q1 q2 hi hir ha @hb @f0) ?_;exact ag
    by_cases f1:c1=d1
    rotate_left
    .rw[show decide ((⟨c0,c1,c2,c3,c4⟩:bP)=⟨d0,d1,d2,d3,d4⟩)=false by simp[f1],yBa]at hs;rw[<-hs];refine aC (A8 q1 q2 hi hir ha @hb @f0 @f1) ?_;exact ag
    by_cases f2:c2=d2
    rotate_left
    .rw[show decide ((⟨c0,c1,c2,c3,c4⟩:bP)=⟨d0,d1,d2,d3,d4⟩)=false by simp[f2],yBa]at hs;rw[<-hs];refine aC (A9 q1 q2 hi hir ha @hb @f0 @f1 @f2) ?_;exact ag
    by_cases f3:c3=d3
    rotate_left
    .rw[show decide ((⟨c0,c1,c2,c3,c4⟩:bP)=⟨d0,d1,d2,d3,d4⟩)=false by simp[f3],yBa]at hs;rw[<-hs];refine aC (A10 q1 q2 hi hir ha @hb @f0 @f1 @f2 @f3) ?_;exact ag
    by_cases f4:c4=d4
    rotate_left
    .rw[show decide ((⟨c0,c1,c2,c3,c4⟩:bP)=⟨d0,d1,d2,d3,d4⟩)=false by simp[f4],yBa]at hs;rw[<-hs];refine aC (A11 q1 q2 hi hir ha @hb @f0 @f1 @f2 @f3 @f4) ?_;exact ag
    rw[show decide ((⟨c0,c1,c2,c3,c4⟩:bP)=⟨d0,d1,d2,d3,d4⟩)=true by simp[f0,f1,f2,f3,f4],yBt]at hs;refine aC (A11 q1 q2 hi hir ha @hb @f0 @f1 @f2 @f3 @f4) ?_;exact bl
   .have q1:¬(i:Int)<(a3.length:Int):=by omega
    rw[yAs Ah,yAs Ah]at hs;have LX:B3=true:=hs.symm;subst LX;refine aC q1 ?_;exact ag
end
section
def uC(n d:Int):Int:=if d<=0\/1000000<d\/n < -1000000\/1000000<n\/Nat.gcd n.natAbs d.toNat≠1 then 2 else 0
def rQ(n d:Int):Int:=if uC n d≠0 then 2 else if n<=0\/128*d<n then 3 else if 128<d then 4 else 0
def DB(n:Int):Prop:=-9223372036854775808<=n/\n<=9223372036854775807
abbrev CW:Em Int:=Em.int .u64
def ON:Nat->List PD->List aB->Option (PD×List aB):=entry (dZ CW CW CW λa b=>dP (0<=a/\a<=1000000/\0<=b/\b<=1000000) (some (Nat.gcd a.toNat b.toNat)))
theorem aPq{a b:Nat}(ha:a<=1000000)(hb:b<=1000000)(fl:Nat)(σ:List aB):ON fl [.int .u64 a,.int .u64 b] σ=some (.int .u64 (Nat.gcd a b),σ):=by
 have e1:CW.dec (.int .u64 a)=some (a:Int):=Em.cM rfl;have e2:CW.dec (.int .u64 b)=some (b:Int):=Em.cM rfl;unfold ON entry dZ;simp only[e1,e2];rw[eV ⟨Ah,Ah,Ah,Ah⟩];rfl
variable{E:aE}(hU:aH E)
include hU
theorem aKQ(h0:E 145=none)(a b:Nat)(ha:a<=1000000)(hb:b<=1000000):aJ prog E 145 [.int .u64 a,.int .u64 b] (CW.aA (Nat.gcd a b)):=by
 obtain⟨G,hG⟩:=gn (Nat.gcd a b);rw[hG];refine aJ.aN 12 h0 func145 (h:=?_);refine aC trivial ?_;refine Wp.cZ (λm fr σ=>∃(u v:Nat),∃gg:Nat->PD,(v<=m/\u<=1000000/\v<=1000000/\Nat.gcd u v=G)/\fr=[.int .u64 u,.int .u64 v,gg 2,gg 3,gg 4,gg 5,gg 6,gg 7,gg 8,gg 9,gg 10,gg 11]/\σ=[]) ?_ (b) (by refine⟨a,b,?_⟩;exact cF (⟨yAk _,ha,hb,hG⟩))
 rintro m fr σ ⟨u,v,gg,hI,rfl,rfl⟩
 obtain⟨hm,hu,hv,hg⟩:=hI
 by_cases q:v=0
 .subst q;rw[Nat.gcd_zero_right]at hg;subst hg;exact xe
 .have q1:0<v:=by omega
  have q2:¬(v:Int)=0:=Ah;have hml:u%v<v:=yBs _ Ah;have hgr:Nat.gcd v (u%v)=G:=by rw[Nat.gcd_comm v (u%v),<-Nat.gcd_rec,Nat.gcd_comm,hg]
  obtain⟨r,hr⟩:=gn (u%v);have w1:((u:Int)).tmod (v:Int)=(r:Int):=by rw[<-hr];rfl
  rw[hr]at hml hgr;have w2:IntKind.u64.wrap (r:Int)=(r:Int):=Ar;refine aC (A5 @q q1 q2 w1 w2) ?_;refine bV.normal (m-1) Ah (by refine⟨v,r,?_⟩;exact cF (⟨Ah,hv,Ah,hgr⟩))
theorem aKS(h0:E 146=none)(n:Int)(h:-1000000<=n/\n<=1000000):aJ prog E 146 [.int .i64 n] (CW.aA n.natAbs):=by
 refine aJ.aN 10 h0 func146 (h:=?_)
 by_cases a:n<0
 .have w1:IntKind.u64.wrap n=n+18446744073709551616:=by simp only[IntKind.wrap,IntKind.bits,IntKind.signed];simp;omega
  have w2:IntKind.u64.wrap (-(n+18446744073709551616))=(n.natAbs:Int):=Ar;refine aC (A3 @a w1 w2) ?_;exact ag
 .have w1:IntKind.u64.wrap n=(n.natAbs:Int):=by simp only[IntKind.wrap,IntKind.bits,IntKind.signed];simp;omega
  refine aC (A2 @a w1) ?_;exact ag
def OO:Nat->List PD->List aB->Option (PD×List aB):=entry (bZ i64 CW λn=>dP (-1000000<=n/\n<=1000000) (some (n.natAbs:Int)))
omit hU in
theorem aPr{n:Int}(h:-1000000<=n/\n<=1000000)(fl:Nat)(σ:List aB):OO fl [.int .i64 n] σ=some (.int .u64 n.natAbs,σ):=by
 have e1:i64.dec (.int .i64 n)=some n:=Em.cM rfl;unfold OO entry bZ;exact kg
theorem aKU(h0:E 124=none)(h1:E 146=some OO)(h2:E 145=some ON)(n d:Int):aJ prog E 124 [.agg [.int .i64 n,.int .i64 d]] (i64.aA (uC n d)):=by
 by_cases a:d<=0
 .skip
  refine aJ.aN 31 h0 func124 (h:=?_);refine aC @a ?_;simp(disch:=first|omega|(simp;done)|(simp;omega)) [yAu,uC,a]<;>try rfl
 by_cases b:1000000<d
 .skip
  refine aJ.aN 31 h0 func124 (h:=?_);refine aC (A2 @a @b) ?_;simp(disch:=first|omega|(simp;done)|(simp;omega)) [yAu,uC,a,b]<;>try rfl
 by_cases c:n < -1000000
 .skip
  refine aJ.aN 31 h0 func124 (h:=?_);refine aC (A3 @a @b @c) ?_;simp(disch:=first|omega|(simp;done)|(simp;omega)) [yAu,uC,a,b,c]<;>try rfl
 by_cases e:1000000<n
 .skip
  refine aJ.aN 31 h0 func124 (h:=?_);refine aC (A4 @a @b @c @e) ?_;simp(disch:=first|omega|(simp;done)|(simp;omega)) [yAu,uC,a,b,c,e]<;>try rfl
 have hM:=aPr (n:=n) Ah;obtain⟨D,rfl⟩:∃D:Nat,d=D:=⟨d.toNat,Ah⟩;obtain⟨N,hN⟩:=gn (n.natAbs);rw[hN]at hM;have hG:=aPq (a:=N) (b:=D) Ah Ah;have w:IntKind.u64.wrap (D:Int)=D:=Ar;obtain⟨g,hg⟩:=gn (Nat.gcd N D);have a2:¬D=0:=Ah;have b2:¬1000000<D:=Ah;have hE:uC n D=if g=1 then 0 else 2:=by
  unfold uC;rw[hN,yBe]
  by_cases q:g=1
  .rw[yAJ q,yAI Ah]
  .rw[yAI q,yAJ Ah]
 rw[hE];rw[hg]at hG
 by_cases q:g=1
 .have q1:(g:Int)=1:=by omega
  exact jk
 .have q1:¬(g:Int)=1:=by omega
  exact jk
def OP:Nat->List PD->List aB->Option (PD×List aB):=entry (bZ Em.cV i64 λx=>some (uC x.1 x.2))
omit hU in
theorem aPs(n d:Int)(fl:Nat)(σ:List aB):OP fl [.agg [.int .i64 n,.int .i64 d]] σ=some (.int .i64 (uC n d),σ):=by
 have e1:Em.cV.dec (.agg [.int .i64 n,.int .i64 d])=some (n,d):=Em.cM rfl;unfold OP entry bZ;simp only[e1];rfl
theorem aKW(h0:E 93=none)(h1:E 124=some OP)(n d:Int):aJ prog E 93 [.agg [.int .i64 n,.int .i64 d]] (i64.aA (rQ n d)):=by
 have hF:=aPs n d
 by_cases a:uC n d=0
 .have hd:0<d/\d<=1000000:=by
   unfold uC at a;split at a
   .cases a
   .omega
  have w:IntKind.i64.wrap (128*d)=128*d:=Am;rw[a]at hF;unfold rQ;rw[a];refine aJ.aN 23 h0 func93 (h:=?_)
  by_cases b:n<=0
  .refine aC (A3 h1 hF @b) ?_;simp(disch:=first|omega|(simp;done)|(simp;omega)) [yAu,b]<;>try rfl
  by_cases c:128*d<n
  .refine aC (A5 h1 hF @b @w @c) ?_;simp(disch:=first|omega|(simp;done)|(simp;omega)) [yAu,b,c]<;>try rfl
  by_cases e:128<d
  .exact nu
  .exact nu
 .unfold rQ;rw[yAJ a];obtain⟨f,hf⟩:=gn (uC n d);rw[hf]at a hF;refine aJ.aN 23 h0 func93 (h:=?_);refine aC (A3 h1 hF @a) ?_;exact ag
end
section
def cK{α:Type}(p:α->Bool):List α->Nat->Int
 | [],_=>-1
 |x::r,i=>if p x=true then(i:Int)else cK p r (i+1)
theorem K8{α:Type}(p:α->Bool):∀(l:List α) (i:Nat),decide (0<=cK p l i)=l.any p
 | [],_=>rfl
 |x::r,i=>by
  unfold cK;cases h:p x with
  |true=>rw[yAJ rfl,yDT,h];simp
  |false=>rw[yAI Al,yDT,h,K8 p r (i+1)];rfl
theorem aEX{α:Type}(p:α->Bool):∀(l:List α) (i:Nat),-1<=cK p l i/\cK p l i<i+l.length\/cK p l i=-1
 | [],_=>.inr rfl
 |x::r,i=>by
  unfold cK;split
  .refine .inl ⟨Ah,?_⟩;rw[yAT];omega
  .rcases aEX p r (i+1)with h|h
   .refine .inl ⟨h.1,?_⟩;rw[yAT];omega
   .exact .inr h
def lV(w:Int):Bool:=decide (w<0)||decide (1000000<w)
def OQ:Nat->List PD->List aB->Option (PD×List aB):=entry (bZ i64 Em.bool λn=>some (lV n))
theorem aPl(n:Int)(fl:Nat)(σ:List aB):OQ fl [.int .i64 n] σ=some (.bool (lV n),σ):=by
 have e:i64.dec (.int .i64 n)=some n:=Em.cM rfl;unfold OQ entry bZ;simp only[e];rfl
variable{E:aE}(hU:aH E)
include hU
theorem aKY(h0:E 126=none)(n:Int):aJ prog E 126 [.int .i64 n] (Em.bool.aA (lV n)):=by
 refine aJ.aN 9 h0 func126 (h:=?_)
 by_cases a:n<0
 .refine aC @a ?_;simp(disch:=first|omega|(simp;done)|(simp;omega)) [yAu,lV,a]<;>try rfl
 .by_cases b:1000000<n
  .exact qm
  .exact qm
theorem aK0(h0:E 147=none)(h1:E 126=some OQ)(l:List Int)(hl:l.length<=1000000):aJ prog E 147 [fM.aA l,.func 126 []] (i64.aA (cK lV l 0)):=by
 obtain⟨B,hB⟩:=gn (cK lV l 0);rw[hB];refine aJ.aN 19 h0 func147 (h:=?_);refine aC trivial ?_;refine Wp.cZ (λm fr σ=>∃(i:Nat),∃gg:Nat->PD,(i+m=l.length/\cK lV (l.drop i) i=B)/\fr=[fM.aA l,.func 126 [],gg 2,gg 3,gg 4,gg 5,fM.aA l,.int .i64 l.length,.int .i64 i,gg 9,gg 10,gg 11,gg 12,gg 13,gg 14,gg 15,gg 16,gg 17,gg 18]/\σ=[]) ?_ (l.length) (by refine⟨0,?_⟩;exact cF (⟨Ah,hB⟩))
 rintro m fr σ ⟨i,gg,hI,rfl,rfl⟩
 obtain⟨hm,hs⟩:=hI
 by_cases hi:i<l.length
 .have q1:(i:Int)<(l.length:Int):=by omega
  obtain⟨a,ha⟩:=gn (l[i]);have hc:l.drop i=a::l.drop (i+1):=At;have hE:=aPl a;rw[hc]at hs;unfold cK at hs;cases hb:lV a with
  |true=>
   rw[hb]at hE;rw[yAJ hb]at hs;have bY:B=(i:Int):=hs.symm;clear hs;refine aC (A3 q1 hi ha) ?_
   first|refine Wp.seq ?_|skip
   apply Wp.mZ;refine kH (A4 h1 hE hi ha) ?_;apply SQ.nil;exact wu
  |false=>
   rw[hb]at hE;rw[yAI (by rw[hb];decide)]at hs;refine aC (A3 q1 hi ha) ?_
   first|refine Wp.seq ?_|skip
   apply Wp.mZ;refine kH (A4 h1 hE hi ha) ?_;apply SQ.nil;refine aC q1 ?_;exact bl
 .have q1:¬(i:Int)<(l.length:Int):=by omega
  rw[yAs Ah]at hs;have bY:B=-1:=hs.symm;exact wu
def OR:Nat->List PD->List aB->Option (PD×List aB):=entry (λargs=>match args with
 | [p,.func g []]=>if g=126 then bZ fM i64 (λl=>dP (l.length<=1000000) (some (cK lV l 0))) [p]else none
 |_=>none)
omit hU in
theorem aPm{l:List Int}(hl:l.length<=1000000)(fl:Nat)(σ:List aB):OR fl [fM.aA l,.func 126 []] σ=some (.int .i64 (cK lV l 0),σ):=by
 have e1:=Em.cM (fM.str l);unfold OR entry bZ;simp only[e1,yAL];rw[eV hl];rfl
def OS:Nat->List PD->List aB->Option (PD×List aB):=entry (λargs=>match args with
 | [p,.func g []]=>if g=126 then bZ fM Em.bool (λl=>dP (l.length<=1000000) (some (l.any lV))) [p]else none
 |_=>none)
omit hU in
theorem aPn{l:List Int}(hl:l.length<=1000000)(fl:Nat)(σ:List aB):OS fl [fM.aA l,.func 126 []] σ=some (.bool (l.any lV),σ):=by
 have e1:=Em.cM (fM.str l);unfold OS entry bZ;simp only[e1,yAL];rw[eV hl];rfl
theorem aK2(h0:E 125=none)(h1:E 147=some OR)(l:List Int)(hl:l.length<=1000000):aJ prog E 125 [fM.aA l,.func 126 []] (Em.bool.aA (l.any lV)):=by
 have hE:=aPm hl;rw[<-K8 lV l 0];refine aJ.aN 9 h0 func125 (h:=?_);simp only[aW]at hE;exact yp
def nI(r:bB):Int:=
 if eL r.name=false\/eL r.jJ=false then 8 else if rQ r.num r.den≠0 then rQ r.num r.den else if ¬(-256<=r.first/\r.first<=256)then 3 else if r.kX.length=0 then 13 else if 128<r.kX.length then 4 else if r.kX.any lV=true then 3 else 0
def EG:Nat->List PD->List aB->Option (PD×List aB):=entry (bZ Em.text Em.bool λs=>dP (s.length<=100000) (some (eL s)))
omit hU in
theorem H4{s:Gd}(h:s.length<=100000)(fl:Nat)(σ:List aB):EG fl [.str s] σ=some (.bool (eL s),σ):=by
 have e1:Em.text.dec (.str s)=some s:=Em.cM rfl;unfold EG entry bZ;exact kg
theorem aK4(h0:E 95=none)(h1:E 125=some OS)(l:List Int)(hl:l.length<=1000000):aJ prog E 95 [fM.aA l] (i64.aA (if l.any lV=true then 3 else 0)):=by
 have hE:=aPn hl;simp only[aW]at hE;cases hb:l.any lV with
 |true=>
  rw[hb]at hE;refine aJ.aN 5 h0 func95 (h:=?_);exact yp
 |false=>
  rw[hb]at hE;refine aJ.aN 5 h0 func95 (h:=?_);exact yp
def J6:Nat->List PD->List aB->Option (PD×List aB):=entry (bZ Em.cV i64 λx=>some (rQ x.1 x.2))
omit hU in
theorem aEW(n d:Int)(fl:Nat)(σ:List aB):J6 fl [.agg [.int .i64 n,.int .i64 d]] σ=some (.int .i64 (rQ n d),σ):=by
 have e1:Em.cV.dec (.agg [.int .i64 n,.int .i64 d])=some (n,d):=Em.cM rfl;unfold J6 entry bZ;simp only[e1];rfl
def OU:Nat->List PD->List aB->Option (PD×List aB):=entry (bZ i64 Em.bool λn=>some (decide (-256<=n)&&decide (n<=256)))
omit hU in
theorem aPo(n:Int)(fl:Nat)(σ:List aB):OU fl [.int .i64 n] σ=some (.bool (decide (-256<=n)&&decide (n<=256)),σ):=by
 have e1:i64.dec (.int .i64 n)=some n:=Em.cM rfl;unfold OU entry bZ;simp only[e1];rfl
def OT:Nat->List PD->List aB->Option (PD×List aB):=entry (bZ fM i64 λl=>dP (l.length<=1000000) (some (if l.any lV=true then 3 else 0)))
omit hU in
theorem aPp{l:List Int}(h:l.length<=1000000)(fl:Nat)(σ:List aB):OT fl [fM.aA l] σ=some (.int .i64 (if l.any lV=true then 3 else 0),σ):=by
 have e1:=Em.cM (fM.str l);unfold OT entry bZ;exact kg
def j8(s:List UInt8):Prop:=s.length<=100000
theorem aK8(h0:E 61=none)(h1:E 60=some EG)(h2:E 93=some J6)(h3:E 94=some OU)(h4:E 95=some OT)(r:bB)(hr:fX r)(hn:j8 r.name)(ht:j8 r.jJ):aJ prog E 61 [Em.aG.aA r] (i64.aA (nI r)):=by
 obtain⟨n,t,a,b,f,w⟩:=r;have e1:=H4 hn;have e2:=H4 ht;have e3:=aEW a b;have e4:=aPo f;have e5:=aPp (show w.length<=1000000 from hr);have hw:w.length<=1000000:=hr;unfold nI;simp only[aW]at e1 e2 e5;simp only[nN,aW];cases c1:eL n with
 |false=>
  rw[c1]at e1;rw[yAJ (.inl rfl)];refine aJ.aN 38 h0 func61 (h:=?_);refine aC (A2 h1 e1) ?_;exact ag
 |true=>
 rw[c1]at e1;cases c2:eL t with
 |false=>
  rw[c2]at e2;rw[yAJ (.inr rfl)];refine aJ.aN 38 h0 func61 (h:=?_);refine aC (A3 h1 e1 e2) ?_;exact ag
 |true=>
 rw[c2]at e2;rw[yAI Ai];obtain⟨p,hp⟩:=gn (rQ a b);rw[hp]at e3 ⊢
 by_cases c3:p=0
 rotate_left
 .rw[yAJ c3];refine aJ.aN 38 h0 func61 (h:=?_);refine aC (A6 h1 h2 e1 e2 e3 c3) ?_;exact ag
 subst c3;rw[yAI Ai]
 by_cases c4:-256<=f/\f<=256
 rotate_left
 .rw[yAJ c4];have sW:(decide (-256<=f)&&decide (f<=256))=false:=by simpa using λh=>Int.not_le.1 (λg=>c4 ⟨h,g⟩)
  rw[sW]at e4;exact yx
 rw[yAI (not_not_intro c4)];have sW:(decide (-256<=f)&&decide (f<=256))=true:=by simpa using c4
 rw[sW]at e4
 by_cases c5:w.length=0
 .rw[yAJ c5];have YI:(w.length:Int)=0:=Ah;have c6:w=[]:=yAf c5;subst c6;exact yx
 rw[yAI c5];have YI:¬w=[]:=λh=>c5 Bu
 by_cases c6:128<w.length
 .rw[yAJ c6];have c7:128<(w.length:Int):=Ah;refine aJ.aN 38 h0 func61 (h:=?_);refine aC (A11 h1 h2 h3 e1 e2 e3 e4 c5 YI c6 c7) ?_;exact ag
 rw[yAI c6];have c7:¬128<(w.length:Int):=Ah;obtain⟨q,hq⟩:∃q,(if w.any lV=true then(3:Int)else 0)=q:=⟨_,rfl⟩;rw[hq]at e5 ⊢;refine aJ.aN 38 h0 func61 (h:=?_);refine aC (A13 h1 h2 h3 h4 e1 e2 e3 e4 e5 c5 YI c6 c7) ?_;exact ag
end
section
def yH(k:Nat):List dT->List dT->Int
 |_,[]=>0
 |pre,d::r=>if d.aG<0\/(k:Int)<=d.aG then 10 else if d.shift < -127\/127<d.shift then 3 else if (pre.any λx=>decide (x=d))=true then 9 else yH k (pre++[d]) r
def mT(k:Nat)(l:List dT):Int:=if 8<l.length then 4 else yH k [] l
variable{E:aE}(hU:aH E)
include hU
theorem aLa(h0:E 167=none)(l:List dT)(v:dT)(hl:l.length<=1000000):aJ prog E 167 [fN.aA l,Em.draw.aA v] (i64.aA (cK (λx=>decide (x=v)) l 0)):=by
 obtain⟨B,hB⟩:∃B,cK (λx=>decide (x=v)) l 0=B:=⟨_,rfl⟩;rw[hB];obtain⟨v0,v1⟩:=v;simp only[DF];refine aJ.aN 19 h0 func167 (h:=?_);refine aC trivial ?_;refine Wp.cZ (λm fr σ=>∃(i:Nat),∃gg:Nat->PD,(i+m=l.length/\cK (λx=>decide (x=dT.mk v0 v1)) (l.drop i) i=B)/\fr=[fN.aA l,gg 1,gg 2,.ptr 0 0,gg 4,gg 5,fN.aA l,.int .i64 l.length,.int .i64 i,gg 9,gg 10,gg 11,gg 12,gg 13,gg 14,gg 15,gg 16,gg 17,gg 18]/\σ=[.box (.agg [.int .i64 v0,.int .i64 v1])]) ?_ (l.length) (by refine⟨0,?_⟩;exact cF (⟨Ah,hB⟩))
 rintro m fr σ ⟨i,gg,hI,rfl,rfl⟩
 obtain⟨hm,hs⟩:=hI
 by_cases hi:i<l.length
 .have q1:(i:Int)<(l.length:Int):=by omega
  obtain⟨a,ha⟩:=gn (l[i]);have hc:l.drop i=a::l.drop (i+1):=At;rw[hc]at hs;unfold cK at hs;obtain⟨a0,a1⟩:=a
  by_cases hb:a0=v0
  .by_cases hb2:a1=v1
   .rw[yAJ (by rw[hb,hb2];simp)]at hs;have bY:B=(i:Int):=hs.symm;clear hs;refine aC (A5 q1 hi ha @hb hb2) ?_;exact aq
   .rw[yAI (by simpa using λ_=>hb2)]at hs;refine aC (An @q1 (An @hi (An @ha (An @hb (An @hb2 ((yAW hb2))))))) ?_;exact bl
  .rw[yAI (by simpa using λh=>absurd h hb)]at hs;refine aC (An @q1 (An @hi (An @ha (An @hb ((yAW hb)))))) ?_;exact bl
 .have q1:¬(i:Int)<(l.length:Int):=by omega
  rw[yAs Ah]at hs;have bY:B=-1:=hs.symm;exact wu
def OV:Nat->List PD->List aB->Option (PD×List aB):=entry (dZ fN Em.draw i64 λl v=>dP (l.length<=1000000) (some (cK (λx=>decide (x=v)) l 0)))
omit hU in
theorem aPj{l:List dT}{v:dT}(hl:l.length<=1000000)(fl:Nat)(σ:List aB):OV fl [fN.aA l,Em.draw.aA v] σ=some (.int .i64 (cK (λx=>decide (x=v)) l 0),σ):=by
 have e1:=Em.cM (fN.str l);have e2:=Em.cM (Em.draw.str v);unfold OV entry dZ;simp only[e1,e2];rw[eV hl];rfl
def OW:Nat->List PD->List aB->Option (PD×List aB):=entry (dZ fN Em.draw Em.bool λl v=>dP (l.length<=1000000) (some (l.any λx=>decide (x=v))))
omit hU in
theorem aPk{l:List dT}{v:dT}{p:PD}(hl:l.length<=1000000)(hp:p.strip=fN.aA l)(fl:Nat)(σ:List aB):OW fl [p,Em.draw.aA v] σ=some (.bool (l.any λx=>decide (x=v)),σ):=by
 have e1:=Em.cM hp;have e2:=Em.cM (Em.draw.str v);unfold OW entry dZ;simp only[e1,e2];rw[eV hl];rfl
theorem aLc(h0:E 148=none)(h1:E 167=some OV)(l:List dT)(v:dT)(hl:l.length<=1000000):aJ prog E 148 [fN.aA l,Em.draw.aA v] (Em.bool.aA (l.any λx=>decide (x=v))):=by
 have hE:=aPj (v:=v) hl;rw[<-K8 _ l 0];simp only[aW,DF]at hE;simp only[DF];refine aJ.aN 9 h0 func148 (h:=?_);exact yp
theorem aLe(h0:E 128=none)(h1:E 148=some OW)(rs:List bB)(hrs:rs.length<=1000000)(lo hg:Int)(l:List dT)(hl:l.length<=1000000) :
  aJ prog E 128 [.agg [aM.aA rs,.int .i64 lo,.int .i64 hg],fN.aA l] (i64.aA (mT rs.length l)):=by
 unfold mT
 by_cases c:8<l.length
 .have c1:8<(l.length:Int):=by omega
  rw[yAJ c];refine aJ.aN 45 h0 func128 (h:=?_);refine aC (A2 @c c1) ?_;exact ag
 have c1:¬8<(l.length:Int):=Ah;rw[yAI c];obtain⟨B,hB⟩:=gn (yH rs.length [] l);rw[hB];refine aJ.aN 45 h0 func128 (h:=?_);refine aC (A2 @c c1) ?_;obtain⟨X,hX⟩:=gn (aB.box (.agg [.slice (sz 6 rs) (rs.map Em.aG.aA) .any,.int .i64 lo,.int .i64 hg]));refine Wp.cZ (λm fr σ=>∃(i:Nat) (σ1:List aB),∃gg:Nat->PD,(i+m=l.length/\σ1[0]?=some X/\yH rs.length (l.take i) (l.drop i)=B)/\fr=[gg 0,fN.aA l,.ptr 0 0,gg 3,gg 4,gg 5,gg 6,gg 7,gg 8,gg 9,fN.aA l,.int .i64 l.length,.int .i64 i,gg 13,gg 14,gg 15,gg 16,gg 17,gg 18,gg 19,gg 20,gg 21,gg 22,gg 23,gg 24,gg 25,gg 26,gg 27,gg 28,gg 29,gg 30,gg 31,gg 32,gg 33,gg 34,gg 35,gg 36,gg 37,gg 38,gg 39,gg 40,gg 41,gg 42,gg 43,gg 44]/\σ=σ1) ?_ (l.length) (by refine⟨0,[X],?_⟩;exact eS (⟨Ah,rfl,hB⟩) @hX)
 rintro m fr σ ⟨i,σ1,gg,hI,rfl,rfl⟩
 obtain⟨hm,hx0,hs⟩:=hI
 by_cases hi:i<l.length
 .have q1:(i:Int)<(l.length:Int):=by omega
  obtain⟨a,ha⟩:=gn (l[i]);have hc:l.drop i=a::l.drop (i+1):=At;rw[hc]at hs;unfold yH at hs;obtain⟨a0,a1⟩:=a;have gC:0<σ.length:=(yA.1 hx0).1;have j0:∀x:aB,(σ++[x])[σ.length]?=some x:=λx=>Ai
  have j1:∀x:aB,(σ++[x])[0]?=some X:=λx=>Cw
  rw[<-hX]at j1;have hx1:=hx0;rw[<-hX]at hx1;obtain⟨hltx,hxe⟩:=yA.1 hx1
  by_cases c2:a0<0
  .rw[yAJ (.inl c2)]at hs;subst hs;refine aC (A9 q1 hi ha j0 j1 hx1 gC hxe c2) ?_;exact ag
  by_cases c3:(rs.length:Int)<=a0
  .rw[yAJ (.inr c3)]at hs;subst hs;refine aC (A10 q1 hi ha j0 j1 hx1 gC hxe c2 c3) ?_;exact ag
  rw[yAI (λh=>h.elim c2 c3)]at hs
  by_cases c4:a1 < -127
  .rw[yAJ (.inl c4)]at hs;subst hs;refine aC (A11 q1 hi ha j0 j1 hx1 gC hxe c2 c3 c4) ?_;exact ag
  by_cases c5:127<a1
  .rw[yAJ (.inr c5)]at hs;subst hs;refine aC (A12 q1 hi ha j0 j1 hx1 gC hxe c2 c3 c4 c5) ?_;exact ag
  rw[yAI (λh=>h.elim c4 c5)]at hs;have hsl:(PD.slice (sz 2 l) ((l.map Em.draw.aA).take i) .any).strip=fN.aA (l.take i):=by
   rw[PD.r8,<-yCP,show((l.take i).map Em.draw.aA).map PD.strip=(l.take i).map Em.draw.aA by rw[yBz];exact yAG λx _=>Em.draw.str x];have hne:l≠[]:=λh=>by rw[h]at hi;simp at hi
   rw[aW];simp[sz,hne]
  have hE:=aPk (v:=⟨a0,a1⟩) (l:=l.take i) (p:=PD.slice (sz 2 l) ((l.map Em.draw.aA).take i) .any) Bv hsl;simp only[DF]at hE;have hle:i<=l.length:=Ah;have htk:l.take (i+1)=l.take i++[⟨a0,a1⟩]:=Et;cases hb:(l.take i).any λx=>decide (x=dT.mk a0 a1)with
  |true=>
   rw[hb]at hE hs;rw[yAJ rfl]at hs;subst hs;refine aC zz ?_;exact ag
  |false=>
   rw[hb]at hE hs;rw[yAI Al]at hs;refine aC zz ?_;refine bV.normal (m-1) Ah (by refine⟨i+1,σ++[.box (.agg [.int .i64 a0,.int .i64 a1])],?_⟩;exact cF (⟨Ah,Cw,by rw[htk];exact hs⟩))
 .have q1:¬(i:Int)<(l.length:Int):=by omega
  rw[yAs Ah]at hs;have bY:B=0:=hs.symm;exact wu
end
section
def AV(r:bB):Prop:=fX r/\j8 r.name/\j8 r.jJ
def yK:List bB->Int
 | []=>0
 |r::t=>if nI r≠0 then nI r else yK t
def wW(rs:List bB)(lo hg:Int):Int:=if 60<rs.length then 4 else if yK rs≠0 then yK rs else mE lo hg
def J7:Nat->List PD->List aB->Option (PD×List aB):=entry (bZ Em.aG i64 λr=>dP (AV r) (some (nI r)))
theorem aEO{r:bB}(h:AV r)(fl:Nat)(σ:List aB):J7 fl [Em.aG.aA r] σ=some (.int .i64 (nI r),σ):=by
 have e1:=Em.cM (Em.aG.str r);unfold J7 entry bZ;exact kg
def G9:Nat->List PD->List aB->Option (PD×List aB):=entry (bZ Em.cV i64 λx=>some (mE x.1 x.2))
theorem YE(n d:Int)(fl:Nat)(σ:List aB):G9 fl [.agg [.int .i64 n,.int .i64 d]] σ=some (.int .i64 (mE n d),σ):=by
 have e1:Em.cV.dec (.agg [.int .i64 n,.int .i64 d])=some (n,d):=Em.cM rfl;unfold G9 entry bZ;simp only[e1];rfl
variable{E:aE}(hU:aH E)
include hU
theorem aLg(h0:E 127=none)(h1:E 61=some J7)(h2:E 96=some G9)(rs:List bB)(hrs:∀r∈rs,AV r)(hrl:rs.length<=1000000)(lo hg:Int) :
  aJ prog E 127 [.agg [aM.aA rs,.int .i64 lo,.int .i64 hg]] (i64.aA (wW rs lo hg)):=by
 unfold wW
 by_cases c:60<rs.length
 .have c1:60<(rs.length:Int):=by omega
  rw[yAJ c];refine aJ.aN 26 h0 func127 (h:=?_);refine aC (A2 @c c1) ?_;exact ag
 have c1:¬60<(rs.length:Int):=Ah;rw[yAI c];obtain⟨B,hB⟩:=gn ((if yK rs≠0 then yK rs else mE lo hg));rw[hB];have hC:=YE lo hg;refine aJ.aN 26 h0 func127 (h:=?_);refine aC (A2 @c c1) ?_;obtain⟨X,hX⟩:=gn (aB.box (.agg [.slice (sz 6 rs) (rs.map Em.aG.aA) .any,.int .i64 lo,.int .i64 hg]));refine Wp.cZ (λm fr σ=>∃(i:Nat) (σ1:List aB),∃gg:Nat->PD,(i+m=rs.length/\σ1[0]?=some X/\(if yK (rs.drop i)≠0 then yK (rs.drop i)else mE lo hg)=B)/\fr=[gg 0,.ptr 0 0,gg 2,gg 3,gg 4,gg 5,gg 6,gg 7,gg 8,gg 9,gg 10,aM.aA rs,.int .i64 rs.length,.int .i64 i,gg 14,gg 15,gg 16,gg 17,gg 18,gg 19,gg 20,gg 21,gg 22,gg 23,gg 24,gg 25]/\σ=σ1) ?_ (rs.length) (by refine⟨0,[X],?_⟩;exact eS (⟨Ah,rfl,hB⟩) @hX)
 rintro m fr σ ⟨i,σ1,gg,hI,rfl,rfl⟩
 obtain⟨hm,hx0,hs⟩:=hI;have hx1:=hx0;rw[<-hX]at hx1;obtain⟨gC,hxe⟩:=yA.1 hx1
 by_cases hi:i<rs.length
 .have q1:(i:Int)<(rs.length:Int):=by omega
  obtain⟨a,ha⟩:=gn (rs[i]);have hc:rs.drop i=a::rs.drop (i+1):=At;rw[hc]at hs;unfold yK at hs;have hE:=aEO (hrs a (ha▸yAm hi));have j0:∀x:aB,(σ++[x])[σ.length]?=some x:=λx=>Ai
  obtain⟨e,he⟩:=gn (nI a);rw[he]at hE hs;simp only[nN,aW]at hE
  by_cases c2:e=0
  .subst c2;simp only[ne_eq,yBM,yAN]at hs;refine aC (A6 q1 hi ha j0 h1 hE) ?_;refine bV.normal (m-1) Ah (by refine⟨i+1,σ++[.box (.agg [.str a.name,.str a.jJ,.int .i64 a.num,.int .i64 a.den,.int .i64 a.first,.slice (sz 1 a.kX) (a.kX.map i64.aA) .any])],?_⟩;exact cF (⟨Ah,Cw,hs⟩))
  .simp only[ne_eq,c2,yCO,yAL]at hs;subst hs;refine aC (A7 q1 hi ha j0 h1 hE c2) ?_;exact ag
 .have q1:¬(i:Int)<(rs.length:Int):=by omega
  rw[yAs Ah]at hs;have hs2:mE lo hg=B:=hs;rw[hs2]at hC;refine aC (A6 q1 hx1 gC hxe h2 hC) ?_;exact ag
end
end Go.Kz
namespace Go.Kz
section
open Go
section
variable{P:Program}{call:dA}{fl:Nat}{ops:Gg}{l:List Oper}{fr aS:Gc}{σ σ1:Gb}{K:List PD->List aB->Prop}
variable{dst:Option Tmp}{x y z:Operand}{t ty:TypeId}{pos:String}{edges:Array Edge}{guard:Option (Nat×Bool)}{p q v r:PD}{ok:Bool}
theorem SL.lookup(hw:Wt (Region.wanted ⟨dst,.lookup t x y ok,ty,pos,edges,guard⟩ (bR ops fr)=true))(hx:cP fr x=some p)(hy:cP fr y=some q)(hr:By (GR P σ t p q ok=some r))(hf:Fr (bE fr dst r=aS))(k:SQ P call fl ops l aS σ K) :
  SQ P call fl ops (⟨dst,.lookup t x y ok,ty,pos,edges,guard⟩::l) fr σ K:=
 .step hw.h (xJ rfl rfl (by simp only[dE,fJ hx,fJ hy,hr.h])) (hf.h▸k)
theorem SL.mapUpdate(hw:Wt (Region.wanted ⟨dst,.mapUpdate t x y z,ty,pos,edges,guard⟩ (bR ops fr)=true))(hx:cP fr x=some p)(hy:cP fr y=some q)(hz:cP fr z=some v)(hr:By (GS P fl σ t p q v=some σ1))(hf:Fr (bE fr dst (.aI [])=aS))(k:SQ P call fl ops l aS σ1 K) :
  SQ P call fl ops (⟨dst,.mapUpdate t x y z,ty,pos,edges,guard⟩::l) fr σ K:=
 .step hw.h (xJ rfl rfl (by simp only[dE,fJ hx,fJ hy,fJ hz,hr.h])) (hf.h▸k)
theorem SL.makeMap{kt e:TypeId}(hw:Wt (Region.wanted ⟨dst,.makeMap t none,ty,pos,edges,guard⟩ (bR ops fr)=true))(hx:By (P.underlying t=some (.map kt e)))(hr:Ns (σ++[.map []]=σ1)){n:Nat}(hn:Ns (σ.length=n))(hf:Fr (bE fr dst (.fK n)=aS))(k:SQ P call fl ops l aS σ1 K) :
  SQ P call fl ops (⟨dst,.makeMap t none,ty,pos,edges,guard⟩::l) fr σ K:=by
 obtain⟨rfl⟩:=hr.h;obtain⟨rfl⟩:=hn.h;exact .step hw.h (xJ rfl rfl (by simp only[dE,hx.h])) (hf.h▸k)
end
theorem mF{X R G:Prop}(gx:X)(r:R)(h:X->Hd R->G:=by
  (intro gx hh
   (repeat(first
    |(refine Fr.i ?_;simp only[bE,yBu,yBx];try rfl)
    |(refine By.i ?_;(focus(simp(disch:=first|omega|(simp;done)|(simp;omega)) [wrap_i64,wrap_u64,gx,entry,vP,bZ,dZ,vQ];first|done|rfl|exact⟨rfl,rfl⟩)))
    |(refine By.i ?_;simp(disch:=first|omega|(simp;done)|(simp;omega)) [wrap_i64,wrap_u64,gx,entry,vP,bZ,dZ,vQ];refine⟨Bd,rfl⟩)
    |(refine Wt.i ?_;first|rfl|(focus(simp[gx,entry,vP,bZ,dZ,vQ];done)))
    |(refine Ns.i ?_;(try simp only[yAl,yAO,yAR,yAi,yAa,yAT,yAQ,yAp,Nat.reduceAdd]);rfl)|rfl
    |(apply SL.pass;(focus(refine Wt.i ?_;rfl)))|(apply SL.aHi;(focus decide +kernel))|(apply tv;(focus rfl))|apply SL.move|apply SL.assign|apply SL.load|apply SL.BB|apply tv|apply SL.make
    |apply SL.binOp|apply SL.append|apply tv|apply SL.builtin|apply SL.fieldAddr|apply SL.indexAddr|apply SL.field|apply SL.extract|apply SL.BC|apply SL.pick|apply SL.store|apply SL.unOp|apply SL.convert|apply SL.index
    |apply SL.slice|apply SL.build|apply tv|apply SL.buildSlice|apply SL.box|apply SL.alloc|apply SL.makeFunc|apply SL.lookup|apply SL.mapUpdate|apply SL.makeMap|apply SQ.nil|(apply WL.zF;(focus decide +kernel))
    |(apply WL.I1 Bl;(focus decide +kernel);(focus decide +kernel))|(apply tv;(focus decide +kernel);(focus decide +kernel))|(apply WL.aAz;(focus decide +kernel))
    |(apply WL.aAA Bl;(focus decide +kernel);(focus decide +kernel))|(apply WL.aAB;(focus decide +kernel);(focus decide +kernel))|(apply tv Bl;(focus decide +kernel);(focus decide +kernel))
    |(apply WL.aAD Bl;(focus decide +kernel);(focus decide +kernel))|(apply WL.aAE Bl;(focus decide +kernel);(focus decide +kernel))
    |(apply tv Bl;(focus decide +kernel);(focus decide +kernel))|apply tv|(apply WL.ct;(focus rfl))|(apply WL.cf;(focus rfl))|refine kG.normal ?_|refine kG.ret ?_|refine kG.exit ?_
    |refine pZ.normal ?_|refine pZ.ret ?_|refine pZ.here ?_|refine tv Al ?_|refine Wp.block ?_|refine Wp.skip ?_|refine Wp.ret ?_|refine Wp.exit ?_|refine bV.ret ?_|refine bV.exit ?_
    |refine uI.normal ?_|refine tv ?_|refine uI.exit ?_|refine Wp.seq (Wp.seq ?_)|refine Wp.seq (Wp.block ?_)|(refine Wp.seq ?_;apply WL.ct;(focus rfl))|(refine Wp.seq ?_;apply WL.cf;(focus rfl))))
   exact hh.out)):G:=h gx ⟨r⟩
end
end Go.Kz
namespace Go.Kz
open Go Go.Proofs
section
def FD(pv:Option Int)(n:Int):Bool:=match pv with|none=>false|some t=>decide (n<=t)
def yJ(k:Nat)(lo hg:Int):Option Int->List iU->Int
 |_,[]=>0
 |pv,g::r=>if min g.lo g.hi<lo\/hg<max g.lo g.hi then 23 else if g.hi<g.lo\/FD pv g.lo=true then 6 else if mT k g.aX≠0 then mT k g.aX else yJ k lo hg (some g.hi) r
def K9(l:List iU):Nat->Option Int
 |0=>none
 |j+1=>(l[j]?).map iU.hi
def yI(k:Nat)(lo hg:Int)(l:List iU):Int:=if l.length=0 then 13 else if 12<l.length then 4 else yJ k lo hg none l
def rP(rs:List bB)(lo hg:Int)(s:bW):Int:=
 if wW rs lo hg≠0 then wW rs lo hg else if eL s.name=false then 8 else if rQ s.num s.den≠0 then rQ s.num s.den else yI rs.length lo hg s.aU
def bO.place:bO (List bB×Int×Int):=((bO.one aM).pair ((bO.one i64).pair (.one i64))).mK (λr=>(r.1,r.2.1,r.2.2)) (λx y h=>by obtain⟨_,_,_⟩:=x;obtain⟨_,_,_⟩:=y;simpa using h)
def Em.place:Em (List bB×Int×Int):=.agg .place
@[simp] theorem YD{r:List bB×Int×Int}:Em.place.aA r=.agg [aM.aA r.1,.int .i64 r.2.1,.int .i64 r.2.2]:=rfl
def AU(rs:List bB):Prop:=(∀r∈rs,AV r)/\rs.length<=1000000
def OY:Nat->List PD->List aB->Option (PD×List aB):=entry (bZ Em.place i64 λx=>dP (AU x.1) (some (wW x.1 x.2.1 x.2.2)))
theorem aPh{rs:List bB}(h:AU rs)(lo hg:Int)(fl:Nat)(σ:List aB):OY fl [.agg [aM.aA rs,.int .i64 lo,.int .i64 hg]] σ=some (.int .i64 (wW rs lo hg),σ):=by
 have e1:=Em.cM (Em.place.str (rs,lo,hg));rw[YD]at e1;unfold OY entry bZ;exact kg
def OX:Nat->List PD->List aB->Option (PD×List aB):=entry (dZ Em.place fN i64 λx l=>dP (x.1.length<=1000000/\l.length<=1000000) (some (mT x.1.length l)))
theorem aPi{rs:List bB}{l:List dT}(h:rs.length<=1000000)(hl:l.length<=1000000)(lo hg:Int)(fl:Nat)(σ:List aB):OX fl [.agg [aM.aA rs,.int .i64 lo,.int .i64 hg],fN.aA l] σ=some (.int .i64 (mT rs.length l),σ):=by
 have e1:=Em.cM (Em.place.str (rs,lo,hg));rw[YD]at e1;have e2:=Em.cM (fN.str l);unfold OX entry dZ;simp only[e1,e2];rw[eV ⟨h,hl⟩];rfl
variable{E:aE}(hU:aH E)
include hU
theorem aLi(h0:E 97=none)(h1:E 127=some OY)(h2:E 60=some EG)(h3:E 93=some J6)(h4:E 128=some OX)(rs:List bB)(hrs:AU rs)(lo hg:Int)(s:bW)(hs:iV s)(hn:j8 s.name) :
  aJ prog E 97 [.agg [aM.aA rs,.int .i64 lo,.int .i64 hg],Em.stop.aA s] (i64.aA (rP rs lo hg s)):=by
 obtain⟨n,a,b,l⟩:=s;have e1:=aPh hrs lo hg;have e2:=H4 hn;have e3:=aEW a b;have hl:l.length<=1000000:=hs.1;unfold rP;obtain⟨p,hp⟩:=gn (wW rs lo hg);obtain⟨q,hq⟩:=gn (rQ a b);rw[hp]at e1 ⊢;simp only[aW]at e1;simp only[hq]at e3 ⊢;simp only[pV,aW]
 by_cases c1:p=0
 rotate_left
 .rw[yAJ c1];refine aJ.aN 94 h0 func97 (h:=?_);refine aC (A3 h1 e1 c1) ?_;exact ag
 subst c1;simp only[ne_eq,yBM,yAN];cases c2:eL n with
 |false=>
  simp only at e2;rw[c2]at e2;rw[yAJ rfl];refine aJ.aN 94 h0 func97 (h:=?_);refine aC (A4 h1 h2 e1 e2) ?_;exact ag
 |true=>
 simp only at e2;rw[c2]at e2;rw[yAI Ai]
 by_cases c3:q=0
 rotate_left
 .rw[yAJ c3];refine aJ.aN 94 h0 func97 (h:=?_);refine aC (A7 h1 h2 h3 e1 e2 e3 c3) ?_;exact ag
 subst c3;simp only[yBM,yAN];unfold yI
 by_cases c4:l.length=0
 .rw[yAJ c4];have c6:l=[]:=yAf c4;subst c6;refine aJ.aN 94 h0 func97 (h:=?_);refine aC (A6 h1 h2 h3 e1 e2 e3) ?_;exact ag
 rw[yAI c4];have sW:¬l=[]:=λh=>c4 Bu
 by_cases c5:12<l.length
 .rw[yAJ c5];have c6:12<(l.length:Int):=Ah;refine aJ.aN 94 h0 func97 (h:=?_);refine aC (A10 h1 h2 h3 e1 e2 e3 c4 sW c5 c6) ?_;exact ag
 rw[yAI c5];have c6:¬12<(l.length:Int):=Ah;obtain⟨B,hB⟩:=gn (yJ rs.length lo hg none l);rw[hB];refine aJ.aN 94 h0 func97 (h:=?_);refine aC (A10 h1 h2 h3 e1 e2 e3 c4 sW c5 c6) ?_;obtain⟨X,hX⟩:=gn (aB.box (.agg [.slice (sz 6 rs) (rs.map Em.aG.aA) .any,.int .i64 lo,.int .i64 hg]));obtain⟨Y,hY⟩:=gn (aB.box (.agg [.str n,.int .i64 a,.int .i64 b,.slice (sz 3 l) (l.map Em.eZ.aA) .any]));refine Wp.cZ (λm fr σ=>∃(i:Nat) (σ1:List aB),∃gg:Nat->PD,(i+m=l.length/\σ1[0]?=some X/\σ1[1]?=some Y/\yJ rs.length lo hg (K9 l i) (l.drop i)=B)/\fr=gg 0::gg 1::.ptr 0 0::.ptr 1 0::gg 4::gg 5::gg 6::gg 7::gg 8::gg 9::gg 10::gg 11::gg 12::gg 13::gg 14::gg 15::gg 16::gg 17::gg 18::gg 19::gg 20::gg 21::gg 22::gg 23::gg 24::gg 25::gg 26::gg 27::gg 28::gg 29::gg 30::gg 31::gg 32::gg 33::gg 34::gg 35::nO.aA l::.int .i64 l.length::.int .i64 i::gg 39::gg 40::gg 41::gg 42::gg 43::gg 44::gg 45::gg 46::gg 47::gg 48::gg 49::gg 50::gg 51::gg 52::gg 53::gg 54::gg 55::gg 56::gg 57::gg 58::gg 59::gg 60::gg 61::gg 62::gg 63::gg 64::gg 65::gg 66::gg 67::gg 68::gg 69::gg 70::gg 71::gg 72::gg 73::gg 74::gg 75::gg 76::gg 77::gg 78::gg 79::gg 80::gg 81::gg 82::gg 83::gg 84::gg 85::gg 86::gg 87::gg 88::gg 89::gg 90::gg 91::gg 92::gg 93::[]/\σ=σ1) ?_ (l.length) (by refine⟨0,[X,Y],?_⟩;exact eS (⟨Ah,rfl,rfl,hB⟩) (A2 hX hY))
 rintro m fr σ ⟨i,σ1,gg,hI,rfl,rfl⟩
 obtain⟨hm,hx0,hy0,hs2⟩:=hI
 by_cases hi:i<l.length
 .have q1:(i:Int)<(l.length:Int):=by omega
  obtain⟨g,oG⟩:=gn (l[i]);have hc:l.drop i=g::l.drop (i+1):=by rw[yAq hi,oG]
  have hpv:K9 l (i+1)=some g.hi:=by
   show(l[i]?).map iU.hi=_
   rw[yAh hi,oG];rfl
  rw[hc]at hs2;unfold yJ at hs2;have hgm:g∈l:=oG▸yAm hi
  have hgl:g.aX.length<=1000000:=hs.2 g hgm;have hD:=aPi hrs.2 hgl lo hg;have hx1:=hx0;have hy1:=hy0;rw[<-hX]at hx1;rw[<-hY]at hy1;obtain⟨gC,hxe⟩:=yA.1 hx1;obtain⟨kP,hye⟩:=yA.1 hy1;obtain⟨g0,g1,gd⟩:=g;simp only[aW]at hD;simp only at hs2 hpv hgl hD;have j0:∀x:aB,(σ++[x])[σ.length]?=some x:=λx=>Ai
  obtain⟨MN,hMN⟩:=gn (min g0 g1);obtain⟨MX,hMX⟩:=gn (max g0 g1);have hmn:(if g1<g0 then g1 else g0)=MN:=by rw[<-hMN];split<;>omega
  have hmx:(if g0<g1 then g1 else g0)=MX:=by rw[<-hMX];split<;>omega
  rw[hMN,hMX]at hs2
  by_cases c7:MN<lo
  .rw[yAJ (.inl c7)]at hs2;subst hs2;refine aC (A13 q1 hi oG j0 hx1 hy1 gC kP hxe hye hmn hmx c7) ?_;exact ag
  by_cases c8:hg<MX
  .rw[yAJ (.inr c8)]at hs2;subst hs2;refine aC (A14 q1 hi oG j0 hx1 hy1 gC kP hxe hye hmn hmx c7 c8) ?_;exact ag
  rw[yAI (λh=>h.elim c7 c8)]at hs2
  by_cases c9:g1<g0
  .rw[yAJ (.inl c9)]at hs2;subst hs2;have LA:¬g0<g1:=Ah;have d7:¬g1<lo:=Ah;have d8:¬hg<g0:=Ah;refine aC (A14 q1 hi oG j0 hx1 hy1 gC kP hxe hye c9 LA @d7 @d8) ?_;exact ag
  have d7:¬g0<lo:=Ah;have d8:¬hg<g1:=Ah;have hm2:(if g0<g1 then g1 else g0)=g1:=by split<;>omega
  clear hmn hmx hMN hMX c7 c8;obtain⟨dr,hdr⟩:=gn (mT rs.length gd);rw[hdr]at hD hs2;obtain⟨Z,hZ⟩:=gn (aB.box (.agg [.int .i64 g0,.int .i64 g1,.slice (sz 2 gd) (gd.map Em.draw.aA) .any]))
  by_cases ci:i=0
  .subst ci;rw[show K9 l 0=none from rfl,yAI (λh=>h.elim c9 (by simp[FD]))]at hs2
   by_cases uB:dr=0
   .subst uB;simp only[ne_eq,yBM,yAN]at hs2;refine aC (A16 q1 hi oG j0 hx1 hy1 gC kP hxe hye c9 hm2 @d7 @d8 h4 hD) ?_;refine bV.normal (m-1) Ah (by refine⟨1,σ++[Z],?_⟩;exact eS (⟨Ah,Cw,by rw[yAg kP];exact hy0,by rw[show K9 l 1=some g1 from hpv];exact hs2⟩) @hZ)
   .simp only[ne_eq,uB,yCO,yAL]at hs2;subst hs2;refine aC (A17 q1 hi oG j0 hx1 hy1 gC kP hxe hye c9 hm2 @d7 @d8 h4 hD uB) ?_;exact ag
  .obtain⟨j,hji⟩:∃j,i=j+1:=⟨i-1,Ah⟩;have hj:j<l.length:=Ah;obtain⟨p,q8⟩:=gn (l[j]);have hpo:K9 l i=some p.hi:=by
    rw[hji];show(l[j]?).map iU.hi=_
    rw[yAh hj,q8];rfl
   rw[hpo]at hs2;obtain⟨p0,p1,pd⟩:=p;have w1:IntKind.i64.wrap ((i:Int)-1)=(j:Int):=Am;have q3:0<i:=Ah
   by_cases yN:g0<=p1
   .rw[yAJ (.inr (by simpa [FD]using yN))]at hs2;subst hs2;refine aC (A19 q1 hi oG j0 hx1 hy1 gC kP hxe hye c9 hm2 @d7 @d8 q3 w1 hj q8 yN) ?_;exact ag
   rw[yAI (λh=>h.elim c9 (by simpa [FD]using yN))]at hs2
   by_cases uB:dr=0
   .subst uB;simp only[ne_eq,yBM,yAN]at hs2;refine aC (A20 q1 hi oG j0 hx1 hy1 gC kP hxe hye c9 hm2 @d7 @d8 h4 hD q3 w1 hj (A2 q8 yN)) ?_;refine bV.normal (m-1) Ah (by refine⟨i+1,σ++[Z],?_⟩;exact eS (⟨Ah,Cw,by rw[yAg kP];exact hy0,by rw[hpv];exact hs2⟩) @hZ)
   .simp only[ne_eq,uB,yCO,yAL]at hs2;subst hs2;refine aC (A20 q1 hi oG j0 hx1 hy1 gC kP hxe hye c9 hm2 @d7 @d8 h4 hD q3 w1 hj (A3 q8 yN uB)) ?_;exact ag
 .have q1:¬(i:Int)<(l.length:Int):=by omega
  rw[yAs Ah]at hs2;have bY:B=0:=hs2.symm;exact wu
end
end Go.Kz
end
