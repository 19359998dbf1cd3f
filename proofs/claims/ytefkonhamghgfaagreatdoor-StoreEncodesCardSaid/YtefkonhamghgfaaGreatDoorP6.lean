/-
  Part P6 of the way: an interpreter over pure data, its soundness, walks through functions.
-/
import Derived.Test.YtefkonhamghgfaaGreatDoorP5
import Derived.Test.YtefkonhamghgfaaGreatDoorP8
import Derived.Test.YtefkonhamghgfaaGreatDoorP4
set_option linter.all false

set_option maxHeartbeats 40000000
open Go.Proofs.Tryz
noncomputable section
namespace Go.Kz
open Go Go.Proofs
set_option maxRecDepth 100000
section
def OX(pv:Option Int)(n:Int):Bool:=match pv with|none=>false|some t=>decide (n<=t)
def J4(k:Nat)(lo hg:Int):Option Int->List fY->Int
 |_,[]=>0
 |pv,g::r=>if min g.lo g.hi<lo\/hg<max g.lo g.hi then 23 else if g.hi<g.lo\/OX pv g.lo=true then 6 else if DG k g.nO≠0 then DG k g.nO else J4 k lo hg (some g.hi) r
def J5(l:List fY):Nat->Option Int
 |0=>none
 |j+1=>(l[j]?).map fY.hi
def aD5(k:Nat)(lo hg:Int)(l:List fY):Int:=if l.length=0 then 13 else if 12<l.length then 4 else J4 k lo hg none l
def DF(rs:List bM)(lo hg:Int)(s:dG):Int:=
 if DH rs lo hg≠0 then DH rs lo hg else if lZ s.name=false then 8 else if vE s.num s.den≠0 then vE s.num s.den else aD5 rs.length lo hg s.fK
def cA.place:cA (List bM×Int×Int):=((cA.one aX).pair ((cA.one i64).pair (.one i64))).mA (fun r=>(r.1,r.2.1,r.2.2)) (fun x y h=>by obtain⟨_,_,_⟩:=x;obtain⟨_,_,_⟩:=y;simpa using h)
def Em.place:Em (List bM×Int×Int):=.agg .place
@[simp] theorem VY{r:List bM×Int×Int}:Em.place.U r=.agg [aX.U r.1,.int .i64 r.2.1,.int .i64 r.2.2]:=rfl
def yH(rs:List bM):Prop:=(∀r∈rs,OY r)/\rs.length<=1000000
def NF:Nat->List PD->List aB->Option (PD×List aB):=entry (b9 Em.place i64 fun x=>dX (yH x.1) (some (DH x.1 x.2.1 x.2.2)))
theorem aNN{rs:List bM}(h:yH rs)(lo hg:Int)(fl:Nat)(σ:List aB):NF fl [.agg [aX.U rs,.int .i64 lo,.int .i64 hg]] σ=some (.int .i64 (DH rs lo hg),σ):=by
 have e1:=Em.dC (Em.place.str (rs,lo,hg))
 rw[VY]at e1
 unfold NF entry b9
 simp only[e1]
 rw[fB h]
 rfl
def ND:Nat->List PD->List aB->Option (PD×List aB):=entry (fQ Em.place iE i64 fun x l=>dX (x.1.length<=1000000/\l.length<=1000000) (some (DG x.1.length l)))
theorem aNO{rs:List bM}{l:List fA}(h:rs.length<=1000000)(hl:l.length<=1000000)(lo hg:Int)(fl:Nat)(σ:List aB):ND fl [.agg [aX.U rs,.int .i64 lo,.int .i64 hg],iE.U l] σ=some (.int .i64 (DG rs.length l),σ):=by
 have e1:=Em.dC (Em.place.str (rs,lo,hg))
 rw[VY]at e1
 have e2:=Em.dC (iE.str l)
 unfold ND entry fQ
 simp only[e1,e2]
 rw[fB ⟨h,hl⟩]
 rfl
variable{E:aD}(hU:aI E)
include hU
theorem aIU(h0:E 83=none)(h1:E 109=some NF)(h2:E 36=some CA)(h3:E 79=some IJ)(h4:E 110=some ND)(rs:List bM)(hrs:yH rs)(lo hg:Int)(s:dG)(hs:wW s)(hn:uD s.name) :
  aS prog E 83 [.agg [aX.U rs,.int .i64 lo,.int .i64 hg],Em.stop.U s] (i64.U (DF rs lo hg s)):=by
 obtain⟨n,a,b,l⟩:=s
 have e1:=aNN hrs lo hg
 have e2:=GR hn
 have e3:=aD6 a b
 have hl:l.length<=1000000:=hs.1
 unfold DF
 obtain⟨p,hp⟩:=gn (DH rs lo hg)
 obtain⟨q,hq⟩:=gn (vE a b)
 rw[hp]at e1 ⊢
 simp only[bJ]at e1
 simp only[hq]at e3 ⊢
 simp only[vU,bJ]
 by_cases c1:p=0
 rotate_left
 ·rw[if_pos c1]
  apply aS.aK h0 func83 rfl
  focus(simp[show Tryz.f83.ntmps=_ from rfl,List.replicate];rfl)
  have gx:=An @h1 (An @e1 (@c1))
  refine aC ?_
  clear gx
  simp(disch:=first|omega|(simp;done)|(simp;omega)) [yAu]<;>try rfl
 subst c1
 simp only[ne_eq,not_true_eq_false,if_false]
 cases c2:lZ n with
 |false=>
  simp only at e2
  rw[c2]at e2
  rw[if_pos rfl]
  apply aS.aK h0 func83 rfl
  focus(simp[show Tryz.f83.ntmps=_ from rfl,List.replicate];rfl)
  have gx:=An @h1 (An @h2 (An @e1 (@e2)))
  refine aC ?_
  clear gx
  simp(disch:=first|omega|(simp;done)|(simp;omega)) [yAu]<;>try rfl
 |true=>
 simp only at e2
 rw[c2]at e2
 rw[if_neg (by simp)]
 by_cases c3:q=0
 rotate_left
 ·rw[if_pos c3]
  apply aS.aK h0 func83 rfl
  focus(simp[show Tryz.f83.ntmps=_ from rfl,List.replicate];rfl)
  have gx:=An @h1 (An @h2 (An @h3 (An @e1 (An @e2 (An @e3 (@c3))))))
  refine aC ?_
  clear gx
  simp(disch:=first|omega|(simp;done)|(simp;omega)) [yAu]<;>try rfl
 subst c3
 simp only[not_true_eq_false,if_false]
 unfold aD5
 by_cases c4:l.length=0
 ·rw[if_pos c4]
  have c6:l=[]:=yAf c4
  subst c6
  apply aS.aK h0 func83 rfl
  focus(simp[show Tryz.f83.ntmps=_ from rfl,List.replicate];rfl)
  have gx:=An @h1 (An @h2 (An @h3 (An @e1 (An @e2 (@e3)))))
  refine aC ?_
  clear gx
  simp(disch:=first|omega|(simp;done)|(simp;omega)) [yAu]<;>try rfl
 rw[if_neg c4]
 have uC:¬l=[]:=fun h=>c4 (by rw[h];rfl)
 by_cases c5:12<l.length
 ·rw[if_pos c5]
  have c6:12<(l.length:Int):=by omega
  apply aS.aK h0 func83 rfl
  focus(simp[show Tryz.f83.ntmps=_ from rfl,List.replicate];rfl)
  have gx:=An @h1 (An @h2 (An @h3 (An @e1 (An @e2 (An @e3 (An @c4 (An @uC (An @c5 (@c6)))))))))
  refine aC ?_
  clear gx
  simp(disch:=first|omega|(simp;done)|(simp;omega)) [yAu]<;>try rfl
 rw[if_neg c5]
 have c6:¬12<(l.length:Int):=by omega
 obtain⟨B,hB⟩:=gn (J4 rs.length lo hg none l)
 rw[hB]
 apply aS.aK h0 func83 rfl
 focus(simp[show Tryz.f83.ntmps=_ from rfl,List.replicate];rfl)
 have gx:=An @h1 (An @h2 (An @h3 (An @e1 (An @e2 (An @e3 (An @c4 (An @uC (An @c5 (@c6)))))))))
 refine aC ?_
 clear gx
 obtain⟨X,hX⟩:=gn (aB.box (.agg [.slice (sz 6 rs) (rs.map Em.aR.U) .any,.int .i64 lo,.int .i64 hg]))
 obtain⟨Y,hY⟩:=gn (aB.box (.agg [.str n,.int .i64 a,.int .i64 b,.slice (sz 3 l) (l.map Em.bL.U) .any]))
 refine Wp.cJ (fun m fr σ=>∃(i:Nat) (σ1:List aB),∃gg:Nat->PD,(i+m=l.length/\σ1[0]?=some X/\σ1[1]?=some Y/\J4 rs.length lo hg (J5 l i) (l.drop i)=B)/\fr=gg 0::gg 1::.ptr 0 0::.ptr 1 0::gg 4::gg 5::gg 6::gg 7::gg 8::gg 9::gg 10::gg 11::gg 12::gg 13::gg 14::gg 15::gg 16::gg 17::gg 18::gg 19::gg 20::gg 21::gg 22::gg 23::gg 24::gg 25::gg 26::gg 27::gg 28::gg 29::gg 30::gg 31::gg 32::gg 33::gg 34::gg 35::jA.U l::.int .i64 l.length::.int .i64 i::gg 39::gg 40::gg 41::gg 42::gg 43::gg 44::gg 45::gg 46::gg 47::gg 48::gg 49::gg 50::gg 51::gg 52::gg 53::gg 54::gg 55::gg 56::gg 57::gg 58::gg 59::gg 60::gg 61::gg 62::gg 63::gg 64::gg 65::gg 66::gg 67::gg 68::gg 69::gg 70::gg 71::gg 72::gg 73::gg 74::gg 75::gg 76::gg 77::gg 78::gg 79::gg 80::gg 81::gg 82::gg 83::gg 84::gg 85::gg 86::gg 87::gg 88::gg 89::gg 90::gg 91::gg 92::gg 93::[]/\σ=σ1) ?_ (l.length) (by refine⟨0,[X,Y],?_⟩;exact cW (⟨by omega,rfl,rfl,hB⟩) (by(first|rfl|(simp[hX,hY];repeat(first|rfl|(apply And.intro)))|(simp[hX,hY];done))) (by(first|rfl|(simp[hX,hY];repeat(first|rfl|(apply And.intro)))|(simp[hX,hY];done))))
 rintro m fr σ ⟨i,σ1,gg,hI,rfl,rfl⟩
 obtain⟨hm,hx0,hy0,hs2⟩:=hI
 by_cases hi:i<l.length
 ·have q1:(i:Int)<(l.length:Int):=by omega
  obtain⟨g,lV⟩:=gn (l[i])
  have hc:l.drop i=g::l.drop (i+1):=by rw[yAq hi,lV]
  have hpv:J5 l (i+1)=some g.hi:=by
   show(l[i]?).map fY.hi=_
   rw[yAh hi,lV]
   rfl
  rw[hc]at hs2
  unfold J4 at hs2
  have hgm:g∈l:=lV▸yAm hi
  have hgl:g.nO.length<=1000000:=hs.2 g hgm
  have hD:=aNO hrs.2 hgl lo hg
  have hx1:=hx0
  have hy1:=hy0
  rw[<-hX]at hx1
  rw[<-hY]at hy1
  obtain⟨fX,hxe⟩:=yA.1 hx1
  obtain⟨kK,hye⟩:=yA.1 hy1
  obtain⟨g0,g1,gd⟩:=g
  simp only[bJ]at hD
  simp only at hs2 hpv hgl hD
  have j0:∀x:aB,(σ++[x])[σ.length]?=some x:=fun x=>by simp
  obtain⟨MN,hMN⟩:=gn (min g0 g1)
  obtain⟨MX,hMX⟩:=gn (max g0 g1)
  have hmn:(if g1<g0 then g1 else g0)=MN:=by rw[<-hMN];split<;>omega
  have hmx:(if g0<g1 then g1 else g0)=MX:=by rw[<-hMX];split<;>omega
  rw[hMN,hMX]at hs2
  by_cases c7:MN<lo
  ·rw[if_pos (.inl c7)]at hs2
   subst hs2
   have gx:=An @q1 (An @hi (An @lV (An @j0 (An @hx1 (An @hy1 (An @fX (An @kK (An @hxe (An @hye (An @hmn (An @hmx (@c7))))))))))))
   refine aC ?_
   clear gx
   simp(disch:=first|omega|(simp;done)|(simp;omega)) [yAu]<;>try rfl
  by_cases c8:hg<MX
  ·rw[if_pos (.inr c8)]at hs2
   subst hs2
   have gx:=An @q1 (An @hi (An @lV (An @j0 (An @hx1 (An @hy1 (An @fX (An @kK (An @hxe (An @hye (An @hmn (An @hmx (An @c7 (@c8)))))))))))))
   refine aC ?_
   clear gx
   simp(disch:=first|omega|(simp;done)|(simp;omega)) [yAu]<;>try rfl
  rw[if_neg (fun h=>h.elim c7 c8)]at hs2
  by_cases c9:g1<g0
  ·rw[if_pos (.inl c9)]at hs2
   subst hs2
   have c9':¬g0<g1:=by omega
   have d7:¬g1<lo:=by omega
   have d8:¬hg<g0:=by omega
   have gx:=An @q1 (An @hi (An @lV (An @j0 (An @hx1 (An @hy1 (An @fX (An @kK (An @hxe (An @hye (An @c9 (An @c9' (An @d7 (@d8)))))))))))))
   refine aC ?_
   clear gx
   simp(disch:=first|omega|(simp;done)|(simp;omega)) [yAu]<;>try rfl
  have d7:¬g0<lo:=by omega
  have d8:¬hg<g1:=by omega
  have hm2:(if g0<g1 then g1 else g0)=g1:=by split<;>omega
  clear hmn hmx hMN hMX c7 c8
  obtain⟨dr,hdr⟩:=gn (DG rs.length gd)
  rw[hdr]at hD hs2
  obtain⟨Z,hZ⟩:=gn (aB.box (.agg [.int .i64 g0,.int .i64 g1,.slice (sz 2 gd) (gd.map Em.draw.U) .any]))
  by_cases ci:i=0
  ·subst ci
   rw[show J5 l 0=none from rfl,if_neg (fun h=>h.elim c9 (by simp[OX]))]at hs2
   by_cases sO:dr=0
   ·subst sO
    simp only[ne_eq,not_true_eq_false,if_false]at hs2
    have gx:=An @q1 (An @hi (An @lV (An @j0 (An @hx1 (An @hy1 (An @fX (An @kK (An @hxe (An @hye (An @c9 (An @hm2 (An @d7 (An @d8 (An @h4 (@hD)))))))))))))))
    refine aC ?_
    clear gx
    refine bP.normal (m-1) (by omega) (by refine⟨1,σ++[Z],?_⟩;exact cW (⟨by omega,by rw[yAg fX];exact hx0,by rw[yAg kK];exact hy0,by rw[show J5 l 1=some g1 from hpv];exact hs2⟩) (by(first|rfl|(simp[hZ];repeat(first|rfl|(apply And.intro)))|(simp[hZ];done))) (by(first|rfl|(simp[hZ];repeat(first|rfl|(apply And.intro)))|(simp[hZ];done))))
   ·simp only[ne_eq,sO,not_false_eq_true,if_true]at hs2
    subst hs2
    have gx:=An @q1 (An @hi (An @lV (An @j0 (An @hx1 (An @hy1 (An @fX (An @kK (An @hxe (An @hye (An @c9 (An @hm2 (An @d7 (An @d8 (An @h4 (An @hD (@sO))))))))))))))))
    refine aC ?_
    clear gx
    simp(disch:=first|omega|(simp;done)|(simp;omega)) [yAu]<;>try rfl
  ·obtain⟨j,hji⟩:∃j,i=j+1:=⟨i-1,by omega⟩
   have hj:j<l.length:=by omega
   obtain⟨p,eQ⟩:=gn (l[j])
   have hpo:J5 l i=some p.hi:=by
    rw[hji]
    show(l[j]?).map fY.hi=_
    rw[yAh hj,eQ]
    rfl
   rw[hpo]at hs2
   obtain⟨p0,p1,pd⟩:=p
   have w1:IntKind.i64.wrap ((i:Int)-1)=(j:Int):=by rw[IntKind.wrap_i64];omega
   have q3:0<i:=by omega
   by_cases wQ:g0<=p1
   ·rw[if_pos (.inr (by simpa [OX]using wQ))]at hs2
    subst hs2
    have gx:=An @q1 (An @hi (An @lV (An @j0 (An @hx1 (An @hy1 (An @fX (An @kK (An @hxe (An @hye (An @c9 (An @hm2 (An @d7 (An @d8 (An @q3 (An @w1 (An @hj (An @eQ (@wQ))))))))))))))))))
    refine aC ?_
    clear gx
    simp(disch:=first|omega|(simp;done)|(simp;omega)) [yAu]<;>try rfl
   rw[if_neg (fun h=>h.elim c9 (by simpa [OX]using wQ))]at hs2
   by_cases sO:dr=0
   ·subst sO
    simp only[ne_eq,not_true_eq_false,if_false]at hs2
    have gx:=An @q1 (An @hi (An @lV (An @j0 (An @hx1 (An @hy1 (An @fX (An @kK (An @hxe (An @hye (An @c9 (An @hm2 (An @d7 (An @d8 (An @h4 (An @hD (An @q3 (An @w1 (An @hj (An @eQ (@wQ))))))))))))))))))))
    refine aC ?_
    clear gx
    refine bP.normal (m-1) (by omega) (by refine⟨i+1,σ++[Z],?_⟩;exact cW (⟨by omega,by rw[yAg fX];exact hx0,by rw[yAg kK];exact hy0,by rw[hpv];exact hs2⟩) (by(first|rfl|(simp[hZ];repeat(first|rfl|(apply And.intro)))|(simp[hZ];done))) (by(first|rfl|(simp[hZ];repeat(first|rfl|(apply And.intro)))|(simp[hZ];done))))
   ·simp only[ne_eq,sO,not_false_eq_true,if_true]at hs2
    subst hs2
    have gx:=An @q1 (An @hi (An @lV (An @j0 (An @hx1 (An @hy1 (An @fX (An @kK (An @hxe (An @hye (An @c9 (An @hm2 (An @d7 (An @d8 (An @h4 (An @hD (An @q3 (An @w1 (An @hj (An @eQ (An @wQ (@sO)))))))))))))))))))))
    refine aC ?_
    clear gx
    simp(disch:=first|omega|(simp;done)|(simp;omega)) [yAu]<;>try rfl
 ·have q1:¬(i:Int)<(l.length:Int):=by omega
  rw[yAs (by omega)]at hs2
  have eU:B=0:=hs2.symm
  have gx:=@q1
  refine aC ?_
  clear gx
  simp(disch:=first|omega|(simp;done)|(simp;omega)) [yAu,eU]<;>try rfl
end
section
def u7{α:Type}(p:α->Bool):List α->Nat
 | []=>0
 |x::r=>if p x=true then 1 else u7 p r+1
def uE(x:cF):aB:=.box (.agg [.str x.name,.int .i64 x.nN,.int .i64 x.dst,.int .i64 x.shift,.bool x.vQ])
def kM(nm:List UInt8)(x:cF):Bool:=decide (x.name=nm)
def xV:Nat->List PD->List aB->Option (PD×List aB):=fun _ args σ=>match args with
 | [.agg [.str n,.int .i64 a,.int .i64 b,.int .i64 c,.bool t],.ptr id 0]=>match σ[id]? with
   |some (.box (.agg [.str nm,.int .i64 _,.int .i64 _,.int .i64 _,.bool _]))=>some (.bool (decide (n=nm)),σ++[.box (.agg [.str n,.int .i64 a,.int .i64 b,.int .i64 c,.bool t])])
   |_=>none
 |_=>none
variable{E:aD}(hU:aI E)
include hU
theorem aNJ(h0:E 85=none)(fl:Nat)(x0:List UInt8)(x1 x2 x3:Int)(x4:Bool)(nm:List UInt8)(c1 c2 c3:Int)(c4:Bool)(id:Nat)(τ:List aB)(hid:τ[id]?=some (.box (.agg [.str nm,.int .i64 c1,.int .i64 c2,.int .i64 c3,.bool c4]))) :
  aN prog E fl (.inl 85) [.agg [.str x0,.int .i64 x1,.int .i64 x2,.int .i64 x3,.bool x4],.ptr id 0] τ (fun p1 σ1=>p1=.bool (decide (x0=nm))/\σ1=τ++[.box (.agg [.str x0,.int .i64 x1,.int .i64 x2,.int .i64 x3,.bool x4])]):=by
 obtain⟨hlt,he⟩:=yA.1 hid
 have j0:∀x:aB,(τ++[x])[τ.length]?=some x:=fun x=>by simp
 by_cases c:x0=nm
 ·rw[decide_eq_true c]
  apply aN.aK h0 func85 rfl
  focus(simp[show Tryz.f85.ntmps=_ from rfl,List.replicate];rfl)
  have gx:=An @j0 (An @hid (An @hlt (An @he (@c))))
  refine aC ?_
  clear gx
  exact⟨_,_,rfl,rfl,rfl⟩
 ·rw[decide_eq_false c]
  have f0:(x0==nm)=false:=by simpa using c
  apply aN.aK h0 func85 rfl
  focus(simp[show Tryz.f85.ntmps=_ from rfl,List.replicate];rfl)
  have gx:=An @j0 (An @hid (An @hlt (An @he (An @c (@f0)))))
  refine aC ?_
  clear gx
  exact⟨_,_,rfl,rfl,rfl⟩
theorem aIW(hE:aE prog E)(h0:E 85=none):aE prog (E.add 85 xV):=
 hE.add (by kernel_rfl) fun fl args σ p σ' h=>by
  unfold xV at h
  split at h
  ·rename_i n a b c t id
   split at h
   ·rename_i nm c1 c2 c3 c4 hid
    simp only[yAb,yAc]at h
    obtain⟨rfl,rfl⟩:=h
    exact aN.AL (aNJ hU h0 fl n a b c t nm c1 c2 c3 c4 id σ hid)
   ·cases h
  ·cases h
theorem aNK(h0:E 111=none)(h1:E 85=some xV)(fl:Nat)(l:List cF)(nm:List UInt8)(c1 c2 c3:Int)(c4:Bool)(id:Nat)(τ:List aB)(hid:τ[id]?=some (.box (.agg [.str nm,.int .i64 c1,.int .i64 c2,.int .i64 c3,.bool c4])))(hl:l.length<=1000000)(z:Nat)(tok:Tok)(hz:l=[]\/z=5) :
  aN prog E fl (.inl 111) [.slice z (l.map Em.aP.U) tok,.func 85 [.ptr id 0]] τ (fun p1 σ1=>p1=.int .i64 (kV (kM nm) l 0)/\σ1=τ++(l.take (u7 (kM nm) l)).map uE):=by
 obtain⟨B,hB⟩:=gn (kV (kM nm) l 0)
 obtain⟨V,hV⟩:=gn (u7 (kM nm) l)
 rw[hB,hV]
 apply aN.aK h0 func111 rfl
 focus(simp[show Tryz.f111.ntmps=_ from rfl,List.replicate];rfl)
 have gx:=True.intro
 refine aC ?_
 clear gx
 refine Wp.cJ (fun m fr σ=>∃(i:Nat),∃gg:Nat->PD,(i+m=l.length/\kV (kM nm) (l.drop i) i=B/\u7 (kM nm) (l.drop i)+i=V)/\fr=[.slice z (l.map Em.aP.U) tok,.func 85 [.ptr id 0],gg 2,gg 3,gg 4,gg 5,.slice z (l.map Em.aP.U) tok,.int .i64 l.length,.int .i64 i,gg 9,gg 10,gg 11,gg 12,gg 13,gg 14,gg 15,gg 16,gg 17,gg 18]/\σ=τ++(l.take i).map uE) ?_ (l.length) (by refine⟨0,?_⟩;exact bW (⟨by omega,hB,hV⟩))
 rintro m fr σ ⟨i,gg,hI,rfl,rfl⟩
 obtain⟨hm,hs,hv⟩:=hI
 by_cases hi:i<l.length
 ·have q1:(i:Int)<(l.length:Int):=by omega
  have gL:z=5:=hz.resolve_left (fun h=>by rw[h]at hi;simp at hi)
  subst gL
  obtain⟨a,ha⟩:=gn (l[i])
  have hc:l.drop i=a::l.drop (i+1):=by rw[yAq hi,ha]
  have htk:l.take (i+1)=l.take i++[a]:=by rw[List.take_succ_eq_append_getElem hi,ha]
  obtain⟨hlt,_⟩:=yA.1 hid
  obtain⟨ρ,hρ⟩:=gn (τ++(l.take i).map uE)
  have aNL:ρ[id]?=some (.box (.agg [.str nm,.int .i64 c1,.int .i64 c2,.int .i64 c3,.bool c4])):=by rw[<-hρ,yAg hlt];exact hid
  have hst:τ++(l.take (i+1)).map uE=ρ++[uE a]:=by rw[htk,yBh,<-yAi,hρ];rfl
  rw[hc]at hs hv
  unfold kV at hs
  unfold u7 at hv
  obtain⟨a0,a1,a2,a3,a4⟩:=a
  have hE:xV fl [.agg [.str a0,.int .i64 a1,.int .i64 a2,.int .i64 a3,.bool a4],.ptr id 0] ρ=some (.bool (decide (a0=nm)),ρ++[.box (.agg [.str a0,.int .i64 a1,.int .i64 a2,.int .i64 a3,.bool a4])]):=by
   unfold xV
   simp only[aNL]
  have pU:τ++(l.take (i+1)).map uE=ρ++[.box (.agg [.str a0,.int .i64 a1,.int .i64 a2,.int .i64 a3,.bool a4])]:=hst
  have HO:τ++List.take (i+1) (l.map uE)=ρ++[.box (.agg [.str a0,.int .i64 a1,.int .i64 a2,.int .i64 a3,.bool a4])]:=by rw[<-List.map_take];exact pU
  rw[hρ]
  by_cases hb:a0=nm
  ·rw[if_pos (by simp[kM,hb])]at hs hv
   have eU:B=(i:Int):=hs.symm
   have V2:V=i+1:=by omega
   rw[decide_eq_true hb]at hE
   rw[eU,V2,pU]
   clear hs eU
   have gx:=An @q1 (An @hi (@ha))
   refine aC ?_
   clear gx
   first|refine Wp.seq ?_|skip
   apply Wp.jQ
   have gx:=An @h1 (An @hE (An @hi (@ha)))
   refine LA ?_
   clear gx
   apply SQ.nil
   have gx:=@q1
   refine aC ?_
   clear gx
   exact⟨_,_,rfl,rfl,rfl⟩
  ·rw[if_neg (by simp[kM,hb])]at hs hv
   rw[decide_eq_false hb]at hE
   have gx:=An @q1 (An @hi (@ha))
   refine aC ?_
   clear gx
   first|refine Wp.seq ?_|skip
   apply Wp.jQ
   have gx:=An @h1 (An @hE (An @hi (@ha)))
   refine LA ?_
   clear gx
   apply SQ.nil
   have gx:=@q1
   refine aC ?_
   clear gx
   refine bP.normal (m-1) (by omega) (by refine⟨i+1,?_⟩;exact cW (⟨by omega,hs,by omega⟩) (by(first|rfl|(simp[HO];repeat(first|rfl|(apply And.intro)))|(simp[HO];done))) (by(first|rfl|(simp[HO];repeat(first|rfl|(apply And.intro)))|(simp[HO];done))))
 ·have q1:¬(i:Int)<(l.length:Int):=by omega
  obtain rfl:i=l.length:=by omega
  rw[List.drop_length]at hs hv
  have eU:B=-1:=hs.symm
  have V2:V=l.length:=by simpa [u7]using hv.symm
  rw[eU,V2]
  have gx:=@q1
  refine aC ?_
  clear gx
  exact⟨_,_,rfl,rfl,rfl⟩
omit hU in
def AN:List PD->Option (List cF)
 | []=>some []
 |.agg [.str n,.int .i64 a,.int .i64 b,.int .i64 c,.bool t]::r=>match AN r with|some l=>some (⟨n,a,b,c,t⟩::l)|none=>none
 |_=>none
omit hU in
theorem V3:∀ {xs:List PD} {l:List cF},AN xs=some l->xs=l.map Em.aP.U
 | [],l,h=>by simp only[AN,yAb]at h;subst h;rfl
 |x::r,l,h=>by
  unfold AN at h
  split at h
  ·cases ‹_::_=_›
  ·rename_i n a b c t r' e
   simp only[List.cons.injEq]at e
   obtain⟨rfl,rfl⟩:=e
   split at h
   ·rename_i l' hl
    simp only[yAb]at h
    subst h
    rw[V3 hl]
    rfl
   ·cases h
  ·cases h
omit hU in
@[simp] theorem aD4:∀l:List cF,AN (l.map Em.aP.U)=some l
  | []=>rfl
  |x::l=>by
   show AN (.agg [.str x.name,.int .i64 x.nN,.int .i64 x.dst,.int .i64 x.shift,.bool x.vQ]::l.map Em.aP.U)=_
   simp only[AN,aD4 l]
omit hU in
def sA(f:List UInt8->List cF->PD):Nat->List PD->List aB->Option (PD×List aB):=fun _ args σ=>match args with
 | [.slice z xs _,.func g [.ptr id 0]]=>match AN xs with
   |some l=>if g=85/\(l.length=0\/z=5)/\l.length<=1000000 then match σ[id]? with
     |some (.box (.agg [.str nm,.int .i64 _,.int .i64 _,.int .i64 _,.bool _]))=>some (f nm l,σ++(l.take (u7 (kM nm) l)).map uE)
     |_=>none
    else none
   |none=>none
 |_=>none
omit hU in
theorem aD3{f:List UInt8->List cF->PD}{z:Nat}{l:List cF}{tok:Tok}{id:Nat}{σ:List aB}{nm:List UInt8}{c1 c2 c3:Int}{c4:Bool}(hz:l=[]\/z=5)(hl:l.length<=1000000)(hid:σ[id]?=some (.box (.agg [.str nm,.int .i64 c1,.int .i64 c2,.int .i64 c3,.bool c4])))(fl:Nat) :
  sA f fl [.slice z (l.map Em.aP.U) tok,.func 85 [.ptr id 0]] σ=some (f nm l,σ++(l.take (u7 (kM nm) l)).map uE):=by
 unfold sA
 simp only[aD4]
 rw[if_pos ⟨trivial,hz.imp (fun h=>by rw[h];rfl) (fun h=>h),hl⟩]
 simp only[hid]
theorem aIY(hE:aE prog E)(h0:E 111=none)(h1:E 85=some xV):aE prog (E.add 111 (sA fun nm l=>.int .i64 (kV (kM nm) l 0))):=
 hE.add (by kernel_rfl) fun fl args σ p σ' h=>by
  unfold sA at h
  split at h
  ·rename_i z xs tok g id
   split at h
   ·rename_i l hl
    split at h
    ·rename_i hc
     obtain⟨rfl,hz,hlen⟩:=hc
     split at h
     ·rename_i nm c1 c2 c3 c4 hid
      simp only[yAb,yAc]at h
      obtain⟨rfl,rfl⟩:=h
      rw[V3 hl]
      exact aN.AL (aNK hU h0 h1 fl l nm c1 c2 c3 c4 id σ hid hlen z tok (hz.imp yAf fun h=>h))
     ·cases h
    ·cases h
   ·cases h
  ·cases h
theorem aNM(h0:E 84=none)(h1:E 111=some (sA fun nm l=>.int .i64 (kV (kM nm) l 0)))(fl:Nat)(l:List cF)(nm:List UInt8)(c1 c2 c3:Int)(c4:Bool)(id:Nat)(τ:List aB)(hid:τ[id]?=some (.box (.agg [.str nm,.int .i64 c1,.int .i64 c2,.int .i64 c3,.bool c4])))(hl:l.length<=1000000)(z:Nat)(tok:Tok)(hz:l=[]\/z=5) :
  aN prog E fl (.inl 84) [.slice z (l.map Em.aP.U) tok,.func 85 [.ptr id 0]] τ (fun p1 σ1=>p1=.bool (l.any (kM nm))/\σ1=τ++(l.take (u7 (kM nm) l)).map uE):=by
 have hE:=aD3 (f:=fun nm l=>.int .i64 (kV (kM nm) l 0)) hz hl hid (tok:=tok)
 obtain⟨ρ,hρ⟩:=gn (τ++(l.take (u7 (kM nm) l)).map uE)
 rw[hρ]at hE
 rw[hρ,<-OW _ l 0]
 apply aN.aK h0 func84 rfl
 focus(simp[show Tryz.f84.ntmps=_ from rfl,List.replicate];rfl)
 have gx:=An @h1 (@hE)
 refine aC ?_
 clear gx
 exact⟨_,_,rfl,rfl,rfl⟩
theorem aI0(hE:aE prog E)(h0:E 84=none)(h1:E 111=some (sA fun nm l=>.int .i64 (kV (kM nm) l 0))):aE prog (E.add 84 (sA fun nm l=>.bool (l.any (kM nm)))):=
 hE.add (by kernel_rfl) fun fl args σ p σ' h=>by
  unfold sA at h
  split at h
  ·rename_i z xs tok g id
   split at h
   ·rename_i l hl
    split at h
    ·rename_i hc
     obtain⟨rfl,hz,hlen⟩:=hc
     split at h
     ·rename_i nm c1 c2 c3 c4 hid
      simp only[yAb,yAc]at h
      obtain⟨rfl,rfl⟩:=h
      rw[V3 hl]
      exact aN.AL (aNM hU h0 h1 fl l nm c1 c2 c3 c4 id σ hid hlen z tok (hz.imp yAf fun h=>h))
     ·cases h
    ·cases h
   ·cases h
  ·cases h
end
section
abbrev DE:Em (List (Int×Int)):=Em.bX.list 2
def AM(k:Nat):List cF->List cF->Int
 |_,[]=>0
 |pre,c::r=>if lZ c.name=false then 8 else if pre.any (kM c.name)=true then 9 else if c.nN<0\/(k:Int)<=c.nN\/c.dst<0\/(k:Int)<=c.dst then 10 else if c.shift < -127\/127<c.shift then 3 else if c.nN=c.dst/\c.shift=0 then 7 else AM k (pre++[c]) r
def J3(l:List (Int×Int)):Bool:=l.any fun x=>!decide (oX x.1 x.2=0)
def DD(ks:List (Int×Int))(l:List cF):Int:=if 8<ks.length\/40<l.length then 4 else if J3 ks=true then 23 else AM ks.length [] l
variable{E:aD}(hU:aI E)
include hU
theorem aI2(h0:E 40=none)(h1:E 82=some FC)(h2:E 36=some CA)(h3:E 84=some (sA fun nm l=>.bool (l.any (kM nm))))(ks:List (Int×Int))(l:List cF)(hks:ks.length<=1000000)(hl:l.length<=1000000)(hn:∀x∈l,uD x.name) :
  aS prog E 40 [DE.U ks,lA.U l] (i64.U (DD ks l)):=by
 unfold DD
 by_cases c1:8<ks.length
 ·have c2:8<(ks.length:Int):=by omega
  rw[if_pos (.inl c1)]
  apply aS.aK h0 func40 rfl
  focus(simp[show Tryz.f40.ntmps=_ from rfl,List.replicate];rfl)
  have gx:=An @c1 (@c2)
  refine aC ?_
  clear gx
  simp(disch:=first|omega|(simp;done)|(simp;omega)) [yAu]<;>try rfl
 have sF:¬8<(ks.length:Int):=by omega
 by_cases c2:40<l.length
 ·have c3:40<(l.length:Int):=by omega
  rw[if_pos (.inr c2)]
  apply aS.aK h0 func40 rfl
  focus(simp[show Tryz.f40.ntmps=_ from rfl,List.replicate];rfl)
  have gx:=An @c1 (An @sF (An @c2 (@c3)))
  refine aC ?_
  clear gx
  simp(disch:=first|omega|(simp;done)|(simp;omega)) [yAu]<;>try rfl
 have VG:¬40<(l.length:Int):=by omega
 rw[if_neg (fun h=>h.elim c1 c2)]
 obtain⟨B,hB⟩:∃B,(if J3 ks=true then(23:Int)else AM ks.length [] l)=B:=⟨_,rfl⟩
 rw[hB]
 apply aS.aK h0 func40 rfl
 focus(simp[show Tryz.f40.ntmps=_ from rfl,List.replicate];rfl)
 have gx:=An @c1 (An @sF (An @c2 (@VG)))
 refine aC ?_
 clear gx
 obtain⟨C,hC⟩:=gn (AM ks.length [] l)
 rw[hC]at hB
 refine Wp.cJ (fun m fr σ=>∃(i:Nat) (σ1:List aB),∃gg:Nat->PD,(i+m=ks.length/\(if J3 (ks.drop i)=true then(23:Int)else C)=B)/\fr=DE.U ks::lA.U l::gg 2::gg 3::gg 4::gg 5::gg 6::gg 7::gg 8::gg 9::gg 10::gg 11::gg 12::gg 13::gg 14::gg 15::gg 16::DE.U ks::.int .i64 ks.length::.int .i64 i::gg 20::gg 21::gg 22::gg 23::gg 24::gg 25::gg 26::gg 27::gg 28::gg 29::gg 30::gg 31::gg 32::gg 33::gg 34::gg 35::gg 36::gg 37::gg 38::gg 39::gg 40::gg 41::gg 42::gg 43::gg 44::gg 45::gg 46::gg 47::gg 48::gg 49::gg 50::gg 51::gg 52::gg 53::gg 54::gg 55::gg 56::gg 57::gg 58::gg 59::gg 60::gg 61::gg 62::gg 63::gg 64::gg 65::gg 66::gg 67::gg 68::gg 69::gg 70::gg 71::gg 72::gg 73::gg 74::gg 75::gg 76::gg 77::gg 78::gg 79::gg 80::gg 81::gg 82::gg 83::gg 84::gg 85::gg 86::gg 87::gg 88::[]/\σ=σ1) ?_ (ks.length) (by refine⟨0,[],?_⟩;exact bW (⟨by omega,hB⟩))
 rintro m fr σ ⟨i,σ1,gg,hI,rfl,rfl⟩
 obtain⟨hm,hs⟩:=hI
 by_cases hi:i<ks.length
 ·have q1:(i:Int)<(ks.length:Int):=by omega
  obtain⟨a,ha⟩:=gn (ks[i])
  have hc:ks.drop i=a::ks.drop (i+1):=by rw[yAq hi,ha]
  rw[hc]at hs
  obtain⟨a0,a1⟩:=a
  have hE:=VZ a0 a1
  have j0:∀x:aB,(σ++[x])[σ.length]?=some x:=fun x=>by simp
  have hcb:J3 ((a0,a1)::ks.drop (i+1))=(!decide (oX a0 a1=0)||J3 (ks.drop (i+1))):=rfl
  rw[hcb]at hs
  obtain⟨e,he⟩:=gn (oX a0 a1)
  rw[he]at hE hs
  by_cases c3:e=0
  ·subst c3
   simp only[decide_true,Bool.not_true,Bool.false_or]at hs
   have gx:=An @q1 (An @hi (An @ha (An @j0 (An @h1 (@hE)))))
   refine aC ?_
   clear gx
   refine bP.normal (m-1) (by omega) (by refine⟨i+1,σ++[.box (.agg [.int .i64 a0,.int .i64 a1])],?_⟩;exact bW (⟨by omega,hs⟩))
  ·simp only[c3,decide_false,Bool.not_false,Bool.true_or,if_true]at hs
   subst hs
   have gx:=An @q1 (An @hi (An @ha (An @j0 (An @h1 (An @hE (@c3))))))
   refine aC ?_
   clear gx
   simp(disch:=first|omega|(simp;done)|(simp;omega)) [yAu]<;>try rfl
 have q1:¬(i:Int)<(ks.length:Int):=by omega
 rw[yAs (by omega)]at hs
 have hs2:C=B:=hs
 rw[hs2]at hC
 clear hs hs2 hB
 have gx:=@q1
 refine aC ?_
 clear gx
 refine Wp.cJ (fun m fr σ=>∃(i:Nat) (σ1:List aB),∃gg:Nat->PD,(i+m=l.length/\AM ks.length (l.take i) (l.drop i)=B)/\fr=DE.U ks::lA.U l::gg 2::gg 3::gg 4::gg 5::gg 6::gg 7::gg 8::gg 9::gg 10::gg 11::gg 12::gg 13::gg 14::gg 15::gg 16::gg 17::gg 18::gg 19::gg 20::gg 21::gg 22::gg 23::gg 24::gg 25::gg 26::lA.U l::.int .i64 l.length::.int .i64 i::gg 30::gg 31::gg 32::gg 33::gg 34::gg 35::gg 36::gg 37::gg 38::gg 39::gg 40::gg 41::gg 42::gg 43::gg 44::gg 45::gg 46::gg 47::gg 48::gg 49::gg 50::gg 51::gg 52::gg 53::gg 54::gg 55::gg 56::gg 57::gg 58::gg 59::gg 60::gg 61::gg 62::gg 63::gg 64::gg 65::gg 66::gg 67::gg 68::gg 69::gg 70::gg 71::gg 72::gg 73::gg 74::gg 75::gg 76::gg 77::gg 78::gg 79::gg 80::gg 81::gg 82::gg 83::gg 84::gg 85::gg 86::gg 87::gg 88::[]/\σ=σ1) ?_ (l.length) (by refine⟨0,σ,?_⟩;exact bW (⟨by omega,hC⟩))
 rintro m fr σ ⟨i,σ1,gg,hI,rfl,rfl⟩
 obtain⟨hm,hs⟩:=hI
 by_cases hi:i<l.length
 ·have q1:(i:Int)<(l.length:Int):=by omega
  obtain⟨a,ha⟩:=gn (l[i])
  have hc:l.drop i=a::l.drop (i+1):=by rw[yAq hi,ha]
  have htk:l.take (i+1)=l.take i++[a]:=by rw[List.take_succ_eq_append_getElem hi,ha]
  have hna:=GR (hn a (ha▸yAm hi))
  rw[hc]at hs
  unfold AM at hs
  obtain⟨a0,a1,a2,a3,a4⟩:=a
  simp only at hs hna
  have j0:∀x:aB,(σ++[x])[σ.length]?=some x:=fun x=>by simp
  have hle:i<=l.length:=by omega
  cases c3:lZ a0 with
  |false=>
   rw[c3]at hna hs
   rw[if_pos rfl]at hs
   subst hs
   have gx:=An @q1 (An @hi (An @ha (An @j0 (An @h2 (@hna)))))
   refine aC ?_
   clear gx
   simp(disch:=first|omega|(simp;done)|(simp;omega)) [yAu]<;>try rfl
  |true=>
  rw[c3]at hna hs
  rw[if_neg (by simp)]at hs
  obtain⟨X,hX⟩:=gn (aB.box (.agg [.str a0,.int .i64 a1,.int .i64 a2,.int .i64 a3,.bool a4]))
  have hid:(σ++[X])[σ.length]?=some (.box (.agg [.str a0,.int .i64 a1,.int .i64 a2,.int .i64 a3,.bool a4])):=by rw[hX];exact j0 X
  have aNI:(l.take i=[]\/sz 5 l=5):=.inr (by simp[sz];intro h;rw[h]at hi;simp at hi)
  have hE:=aD3 (f:=fun nm l=>.bool (l.any (kM nm))) (z:=sz 5 l) (tok:=.any) aNI (by rw[yAt];omega) hid
  obtain⟨dY,iV⟩:=gn (σ++[X]++((l.take i).take (u7 (kM a0) (l.take i))).map uE)
  have vC:dY[σ.length]?=some (.box (.agg [.str a0,.int .i64 a1,.int .i64 a2,.int .i64 a3,.bool a4])):=by
   rw[<-iV,yAg (by simp),j0 X,hX]
  rw[iV]at hE
  obtain⟨lX,hxe⟩:=yA.1 vC
  rw[<-hX,List.map_take]at hE
  obtain⟨b,hb⟩:=gn ((l.take i).any (kM a0))
  rw[hb]at hE hs
  clear iV hX hid
  cases b with
  |true=>
   rw[if_pos rfl]at hs
   subst hs
   have gx:=An @q1 (An @hi (An @ha (An @j0 (An @h2 (An @hna (An @hle (An @h3 (An @hE (An @vC (An @lX (@hxe)))))))))))
   refine aC ?_
   clear gx
   simp(disch:=first|omega|(simp;done)|(simp;omega)) [yAu]<;>try rfl
  |false=>
  rw[if_neg (by simp)]at hs
  by_cases c4:a1<0
  ·rw[if_pos (.inl c4)]at hs
   subst hs
   have gx:=An @q1 (An @hi (An @ha (An @j0 (An @h2 (An @hna (An @hle (An @h3 (An @hE (An @vC (An @lX (An @hxe (@c4))))))))))))
   refine aC ?_
   clear gx
   simp(disch:=first|omega|(simp;done)|(simp;omega)) [yAu]<;>try rfl
  by_cases c5:(ks.length:Int)<=a1
  ·rw[if_pos (.inr (.inl c5))]at hs
   subst hs
   have gx:=An @q1 (An @hi (An @ha (An @j0 (An @h2 (An @hna (An @hle (An @h3 (An @hE (An @vC (An @lX (An @hxe (An @c4 (@c5)))))))))))))
   refine aC ?_
   clear gx
   simp(disch:=first|omega|(simp;done)|(simp;omega)) [yAu]<;>try rfl
  by_cases c6:a2<0
  ·rw[if_pos (.inr (.inr (.inl c6)))]at hs
   subst hs
   have gx:=An @q1 (An @hi (An @ha (An @j0 (An @h2 (An @hna (An @hle (An @h3 (An @hE (An @vC (An @lX (An @hxe (An @c4 (An @c5 (@c6))))))))))))))
   refine aC ?_
   clear gx
   simp(disch:=first|omega|(simp;done)|(simp;omega)) [yAu]<;>try rfl
  by_cases c7:(ks.length:Int)<=a2
  ·rw[if_pos (.inr (.inr (.inr c7)))]at hs
   subst hs
   have gx:=An @q1 (An @hi (An @ha (An @j0 (An @h2 (An @hna (An @hle (An @h3 (An @hE (An @vC (An @lX (An @hxe (An @c4 (An @c5 (An @c6 (@c7)))))))))))))))
   refine aC ?_
   clear gx
   simp(disch:=first|omega|(simp;done)|(simp;omega)) [yAu]<;>try rfl
  rw[if_neg (fun h=>h.elim c4 fun h=>h.elim c5 fun h=>h.elim c6 c7)]at hs
  by_cases c8:a3 < -127
  ·rw[if_pos (.inl c8)]at hs
   subst hs
   have gx:=An @q1 (An @hi (An @ha (An @j0 (An @h2 (An @hna (An @hle (An @h3 (An @hE (An @vC (An @lX (An @hxe (An @c4 (An @c5 (An @c6 (An @c7 (@c8))))))))))))))))
   refine aC ?_
   clear gx
   simp(disch:=first|omega|(simp;done)|(simp;omega)) [yAu]<;>try rfl
  by_cases c9:127<a3
  ·rw[if_pos (.inr c9)]at hs
   subst hs
   have gx:=An @q1 (An @hi (An @ha (An @j0 (An @h2 (An @hna (An @hle (An @h3 (An @hE (An @vC (An @lX (An @hxe (An @c4 (An @c5 (An @c6 (An @c7 (An @c8 (@c9)))))))))))))))))
   refine aC ?_
   clear gx
   simp(disch:=first|omega|(simp;done)|(simp;omega)) [yAu]<;>try rfl
  rw[if_neg (fun h=>h.elim c8 c9)]at hs
  have hst:AM ks.length (l.take (i+1)) (l.drop (i+1))=AM ks.length (l.take i++[⟨a0,a1,a2,a3,a4⟩]) (l.drop (i+1)):=by rw[htk]
  by_cases sO:a1=a2
  ·by_cases wQ:a3=0
   ·rw[if_pos ⟨sO,wQ⟩]at hs
    subst hs
    subst sO
    subst wQ
    have gx:=An @q1 (An @hi (An @ha (An @j0 (An @h2 (An @hna (An @hle (An @h3 (An @hE (An @vC (An @lX (An @hxe (An @c4 (An @c5 (An @c8 (@c9)))))))))))))))
    refine aC ?_
    clear gx
    simp(disch:=first|omega|(simp;done)|(simp;omega)) [yAu]<;>try rfl
   ·rw[if_neg (fun h=>wQ h.2)]at hs
    subst sO
    have gx:=An @q1 (An @hi (An @ha (An @j0 (An @h2 (An @hna (An @hle (An @h3 (An @hE (An @vC (An @lX (An @hxe (An @c4 (An @c5 (An @c8 (An @c9 (@wQ))))))))))))))))
    refine aC ?_
    clear gx
    refine bP.normal (m-1) (by omega) (by refine⟨i+1,dY,?_⟩;exact bW (⟨by omega,by rw[hst];exact hs⟩))
  ·rw[if_neg (fun h=>sO h.1)]at hs
   have gx:=An @q1 (An @hi (An @ha (An @j0 (An @h2 (An @hna (An @hle (An @h3 (An @hE (An @vC (An @lX (An @hxe (An @c4 (An @c5 (An @c6 (An @c7 (An @c8 (An @c9 (@sO))))))))))))))))))
   refine aC ?_
   clear gx
   refine bP.normal (m-1) (by omega) (by refine⟨i+1,dY,?_⟩;exact bW (⟨by omega,by rw[hst];exact hs⟩))
 ·have q1:¬(i:Int)<(l.length:Int):=by omega
  rw[yAs (by omega)]at hs
  have eU:B=0:=hs.symm
  have gx:=@q1
  refine aC ?_
  clear gx
  simp(disch:=first|omega|(simp;done)|(simp;omega)) [yAu,eU]<;>try rfl
end
section
def wP(ns:List (List UInt8)):List (PD×PD):=ns.map fun n=>(.str n,.bool true)
def jM(ns:List (List UInt8)):aB:=.map (wP ns)
def n8(ns:List (List UInt8))(nm:List UInt8):Bool:=ns.any fun n=>nm==n
theorem aDZ(nm:List UInt8):∀(ns:List (List UInt8)) (i:Nat),n8 ns nm=true->∃j,uN (.str nm) (wP ns) i=some (some (j,.bool true))
 | [],_,h=>by cases h
 |n::ns,i,h=>by
  cases e:nm==n with
  |true=>exact⟨i,by simp only[wP,List.map_cons,uN,BW,e]⟩
  |false=>
   have h2:n8 ns nm=true:=by simpa [n8,List.any_cons,e]using h
   obtain⟨j,hj⟩:=aDZ nm ns (i+1) h2
   exact⟨j,by simp only[wP,List.map_cons,uN,BW,e];exact hj⟩
theorem V0(nm:List UInt8):∀(ns:List (List UInt8)) (i:Nat),n8 ns nm=false->uN (.str nm) (wP ns) i=some none
 | [],_,_=>rfl
 |n::ns,i,h=>by
  simp only[n8,List.any_cons,Bool.or_eq_false_iff]at h
  simp only[wP,List.map_cons,uN,BW,h.1]
  exact V0 nm ns (i+1) h.2
theorem OT:(prog).underlying 104=some (.map 9 4):=by kernel_rfl
theorem aD0(nm:List UInt8):EO prog 9 (.str nm)=true:=by
 have h:(prog).underlying 9=some .string:=by kernel_rfl
 unfold EO
 rw[h]
theorem aNE:eE prog 4=some (.bool false):=by rfl
theorem aD1{σ:List aB}{id:Nat}{ns:List (List UInt8)}(h:σ[id]?=some (jM ns))(nm:List UInt8):EP prog σ 104 (.fD id) (.str nm) false=some (.bool (n8 ns nm)):=by
 unfold EP
 simp only[OT,aD0,if_true,h,jM]
 cases e:n8 ns nm with
 |true=>
  obtain⟨j,hj⟩:=aDZ nm ns 0 e
  simp only[hj]
  rfl
 |false=>
  simp only[V0 nm ns 0 e,aNE]
  rfl
theorem aNF{σ:List aB}{id fl:Nat}{ns:List (List UInt8)}(h:σ[id]?=some (jM ns))(hf:fl<=id)(nm:List UInt8)(hn:n8 ns nm=false):ER prog fl σ 104 (.fD id) (.str nm) (.bool true)=some (σ.set id (jM (ns++[nm]))):=by
 unfold ER
 simp only[OT,aD0,if_true,h,jM,hf,V0 nm ns 0 hn]
 simp[wP]
variable{E:aD}(hU:aI E)
include hU
theorem aNG(h0:E 38=none)(fl id:Nat)(ns:List (List UInt8))(nm:List UInt8)(τ:List aB)(h:τ[id]?=some (jM ns))(hn:n8 ns nm=true) :
  aN prog E fl (.inl 38) [.fD id,.str nm] τ (fun p1 σ1=>p1=.int .i64 9/\σ1=τ):=by
 have hl:=aD1 h nm
 rw[hn]at hl
 apply aN.aK h0 func38 rfl
 focus(simp[show Tryz.f38.ntmps=_ from rfl,List.replicate];rfl)
 have gx:=@hl
 refine lN ?_
 clear gx
 exact⟨_,_,rfl,rfl,rfl⟩
theorem aNH(h0:E 38=none)(fl id:Nat)(ns:List (List UInt8))(nm:List UInt8)(τ:List aB)(h:τ[id]?=some (jM ns))(hf:fl<=id)(hn:n8 ns nm=false) :
  aN prog E fl (.inl 38) [.fD id,.str nm] τ (fun p1 σ1=>p1=.int .i64 0/\σ1=τ.set id (jM (ns++[nm]))):=by
 have hl:=aD1 h nm
 rw[hn]at hl
 have hp:=aNF h hf nm hn
 apply aN.aK h0 func38 rfl
 focus(simp[show Tryz.f38.ntmps=_ from rfl,List.replicate];rfl)
 have gx:=An @hl (@hp)
 refine lN ?_
 clear gx
 exact⟨_,_,rfl,rfl,rfl⟩
omit hU in
def AK:List (PD×PD)->Option (List (List UInt8))
 | []=>some []
 |(.str n,.bool true)::r=>match AK r with|some l=>some (n::l)|none=>none
 |_=>none
omit hU in
theorem aD2:∀ {es:List (PD×PD)} {l:List (List UInt8)},AK es=some l->es=wP l
 | [],l,h=>by simp only[AK,yAb]at h;subst h;rfl
 |x::r,l,h=>by
  unfold AK at h
  split at h
  ·cases ‹_::_=_›
  ·rename_i n r' e
   simp only[List.cons.injEq]at e
   obtain⟨rfl,rfl⟩:=e
   split at h
   ·rename_i l' hl
    simp only[yAb]at h
    subst h
    rw[aD2 hl]
    rfl
   ·cases h
  ·cases h
omit hU in
@[simp] theorem V1:∀l:List (List UInt8),AK (wP l)=some l
  | []=>rfl
  |n::l=>by
   show AK ((.str n,.bool true)::wP l)=_
   simp only[AK,V1 l]
omit hU in
def uR:Nat->List PD->List aB->Option (PD×List aB):=fun fl args σ=>match args with
 | [.fD id,.str nm]=>match σ[id]? with
   |some (.map es)=>match AK es with
    |some ns=>if n8 ns nm=true then some (.int .i64 9,σ)else if fl<=id then some (.int .i64 0,σ.set id (jM (ns++[nm])))else none
    |none=>none
   |_=>none
 |_=>none
omit hU in
theorem VV{fl id:Nat}{ns:List (List UInt8)}{nm:List UInt8}{σ:List aB}(h:σ[id]?=some (jM ns))(hn:n8 ns nm=true):uR fl [.fD id,.str nm] σ=some (.int .i64 9,σ):=by
 unfold uR
 simp only[h,jM,V1,hn,if_true]
omit hU in
theorem VW{fl id:Nat}{ns:List (List UInt8)}{nm:List UInt8}{σ:List aB}(h:σ[id]?=some (jM ns))(hn:n8 ns nm=false)(hf:fl<=id):uR fl [.fD id,.str nm] σ=some (.int .i64 0,σ.set id (jM (ns++[nm]))):=by
 unfold uR
 simp only[h,jM,V1,hn,hf,if_true]
 rfl
theorem aI4(hE:aE prog E)(h0:E 38=none):aE prog (E.add 38 uR):=
 hE.add (by kernel_rfl) fun fl args σ p σ' h=>by
  unfold uR at h
  split at h
  ·rename_i id nm
   split at h
   ·rename_i es hes
    split at h
    ·rename_i ns hns
     have hm:σ[id]?=some (jM ns):=by rw[hes,aD2 hns];rfl
     split at h
     ·rename_i hs
      simp only[yAb,yAc]at h
      obtain⟨rfl,rfl⟩:=h
      exact aN.AL (aNG hU h0 fl id ns nm σ hm hs)
     ·rename_i hs
      split at h
      ·rename_i hf
       simp only[yAb,yAc]at h
       obtain⟨rfl,rfl⟩:=h
       exact aN.AL (aNH hU h0 fl id ns nm σ hm hf (by simpa using hs))
      ·cases h
    ·cases h
   ·cases h
  ·cases h
end
section
def J2(rs:List bM)(lo hg:Int):List (List UInt8)->List dG->Int
 |_,[]=>0
 |ns,s::r=>if DF rs lo hg s≠0 then DF rs lo hg s else if n8 ns s.name=true then 9 else J2 rs lo hg (ns++[s.name]) r
def DC(rs:List bM)(d:cU):Int:=if oX d.low d.high≠0 then oX d.low d.high else if 60<d.stops.length then 4 else J2 rs d.low d.high [] d.stops
def OS(s:dG):Prop:=wW s/\uD s.name
def NG:Nat->List PD->List aB->Option (PD×List aB):=entry (fQ Em.place Em.stop i64 fun x s=>dX (yH x.1/\OS s) (some (DF x.1 x.2.1 x.2.2 s)))
theorem aND{rs:List bM}{s:dG}(h:yH rs)(hs:OS s)(lo hg:Int)(fl:Nat)(σ:List aB):NG fl [.agg [aX.U rs,.int .i64 lo,.int .i64 hg],Em.stop.U s] σ=some (.int .i64 (DF rs lo hg s),σ):=by
 have e1:=Em.dC (Em.place.str (rs,lo,hg))
 rw[VY]at e1
 have e2:=Em.dC (Em.stop.str s)
 unfold NG entry fQ
 simp only[e1,e2]
 rw[fB ⟨h,hs⟩]
 rfl
variable{E:aD}(hU:aI E)
include hU
theorem aI6(h0:E 39=none)(h1:E 82=some FC)(h2:E 83=some NG)(h3:E 38=some uR)(o:bY)(hrs:yH o.aX)(d:cU)(hd:d.stops.length<=1000000/\∀s∈d.stops,OS s) :
  aS prog E 39 [Em.aT.U o,Em.div.U d] (i64.U (DC o.aX d)):=by
 obtain⟨on,rs,od,oc⟩:=o
 obtain⟨dn,dp,lo,hg,l⟩:=d
 have hC:=VZ lo hg
 obtain⟨hdl,hds⟩:=hd
 simp only at hrs hdl hds
 unfold DC
 simp only[fH,A2,bJ]
 obtain⟨c,hc⟩:=gn (oX lo hg)
 rw[hc]at hC ⊢
 by_cases c1:c=0
 rotate_left
 ·rw[if_pos c1]
  apply aS.aK h0 func39 rfl
  focus(simp[show Tryz.f39.ntmps=_ from rfl,List.replicate];rfl)
  have gx:=An @h1 (An @hC (@c1))
  refine lN ?_
  clear gx
  simp(disch:=first|omega|(simp;done)|(simp;omega)) [yAu]<;>try rfl
 subst c1
 simp only[ne_eq,not_true_eq_false,if_false]
 by_cases c2:60<l.length
 ·have c3:60<(l.length:Int):=by omega
  rw[if_pos c2]
  apply aS.aK h0 func39 rfl
  focus(simp[show Tryz.f39.ntmps=_ from rfl,List.replicate];rfl)
  have gx:=An @h1 (An @hC (An @c2 (@c3)))
  refine lN ?_
  clear gx
  simp(disch:=first|omega|(simp;done)|(simp;omega)) [yAu]<;>try rfl
 have c3:¬60<(l.length:Int):=by omega
 rw[if_neg c2]
 obtain⟨B,hB⟩:=gn (J2 rs lo hg [] l)
 rw[hB]
 have us:=OT
 apply aS.aK h0 func39 rfl
 focus(simp[show Tryz.f39.ntmps=_ from rfl,List.replicate];rfl)
 have gx:=An @h1 (An @hC (An @c2 (An @c3 (@us))))
 refine lN ?_
 clear gx
 obtain⟨X,hX⟩:=gn (aB.box (.agg [.str on,.slice (sz 6 rs) (rs.map Em.aR.U) .any,.slice (sz 5 od) (od.map Em.div.U) .any,.slice (sz 5 oc) (oc.map Em.aP.U) .any]))
 obtain⟨Y,hY⟩:=gn (aB.box (.agg [.str dn,.bool dp,.int .i64 lo,.int .i64 hg,.slice (sz 4 l) (l.map Em.stop.U) .any]))
 refine Wp.cJ (fun m fr σ=>∃(i:Nat) (σ1:List aB),∃gg:Nat->PD,(i+m=l.length/\σ1[0]?=some X/\σ1[1]?=some Y/\σ1[2]?=some (jM ((l.take i).map dG.name))/\J2 rs lo hg ((l.take i).map dG.name) (l.drop i)=B)/\fr=[gg 0,gg 1,.ptr 0 0,.ptr 1 0,gg 4,gg 5,.fD 2,gg 7,gg 8,gg 9,gg 10,gg 11,gg 12,gg 13,gg 14,gg 15,gg 16,gg 17,gg 18,gg 19,gg 20,gg 21,gg 22,j6.U l,.int .i64 l.length,.int .i64 i,gg 26,gg 27,gg 28,gg 29,gg 30,gg 31,gg 32,gg 33,gg 34,gg 35,gg 36,gg 37,gg 38,gg 39,gg 40,gg 41,gg 42,gg 43,gg 44,gg 45,gg 46]/\σ=σ1) ?_ (l.length) (by refine⟨0,[X,Y,.map []],?_⟩;exact cW (⟨by omega,rfl,rfl,rfl,hB⟩) (by(first|rfl|(simp[hX,hY];repeat(first|rfl|(apply And.intro)))|(simp[hX,hY];done))) (by(first|rfl|(simp[hX,hY];repeat(first|rfl|(apply And.intro)))|(simp[hX,hY];done))))
 rintro m fr σ ⟨i,σ1,gg,hI,rfl,rfl⟩
 obtain⟨hm,hx0,hy0,xN,hs⟩:=hI
 by_cases hi:i<l.length
 ·have q1:(i:Int)<(l.length:Int):=by omega
  obtain⟨a,ha⟩:=gn (l[i])
  have J1:l.drop i=a::l.drop (i+1):=by rw[yAq hi,ha]
  have htk:(l.take (i+1)).map dG.name=(l.take i).map dG.name++[a.name]:=by rw[List.take_succ_eq_append_getElem hi,ha,yBh];rfl
  have hE:=aND hrs (hds a (ha▸yAm hi)) lo hg
  rw[J1]at hs
  unfold J2 at hs
  have hx1:=hx0
  have hy1:=hy0
  rw[<-hX]at hx1
  rw[<-hY]at hy1
  obtain⟨fX,hxe⟩:=yA.1 hx1
  obtain⟨kK,hye⟩:=yA.1 hy1
  obtain⟨lX,hze⟩:=yA.1 xN
  obtain⟨a0,a1,a2,a3⟩:=a
  have j0:∀x:aB,(σ++[x])[σ.length]?=some x:=fun x=>by simp
  obtain⟨e,he⟩:=gn (DF rs lo hg ⟨a0,a1,a2,a3⟩)
  rw[he]at hE hs
  simp only[vU,bJ]at hE
  simp only at hs htk
  by_cases c4:e=0
  rotate_left
  ·rw[if_pos c4]at hs
   subst hs
   have gx:=An @q1 (An @hi (An @ha (An @j0 (An @hx1 (An @hy1 (An @fX (An @kK (An @hxe (An @hye (An @h2 (An @hE (@c4))))))))))))
   refine lN ?_
   clear gx
   simp(disch:=first|omega|(simp;done)|(simp;omega)) [yAu]<;>try rfl
  subst c4
  simp only[ne_eq,not_true_eq_false,if_false]at hs
  obtain⟨Z,hZ⟩:=gn (aB.box (.agg [.str a0,.int .i64 a1,.int .i64 a2,.slice (sz 3 a3) (a3.map Em.bL.U) .any]))
  have hmz:(σ++[Z])[2]?=some (jM ((l.take i).map dG.name)):=by rw[yAg lX];exact xN
  cases hb:n8 ((l.take i).map dG.name) a0 with
  |true=>
   rw[hb]at hs
   rw[if_pos rfl]at hs
   subst hs
   have hA:=fun fl=>VV (fl:=fl) hmz hb
   rw[<-hZ]at hA
   have gx:=An @q1 (An @hi (An @ha (An @j0 (An @hx1 (An @hy1 (An @fX (An @kK (An @hxe (An @hye (An @h2 (An @hE (An @h3 (@hA)))))))))))))
   refine lN ?_
   clear gx
   simp(disch:=first|omega|(simp;done)|(simp;omega)) [yAu]<;>try rfl
  |false=>
   rw[hb]at hs
   rw[if_neg (by simp)]at hs
   have hA:=VW (fl:=0) hmz hb (yBf _)
   obtain⟨dY,iV⟩:=gn ((σ++[Z]).set 2 (jM ((l.take i).map dG.name++[a0])))
   have t0:dY[0]?=some X:=by rw[<-iV,yAd (by omega),yAg fX];exact hx0
   have t1:dY[1]?=some Y:=by rw[<-iV,yAd (by omega),yAg kK];exact hy0
   have t2:dY[2]?=some (jM ((l.take i).map dG.name++[a0])):=by rw[<-iV];exact yAj (by simp;omega)
   rw[iV]at hA
   rw[<-hZ]at hA
   clear iV
   have gx:=An @q1 (An @hi (An @ha (An @j0 (An @hx1 (An @hy1 (An @fX (An @kK (An @hxe (An @hye (An @h2 (An @hE (An @h3 (@hA)))))))))))))
   refine lN ?_
   clear gx
   refine bP.normal (m-1) (by omega) (by refine⟨i+1,dY,?_⟩;exact bW (⟨by omega,t0,t1,by rw[htk];exact t2,by rw[htk];exact hs⟩))
 ·have q1:¬(i:Int)<(l.length:Int):=by omega
  rw[yAs (by omega)]at hs
  have eU:B=0:=hs.symm
  have gx:=@q1
  refine lN ?_
  clear gx
  simp(disch:=first|omega|(simp;done)|(simp;omega)) [yAu,eU]<;>try rfl
end
section
theorem aM1(n:Int)(h:eG n):lT prog 125 (.slice 1 [.str [79,112,101,110],.str [70,108,117,116,101],.str [82,101,101,100]] .full) (.int .u8 (n.tmod 3))=some (.eF [.str (zV n)] 0):=by
 obtain⟨k,rfl⟩:∃k:Nat,n=k:=⟨n.toNat,by have:=h.1;omega⟩
 have hm:(k:Int).tmod 3=((k%3:Nat):Int):=rfl
 have hs:zV k=GF.getD (k%3) []:=by
  unfold zV
  congr 1
 rw[hm,hs]
 have hlt:k%3<3:=Nat.mod_lt _ (by decide)
 generalize k%3=j at hlt
 match j,hlt with
 |0,_=>exact rfl
 |1,_=>exact rfl
 |2,_=>exact rfl
theorem aM2(x:nM)(k:Nat)(hk:k<=1000)(id off:Nat):lT prog 93 (.ptr id off) (.int .i64 ((k:Int).tmod 5))=some (.ptr id (off+k%5)) /\
  [PD.int .u8 x.jN,.int .u8 x.bX,.int .i8 x.first,.int .u8 x.A1,.int .u8 x.w0,.int .u8 x.w1,.int .u8 x.w2,.int .u8 x.w3,.int .u8 x.w4][4+k%5]?=some (.int .u8 (yC x k)):=by
 have hm:(k:Int).tmod 5=((k%5:Nat):Int):=rfl
 have hs:yC x k=[x.w0,x.w1,x.w2,x.w3,x.w4].getD (k%5) 0:=rfl
 rw[hm,hs]
 have hlt:k%5<5:=Nat.mod_lt _ (by decide)
 generalize k%5=j at hlt
 match j,hlt with
 |0,_=>exact⟨rfl,rfl⟩
 |1,_=>exact⟨rfl,rfl⟩
 |2,_=>exact⟨rfl,rfl⟩
 |3,_=>exact⟨rfl,rfl⟩
 |4,_=>exact⟨rfl,rfl⟩
variable{E:aD}(hU:aI E)
include hU
theorem aJh(h0:E 32=none)(h1:E 68=some (entry (b9 jO Em.bX fun n=>dX (eG n) (some (nE n)))))(x:nM)(hx:DT x)(i:Nat)(hi:i<10) :
  aS prog E 32 [Em.vP.U x,.int .i64 i] (Em.aR.U (oF x i)):=by
 have hw:=aM2 x
 have hwl:∀k,(uW x k).length=k:=fun k=>by simp[uW]
 have hws:∀k,uW x (k+1)=uW x k++[yC x k]:=fun k=>by simp[uW,List.range_succ]
 have hwb:∀k,0<=yC x k/\yC x k<=255:=fun k=>by
  have hlt:k%5<5:=Nat.mod_lt _ (by decide)
  unfold yC
  generalize k%5=j at hlt
  match j,hlt with
  |0,_=>exact hx.2.2.2.2.1
  |1,_=>exact hx.2.2.2.2.2.1
  |2,_=>exact hx.2.2.2.2.2.2.1
  |3,_=>exact hx.2.2.2.2.2.2.2.1
  |4,_=>exact hx.2.2.2.2.2.2.2.2
 obtain⟨W,hW⟩:=gn (uW x)
 obtain⟨wa,hwa⟩:=gn (yC x)
 obtain⟨dg,hdg⟩:=gn (UInt8.ofNat (48+(i:Int)).toNat)
 have hR:oF x i=⟨[82,dg],zV x.jN,(nE x.bX).1,(nE x.bX).2,x.first,W (1+(x.A1%25).toNat)⟩:=by
  rw[<-hW]
  unfold oF digit
  rw[Nat.mod_eq_of_lt hi,<-hdg,show(48+(i:Int)).toNat=48+i by omega]
 rw[hR]
 rw[hwa]at hw hws hwb
 rw[hW]at hws hwl
 clear hR hW hwa
 obtain⟨t,f,fi,pi,w0,w1,w2,w3,w4⟩:=x
 obtain⟨ht,hf,hfi,hpi,g0,g1,g2,g3,g4⟩:=hx
 simp only at hw ht hf hfi hpi
 obtain⟨p,rfl⟩:∃p:Nat,pi=p:=⟨pi.toNat,by have:=hpi.1;omega⟩
 have aS4:p%25<25:=Nat.mod_lt _ (by decide)
 obtain⟨N,hN⟩:=gn (p%25)
 have e1:((p:Int)).tmod 25=(N:Int):=by rw[<-hN];rfl
 have e2:IntKind.i64.wrap (N:Int)=(N:Int):=by rw[IntKind.wrap_i64];omega
 have e3:IntKind.i64.wrap (1+(N:Int))=1+(N:Int):=by rw[IntKind.wrap_i64];omega
 have e4:((p:Int)%25).toNat=N:=by omega
 simp only[XU,vT,bJ,e4]
 have hT:=aM1 t ht
 have d1:((i:Int)).tmod 10=(i:Int):=Int.tmod_eq_of_lt (by omega) (by omega)
 have d2:IntKind.i64.wrap (48+(i:Int))=48+(i:Int):=by rw[IntKind.wrap_i64];omega
 have d3:IntKind.u8.wrap (48+(i:Int))=48+(i:Int):=by simp only[IntKind.wrap,IntKind.bits,IntKind.signed];simp;omega
 have d4:IntKind.i64.wrap fi=fi:=by have:=hfi.1;have:=hfi.2;rw[IntKind.wrap_i64];omega
 have hF:∀fl σ,entry (b9 jO Em.bX fun n=>dX (eG n) (some (nE n))) fl [.int .u8 f] σ=some (.agg [.int .i64 (nE f).1,.int .i64 (nE f).2],σ):=fun fl σ=>by
  have e:jO.dec (.int .u8 f)=some f:=Em.dC rfl
  unfold entry b9
  simp only[e]
  rw[fB hf]
  rfl
 apply aS.aK h0 func32 rfl
 focus(simp[show Tryz.f32.ntmps=_ from rfl,List.replicate];rfl)
 have gx:=An @h1 (An @hT (An @d1 (An @d2 (An @d3 (An @d4 (An @hdg (@hF)))))))
 refine aC ?_
 clear gx
 have JK:W 0=[]:=yAf (hwl 0)
 refine Wp.cJ (fun m fr σ=>∃(k z:Nat),∃gg:Nat->PD,(k+m=1+N/\(W k=[]\/z=1))/\fr=[gg 0,gg 1,.ptr 0 0,gg 3,.ptr 1 0,.ptr 2 0,.int .i64 k,gg 7,gg 8,gg 9,gg 10,gg 11,gg 12,gg 13,gg 14,gg 15,gg 16,gg 17,gg 18,gg 19,gg 20,gg 21,gg 22,gg 23,gg 24,gg 25,gg 26,gg 27,gg 28,gg 29,gg 30,gg 31,gg 32,gg 33,gg 34,gg 35,gg 36,gg 37,gg 38,gg 39,gg 40,gg 41,gg 42,gg 43,gg 44,gg 45,gg 46,gg 47]/\σ=St [.box (.agg [.int .u8 t,.int .u8 f,.int .i8 fi,.int .u8 p,.int .u8 w0,.int .u8 w1,.int .u8 w2,.int .u8 w3,.int .u8 w4]),.box (.agg [.str [],.str [],.int .i64 0,.int .i64 0,.int .i64 0,.slice 0 [] .full]),.box (.agg [.str [82,dg],.str (zV t),.int .i64 (nE f).1,.int .i64 (nE f).2,.int .i64 fi,.slice z ((W k).map i64.U) (jB 3 (W k).length)])] 3 1 (W k).length) ?_ (1+N) (by refine⟨0,0,?_⟩;exact cW (⟨by omega,.inl JK⟩) (by(first|rfl|(simp[JK,jB];repeat(first|rfl|(apply And.intro)))|(simp[JK,jB];done))) (by(first|rfl|(simp[JK,jB];repeat(first|rfl|(apply And.intro)))|(simp[JK,jB];done))))
 rintro m fr σ ⟨k,z,gg,hI,rfl,rfl⟩
 obtain⟨hm,hz⟩:=hI
 by_cases hk:k<1+N
 ·have q1:(k:Int)<1+(N:Int):=by omega
  obtain⟨hw1,JL⟩:=hw k (by omega) 0 4
  obtain⟨aS5,hw3⟩:=yA.1 JL
  have cY:IntKind.i64.wrap (wa k)=wa k:=by have:=hwb k;rw[IntKind.wrap_i64];omega
  have hl:=hwl k
  have gx:=An @e1 (An @e2 (An @e3 (An @q1 (An @hw1 (An @JL (An @hw3 (An @cY (An @hz (@hl)))))))))
  refine aC ?_
  clear gx
  refine bP.normal (m-1) (by omega) (by refine⟨k+1,1,?_⟩;exact cW (⟨by omega,.inr rfl⟩) (by(first|rfl|(simp[hws,hl];repeat(first|rfl|(apply And.intro)))|(simp[hws,hl];done))) (by(first|rfl|(simp[hws,hl];repeat(first|rfl|(apply And.intro)))|(simp[hws,hl];done))))
 ·have q1:¬(k:Int)<1+(N:Int):=by omega
  obtain rfl:k=1+N:=by omega
  have gx:=An @e1 (An @e2 (An @e3 (@q1)))
  refine aC ?_
  clear gx
  have hne:W (1+N)≠[]:=fun h=>by have:=hwl (1+N);rw[h]at this;simp at this;omega
  have gL:z=1:=hz.resolve_left hne
  subst gL
  simp(disch:=first|omega|(simp;done)|(simp;omega)) [yAu,hwl,cG hne]<;>try rfl
end
section
theorem aDp(n:Int)(h:eG n):gN n∈xU:=by
 obtain⟨k,rfl⟩:∃k:Nat,n=k:=⟨n.toNat,by have:=h.1;omega⟩
 have hs:gN k=xU.getD (k%6) (8,1):=by
  unfold gN
  congr 1
 rw[hs]
 have hlt:k%6<6:=Nat.mod_lt _ (by decide)
 generalize k%6=j at hlt
 match j,hlt with
 |0,_=>decide
 |1,_=>decide
 |2,_=>decide
 |3,_=>decide
 |4,_=>decide
 |5,_=>decide
theorem aMW(n:Int)(h:eG n):nE n∈q9:=by
 obtain⟨k,rfl⟩:∃k:Nat,n=k:=⟨n.toNat,by have:=h.1;omega⟩
 have hs:nE k=q9.getD (k%16) (8,1):=by
  unfold nE
  congr 1
 rw[hs]
 have hlt:k%16<q9.length:=Nat.mod_lt _ (by decide)
 rw[yBa,yAh hlt]
 exact yAm hlt
theorem VE(a b:Int×Int):-60<=nD a b/\nD a b<=64:=by
 unfold nD
 cases h:VF.find? fun t=>decide (t.1=a)&&decide (t.2.1=b)with
 |none=>exact⟨by decide,by decide⟩
 |some t=>
  have hm:=List.mem_of_find?_eq_some h
  exact(by decide:∀t∈VF,-60<=t.2.2/\t.2.2<=64) t hm
def B9:Nat->List PD->List aB->Option (PD×List aB):=entry (fQ Em.bX Em.bX (Em.qR i64 i64) fun a b=>dX (a∈xU/\b∈q9) (some (nD a b,0)))
theorem aDq{a b:Int×Int}(ha:a∈xU)(hb:b∈q9)(fl:Nat)(σ:List aB):B9 fl [.agg [.int .i64 a.1,.int .i64 a.2],.agg [.int .i64 b.1,.int .i64 b.2]] σ=some (.aH [.int .i64 (nD a b),.int .i64 0],σ):=by
 have e1:Em.bX.dec (.agg [.int .i64 a.1,.int .i64 a.2])=some a:=Em.dC (Em.bX.str a)
 have e2:Em.bX.dec (.agg [.int .i64 b.1,.int .i64 b.2])=some b:=Em.dC (Em.bX.str b)
 unfold B9 entry fQ
 simp only[e1,e2]
 rw[fB ⟨ha,hb⟩]
 rfl
variable{E:aD}(hU:aI E)
include hU
theorem aH7(h0:E 33=none)(h1:E 69=some (entry (b9 jO Em.bX fun n=>dX (eG n) (some (gN n)))))(h2:E 70=some B9)
  (rs:List bM) (hrs:∀r∈rs,(r.num,r.den)∈q9) (mF:1<=rs.length) (qT:rs.length<=60) (lo hg:Int) (hlo:0<=lo) (hlh:lo<=hg) (hhg:hg<=200) (x:oY) (hx:DY x) (i:Nat) (aS3:i<10) :
  aS prog E 33 [aX.U rs,.agg [.int .i64 lo,.int .i64 hg],Em.pull.U x,.int .i64 i] (Em.stop.U (rG rs lo hg x i)):=by
 obtain⟨r,f,k,a⟩:=x
 obtain⟨hr,hf,hk,ha⟩:=hx
 simp only at hr hf hk ha
 obtain⟨r,rfl⟩:∃q:Nat,r=q:=⟨r.toNat,by have:=hr.1;omega⟩
 obtain⟨k,rfl⟩:∃q:Nat,k=q:=⟨k.toNat,by have:=hk.1;omega⟩
 obtain⟨a,rfl⟩:∃q:Nat,a=q:=⟨a.toNat,by have:=ha.1;omega⟩
 have hrb:=hr.2
 have hab:=ha.2
 obtain⟨n,hn⟩:=gn (r%rs.length)
 have hnl:n<rs.length:=by rw[<-hn];exact Nat.mod_lt _ mF
 obtain⟨m,hm⟩:=gn ((n+1)%rs.length)
 have hml:m<rs.length:=by rw[<-hm];exact Nat.mod_lt _ mF
 have c1:(r:Int).tmod (rs.length:Int)=n:=by rw[<-hn];rfl
 have sF:(r:Int)%(rs.length:Int)=n:=by rw[<-hn];rfl
 have c2:((n:Int)+1).tmod (rs.length:Int)=m:=by rw[<-hm];rfl
 have VG:((n:Int)+1)%(rs.length:Int)=m:=by rw[<-hm];rfl
 obtain⟨j,hj⟩:=gn (k%6)
 have hj6:j<6:=by rw[<-hj];exact Nat.mod_lt _ (by decide)
 have c3:(k:Int).tmod 6=(j:Int):=by rw[<-hj];rfl
 have JJ:(k:Int)%6=(j:Int):=by rw[<-hj];rfl
 obtain⟨w,hw⟩:∃w:Nat,hg-lo+1=w:=⟨(hg-lo+1).toNat,by omega⟩
 obtain⟨u,hu⟩:=gn (a%w)
 have huw:u<w:=by rw[<-hu];exact Nat.mod_lt _ (by omega)
 have c4:(a:Int).tmod (w:Int)=u:=by rw[<-hu];rfl
 have uC:(a:Int)%(w:Int)=u:=by rw[<-hu];rfl
 obtain⟨q,hq⟩:=gn (rs[n])
 obtain⟨p,hp⟩:=gn (rs[m])
 have hqf:=hrs q (hq▸yAm hnl)
 have hpf:=hrs p (hp▸yAm hml)
 have hF1:oG rs n=(q.num,q.den):=by unfold oG;rw[yBa,yAh hnl,hq];rfl
 have hF2:oG rs m=(p.num,p.den):=by unfold oG;rw[yBa,yAh hml,hp];rfl
 obtain⟨sh,hsh⟩:=gn (nD (gN f) (q.num,q.den))
 obtain⟨st,hst⟩:=gn (nD (gN f) (p.num,p.den))
 have JF:=aDq (aDp f hf) hqf
 have GJ:=aDq (aDp f hf) hpf
 rw[hsh]at JF
 rw[hst]at GJ
 obtain⟨dg,hdg⟩:=gn (UInt8.ofNat (48+(i:Int)).toNat)
 have hR:rG rs lo hg ⟨r,f,k,a⟩ i=⟨[83,dg],(gN f).1,(gN f).2,pS j n sh lo hg (lo+u) m st⟩:=by
  unfold rG digit
  simp only[sF,VG,JJ,hw,uC,Int.toNat_natCast,hF1,hF2,hsh,hst,<-hdg,show(48+(i:Int)).toNat=48+i by omega]
 rw[hR]
 have aM0:-60<=sh/\sh<=64:=hsh▸VE _ _
 clear hR hF1 hF2 hsh hst
 obtain⟨q0,q1,q2,q3,q4,q5⟩:=q
 obtain⟨p0,p1,p2,p3,p4,p5⟩:=p
 simp only at JF GJ
 have d2:IntKind.i64.wrap (48+(i:Int))=48+(i:Int):=by rw[IntKind.wrap_i64];omega
 have d3:IntKind.u8.wrap (48+(i:Int))=48+(i:Int):=by simp only[IntKind.wrap,IntKind.bits,IntKind.signed];simp;omega
 have d4:IntKind.i64.wrap (r:Int)=r:=by rw[IntKind.wrap_i64];omega
 have d5:IntKind.i64.wrap (a:Int)=a:=by rw[IntKind.wrap_i64];omega
 have d6:IntKind.i64.wrap (hg-lo)=hg-lo:=by rw[IntKind.wrap_i64];omega
 have d7:IntKind.i64.wrap (hg-lo+1)=w:=by rw[IntKind.wrap_i64];omega
 have d8:IntKind.i64.wrap (lo+(u:Int))=lo+u:=by rw[IntKind.wrap_i64];omega
 have d9:¬(rs.length:Int)=0:=by omega
 have d10:¬(w:Int)=0:=by omega
 have d11:¬rs=[]:=fun h=>by rw[h]at mF;simp at mF
 have d12:¬w=0:=by omega
 have hF:∀fl σ,entry (b9 jO Em.bX fun n=>dX (eG n) (some (gN n))) fl [.int .u8 f] σ=some (.agg [.int .i64 (gN f).1,.int .i64 (gN f).2],σ):=fun fl σ=>by
  have e:jO.dec (.int .u8 f)=some f:=Em.dC rfl
  unfold entry b9
  simp only[e]
  rw[fB hf]
  rfl
 simp only[XW,vU,bJ]
 apply aS.aK h0 func33 rfl
 focus(simp[show Tryz.f33.ntmps=_ from rfl,List.replicate];rfl)
 have gx:=An @h1 (An @h2 (An @c1 (An @c3 (An @c4 (An @d2 (An @d3 (An @d4 (An @d5 (An @d6 (An @d7 (An @d8 (An @d9 (An @d10 (An @d11 (An @d12 (An @hF (An @JF (An @hnl (An @hq (@hdg))))))))))))))))))))
 refine aC ?_
 clear gx
 have hsb:-60<=sh/\sh<=64:=aM0
 have b1:IntKind.i64.wrap (sh+7)=sh+7:=by rw[IntKind.wrap_i64];omega
 have b2:IntKind.i64.wrap (sh-12)=sh-12:=by rw[IntKind.wrap_i64];omega
 have b3:IntKind.i64.wrap (lo+(u:Int)-1)=lo+u-1:=by rw[IntKind.wrap_i64];omega
 have b4:IntKind.i64.wrap ((n:Int)+1)=(n:Int)+1:=by rw[IntKind.wrap_i64];omega
 match j,hj6 with
 |0,_=>
  have gx:=@b1
  refine aC ?_
  clear gx
  simp(disch:=first|omega|(simp;done)|(simp;omega)) [yAu,pS]<;>try rfl
  exact⟨rfl,rfl⟩
 |1,_=>
  have gx:=@b1
  refine aC ?_
  clear gx
  simp(disch:=first|omega|(simp;done)|(simp;omega)) [yAu,pS]<;>try rfl
  exact⟨rfl,rfl⟩
 |2,_=>
  have gx:=@b1
  refine aC ?_
  clear gx
  simp(disch:=first|omega|(simp;done)|(simp;omega)) [yAu,pS]<;>try rfl
  exact⟨rfl,rfl⟩
 |3,_=>
  by_cases x9:lo<lo+(u:Int)
  ·have gx:=An @b1 (An @b2 (An @b3 (An @b4 (An @c2 (An @c3 (An @d9 (An @d11 (An @hml (An @hp (An @h2 (An @GJ (@x9))))))))))))
   refine aC ?_
   clear gx
   have hu1:=x9
   simp(disch:=first|omega|(simp;done)|(simp;omega)) [yAu,pS,hu1]<;>try rfl
   first|exact⟨by kernel_rfl,rfl,rfl⟩ | exact⟨by kernel_rfl,rfl⟩
  ·have gx:=An @b1 (An @b2 (An @b3 (An @b4 (An @c2 (An @c3 (An @d9 (An @d11 (An @hml (An @hp (An @h2 (An @GJ (@x9))))))))))))
   refine aC ?_
   clear gx
   have hu1:=x9
   simp(disch:=first|omega|(simp;done)|(simp;omega)) [yAu,pS,hu1]<;>try rfl
   first|exact⟨by kernel_rfl,rfl,rfl⟩ | exact⟨by kernel_rfl,rfl⟩
 |4,_=>
  by_cases x9:lo<lo+(u:Int)
  ·have gx:=An @b1 (An @b2 (An @b3 (An @c3 (@x9))))
   refine aC ?_
   clear gx
   have hu1:=x9
   simp(disch:=first|omega|(simp;done)|(simp;omega)) [yAu,pS,hu1]<;>try rfl
   first|exact⟨by kernel_rfl,rfl,rfl⟩ | exact⟨by kernel_rfl,rfl⟩
  ·have gx:=An @b1 (An @b2 (An @b3 (An @c3 (@x9))))
   refine aC ?_
   clear gx
   have hu1:=x9
   simp(disch:=first|omega|(simp;done)|(simp;omega)) [yAu,pS,hu1]<;>try rfl
   first|exact⟨by kernel_rfl,rfl,rfl⟩ | exact⟨by kernel_rfl,rfl⟩
 |5,_=>
  have gx:=@b1
  refine aC ?_
  clear gx
  simp(disch:=first|omega|(simp;done)|(simp;omega)) [yAu,pS]<;>try rfl
  exact⟨rfl,rfl⟩
end
end Go.Kz
end
