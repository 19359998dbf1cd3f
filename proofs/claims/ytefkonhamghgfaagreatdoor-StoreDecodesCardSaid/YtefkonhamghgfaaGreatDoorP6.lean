/-
  Part P6 of the way: an interpreter over pure data, its soundness, walks through functions.
-/
import Derived.Test.YtefkonhamghgfaaGreatDoorP5
import Derived.Test.YtefkonhamghgfaaGreatDoorP8
import Derived.Test.YtefkonhamghgfaaGreatDoorP4
set_option linter.all false

namespace Go.Kz
open Go Go.Proofs
set_option maxRecDepth 100000
set_option maxHeartbeats 4000000
def pvB (pv:Option Int) (n:Int):Bool:=match pv with | none=>false | some t=>decide (n≤t)
def segsGo (k:Nat) (lo hg:Int):Option Int→List SegD→Int
 | _,[]=>0
 | pv,g::r=>if min g.lo g.hi < lo∨hg < max g.lo g.hi then 23 else if g.hi < g.lo∨pvB pv g.lo=true then 6 else if drawsErr k g.draws≠0 then drawsErr k g.draws else segsGo k lo hg (some g.hi) r
def pvOf (l:List SegD):Nat→Option Int
 | 0=>none
 | j+1=>(l[j]?).map SegD.hi
def segsErr (k:Nat) (lo hg:Int) (l:List SegD):Int:=if l.length=0 then 13 else if 12 < l.length then 4 else segsGo k lo hg none l
def stopE (rs:List RankD) (lo hg:Int) (s:StopD):Int:=
 if placeE rs lo hg≠0 then placeE rs lo hg else if nameB s.name=false then 8 else if pitchE s.num s.den≠0 then pitchE s.num s.den else segsErr rs.length lo hg s.segs
def EmC.place:EmC (List RankD×Int×Int):=((EmC.one ranks).pair ((EmC.one i64).pair (.one i64))).iso (fun r=>(r.1,r.2.1,r.2.2)) (fun x y h=>by obtain ⟨_,_,_⟩:=x;obtain ⟨_,_,_⟩:=y;simpa using h)
def Em.place:Em (List RankD×Int×Int):=.agg .place
@[simp] theorem emb_place {r:List RankD×Int×Int}:Em.place.emb r=.agg [ranks.emb r.1,.int .i64 r.2.1,.int .i64 r.2.2]:=rfl
def okPlace (rs:List RankD):Prop:=(∀ r∈rs,okRn r)∧rs.length≤1000000
noncomputable def gPlc:Nat→List PD→List SObj→Option (PD×List SObj):=entry (gf1 Em.place i64 fun x=>gif (okPlace x.1) (some (placeE x.1 x.2.1 x.2.2)))
theorem gPlc_of {rs:List RankD} (h:okPlace rs) (lo hg:Int) (fl:Nat) (σ:List SObj):gPlc fl [.agg [ranks.emb rs,.int .i64 lo,.int .i64 hg]] σ=some (.int .i64 (placeE rs lo hg),σ):=by
 have e1:=Em.dec_some (Em.place.str (rs,lo,hg))
 rw [emb_place] at e1
 unfold gPlc entry gf1
 simp only [e1]
 rw [gif_pos h]
 rfl
noncomputable def gDr:Nat→List PD→List SObj→Option (PD×List SObj):=entry (gf2 Em.place drawsE i64 fun x l=>gif (x.1.length≤1000000∧l.length≤1000000) (some (drawsErr x.1.length l)))
theorem gDr_of {rs:List RankD} {l:List DrawD} (h:rs.length≤1000000) (hl:l.length≤1000000) (lo hg:Int) (fl:Nat) (σ:List SObj):gDr fl [.agg [ranks.emb rs,.int .i64 lo,.int .i64 hg],drawsE.emb l] σ=some (.int .i64 (drawsErr rs.length l),σ):=by
 have e1:=Em.dec_some (Em.place.str (rs,lo,hg))
 rw [emb_place] at e1
 have e2:=Em.dec_some (drawsE.str l)
 unfold gDr entry gf2
 simp only [e1,e2]
 rw [gif_pos ⟨h,hl⟩]
 rfl
variable {E:PExt} (hU:Uni E)
include hU
theorem r_stop (h0:E 83=none) (h1:E 109=some gPlc) (h2:E 36=some gNm) (h3:E 79=some gPi) (h4:E 110=some gDr) (rs:List RankD) (hrs:okPlace rs) (lo hg:Int) (s:StopD) (hs:okS s) (hn:okN s.name) :
  Run Tryz.prog E 83 [.agg [ranks.emb rs,.int .i64 lo,.int .i64 hg],Em.stop.emb s] (i64.emb (stopE rs lo hg s)):=by
 obtain ⟨n,a,b,l⟩:=s
 have e1:=gPlc_of hrs lo hg
 have e2:=gNm_of hn
 have e3:=gPi_of a b
 have hl:l.length≤1000000:=hs.1
 unfold stopE
 obtain ⟨p,hp⟩:=gn (placeE rs lo hg)
 obtain ⟨q,hq⟩:=gn (pitchE a b)
 rw [hp] at e1 ⊢
 simp only [emb_list] at e1
 simp only [hq] at e3 ⊢
 simp only [emb_stop,emb_list]
 by_cases c1:p=0
 rotate_left
 ·rw [if_pos c1]
  apply Run.bodyL h0 Tryz.func83 rfl
  focus (simp [show Tryz.f83.ntmps=_ from rfl,List.replicate];rfl)
  have gx:=An @h1 (An @e1 (@c1))
  refine goA ?_
  clear gx
  simp (disch:=first | omega | (simp;done) | (simp;omega)) [decide_eq_decide] <;> try rfl
 subst c1
 simp only [ne_eq,not_true_eq_false,if_false]
 cases c2:nameB n with
 | false=>
   simp only at e2
   rw [c2] at e2
   rw [if_pos rfl]
   apply Run.bodyL h0 Tryz.func83 rfl
   focus (simp [show Tryz.f83.ntmps=_ from rfl,List.replicate];rfl)
   have gx:=An @h1 (An @h2 (An @e1 (@e2)))
   refine goA ?_
   clear gx
   simp (disch:=first | omega | (simp;done) | (simp;omega)) [decide_eq_decide] <;> try rfl
 | true=>
 simp only at e2
 rw [c2] at e2
 rw [if_neg (by simp)]
 by_cases c3:q=0
 rotate_left
 ·rw [if_pos c3]
  apply Run.bodyL h0 Tryz.func83 rfl
  focus (simp [show Tryz.f83.ntmps=_ from rfl,List.replicate];rfl)
  have gx:=An @h1 (An @h2 (An @h3 (An @e1 (An @e2 (An @e3 (@c3))))))
  refine goA ?_
  clear gx
  simp (disch:=first | omega | (simp;done) | (simp;omega)) [decide_eq_decide] <;> try rfl
 subst c3
 simp only [not_true_eq_false,if_false]
 unfold segsErr
 by_cases c4:l.length=0
 ·rw [if_pos c4]
  have c6:l=[]:=List.eq_nil_of_length_eq_zero c4
  subst c6
  apply Run.bodyL h0 Tryz.func83 rfl
  focus (simp [show Tryz.f83.ntmps=_ from rfl,List.replicate];rfl)
  have gx:=An @h1 (An @h2 (An @h3 (An @e1 (An @e2 (@e3)))))
  refine goA ?_
  clear gx
  simp (disch:=first | omega | (simp;done) | (simp;omega)) [decide_eq_decide] <;> try rfl
 rw [if_neg c4]
 have c4':¬ l=[]:=fun h=>c4 (by rw [h];rfl)
 by_cases c5:12 < l.length
 ·rw [if_pos c5]
  have c6:12 < (l.length:Int):=by omega
  apply Run.bodyL h0 Tryz.func83 rfl
  focus (simp [show Tryz.f83.ntmps=_ from rfl,List.replicate];rfl)
  have gx:=An @h1 (An @h2 (An @h3 (An @e1 (An @e2 (An @e3 (An @c4 (An @c4' (An @c5 (@c6)))))))))
  refine goA ?_
  clear gx
  simp (disch:=first | omega | (simp;done) | (simp;omega)) [decide_eq_decide] <;> try rfl
 rw [if_neg c5]
 have c6:¬ 12 < (l.length:Int):=by omega
 obtain ⟨B,hB⟩:=gn (segsGo rs.length lo hg none l)
 rw [hB]
 apply Run.bodyL h0 Tryz.func83 rfl
 focus (simp [show Tryz.f83.ntmps=_ from rfl,List.replicate];rfl)
 have gx:=An @h1 (An @h2 (An @h3 (An @e1 (An @e2 (An @e3 (An @c4 (An @c4' (An @c5 (@c6)))))))))
 refine goA ?_
 clear gx
 obtain ⟨X,hX⟩:=gn (SObj.box (.agg [.slice (sz 6 rs) (rs.map Em.rank.emb) .any,.int .i64 lo,.int .i64 hg]))
 obtain ⟨Y,hY⟩:=gn (SObj.box (.agg [.str n,.int .i64 a,.int .i64 b,.slice (sz 3 l) (l.map Em.seg.emb) .any]))
 refine Wp.loopI (fun m fr σ=>∃ (i:Nat) (σ1:List SObj),∃ gg:Nat→PD,(i+m=l.length∧σ1[0]?=some X∧σ1[1]?=some Y∧segsGo rs.length lo hg (pvOf l i) (l.drop i)=B)∧fr=gg 0::gg 1::.ptr 0 0::.ptr 1 0::gg 4::gg 5::gg 6::gg 7::gg 8::gg 9::gg 10::gg 11::gg 12::gg 13::gg 14::gg 15::gg 16::gg 17::gg 18::gg 19::gg 20::gg 21::gg 22::gg 23::gg 24::gg 25::gg 26::gg 27::gg 28::gg 29::gg 30::gg 31::gg 32::gg 33::gg 34::gg 35::segsE.emb l::.int .i64 l.length::.int .i64 i::gg 39::gg 40::gg 41::gg 42::gg 43::gg 44::gg 45::gg 46::gg 47::gg 48::gg 49::gg 50::gg 51::gg 52::gg 53::gg 54::gg 55::gg 56::gg 57::gg 58::gg 59::gg 60::gg 61::gg 62::gg 63::gg 64::gg 65::gg 66::gg 67::gg 68::gg 69::gg 70::gg 71::gg 72::gg 73::gg 74::gg 75::gg 76::gg 77::gg 78::gg 79::gg 80::gg 81::gg 82::gg 83::gg 84::gg 85::gg 86::gg 87::gg 88::gg 89::gg 90::gg 91::gg 92::gg 93::[]∧σ=σ1) ?_ (l.length) (by refine ⟨0,[X,Y],?_⟩;exact exF (⟨by omega,rfl,rfl,hB⟩) (by (first | rfl | (simp [hX,hY];repeat (first | rfl | (apply And.intro))) | (simp [hX,hY];done))) (by (first | rfl | (simp [hX,hY];repeat (first | rfl | (apply And.intro))) | (simp [hX,hY];done))))
 rintro m fr σ ⟨i,σ1,gg,hI,rfl,rfl⟩
 obtain ⟨hm,hx0,hy0,hs2⟩:=hI
 by_cases hi:i < l.length
 ·have q1:(i:Int) < (l.length:Int):=by omega
  obtain ⟨g,hg1⟩:=gn (l[i])
  have hc:l.drop i=g::l.drop (i+1):=by rw [List.drop_eq_getElem_cons hi,hg1]
  have hpv:pvOf l (i+1)=some g.hi:=by
   show (l[i]?).map SegD.hi=_
   rw [List.getElem?_eq_getElem hi,hg1]
   rfl
  rw [hc] at hs2
  unfold segsGo at hs2
  have hgm:g∈l:=hg1▸List.getElem_mem hi
  have hgl:g.draws.length≤1000000:=hs.2 g hgm
  have hD:=gDr_of hrs.2 hgl lo hg
  have hx1:=hx0
  have hy1:=hy0
  rw [← hX] at hx1
  rw [← hY] at hy1
  obtain ⟨hlt0,hxe⟩:=List.getElem?_eq_some_iff.1 hx1
  obtain ⟨hlt1,hye⟩:=List.getElem?_eq_some_iff.1 hy1
  obtain ⟨g0,g1,gd⟩:=g
  simp only [emb_list] at hD
  simp only at hs2 hpv hgl hD
  have j0:∀ x:SObj,(σ++[x])[σ.length]?=some x:=fun x=>by simp
  obtain ⟨MN,hMN⟩:=gn (min g0 g1)
  obtain ⟨MX,hMX⟩:=gn (max g0 g1)
  have hmn:(if g1 < g0 then g1 else g0)=MN:=by rw [← hMN];split <;> omega
  have hmx:(if g0 < g1 then g1 else g0)=MX:=by rw [← hMX];split <;> omega
  rw [hMN,hMX] at hs2
  by_cases c7:MN < lo
  ·rw [if_pos (.inl c7)] at hs2
   subst hs2
   have gx:=An @q1 (An @hi (An @hg1 (An @j0 (An @hx1 (An @hy1 (An @hlt0 (An @hlt1 (An @hxe (An @hye (An @hmn (An @hmx (@c7))))))))))))
   refine goA ?_
   clear gx
   simp (disch:=first | omega | (simp;done) | (simp;omega)) [decide_eq_decide] <;> try rfl
  by_cases c8:hg < MX
  ·rw [if_pos (.inr c8)] at hs2
   subst hs2
   have gx:=An @q1 (An @hi (An @hg1 (An @j0 (An @hx1 (An @hy1 (An @hlt0 (An @hlt1 (An @hxe (An @hye (An @hmn (An @hmx (An @c7 (@c8)))))))))))))
   refine goA ?_
   clear gx
   simp (disch:=first | omega | (simp;done) | (simp;omega)) [decide_eq_decide] <;> try rfl
  rw [if_neg (fun h=>h.elim c7 c8)] at hs2
  by_cases c9:g1 < g0
  ·rw [if_pos (.inl c9)] at hs2
   subst hs2
   have c9':¬ g0 < g1:=by omega
   have d7:¬ g1 < lo:=by omega
   have d8:¬ hg < g0:=by omega
   have gx:=An @q1 (An @hi (An @hg1 (An @j0 (An @hx1 (An @hy1 (An @hlt0 (An @hlt1 (An @hxe (An @hye (An @c9 (An @c9' (An @d7 (@d8)))))))))))))
   refine goA ?_
   clear gx
   simp (disch:=first | omega | (simp;done) | (simp;omega)) [decide_eq_decide] <;> try rfl
  have d7:¬ g0 < lo:=by omega
  have d8:¬ hg < g1:=by omega
  have hm2:(if g0 < g1 then g1 else g0)=g1:=by split <;> omega
  clear hmn hmx hMN hMX c7 c8
  obtain ⟨dr,hdr⟩:=gn (drawsErr rs.length gd)
  rw [hdr] at hD hs2
  obtain ⟨Z,hZ⟩:=gn (SObj.box (.agg [.int .i64 g0,.int .i64 g1,.slice (sz 2 gd) (gd.map Em.draw.emb) .any]))
  by_cases ci:i=0
  ·subst ci
   rw [show pvOf l 0=none from rfl,if_neg (fun h=>h.elim c9 (by simp [pvB]))] at hs2
   by_cases c10:dr=0
   ·subst c10
    simp only [ne_eq,not_true_eq_false,if_false] at hs2
    have gx:=An @q1 (An @hi (An @hg1 (An @j0 (An @hx1 (An @hy1 (An @hlt0 (An @hlt1 (An @hxe (An @hye (An @c9 (An @hm2 (An @d7 (An @d8 (An @h4 (@hD)))))))))))))))
    refine goA ?_
    clear gx
    refine LoopI.normal (m - 1) (by omega) (by refine ⟨1,σ++[Z],?_⟩;exact exF (⟨by omega,by rw [List.getElem?_append_left hlt0];exact hx0,by rw [List.getElem?_append_left hlt1];exact hy0,by rw [show pvOf l 1=some g1 from hpv];exact hs2⟩) (by (first | rfl | (simp [hZ];repeat (first | rfl | (apply And.intro))) | (simp [hZ];done))) (by (first | rfl | (simp [hZ];repeat (first | rfl | (apply And.intro))) | (simp [hZ];done))))
   ·simp only [ne_eq,c10,not_false_eq_true,if_true] at hs2
    subst hs2
    have gx:=An @q1 (An @hi (An @hg1 (An @j0 (An @hx1 (An @hy1 (An @hlt0 (An @hlt1 (An @hxe (An @hye (An @c9 (An @hm2 (An @d7 (An @d8 (An @h4 (An @hD (@c10))))))))))))))))
    refine goA ?_
    clear gx
    simp (disch:=first | omega | (simp;done) | (simp;omega)) [decide_eq_decide] <;> try rfl
  ·obtain ⟨j,hji⟩:∃ j,i=j+1:=⟨i - 1,by omega⟩
   have hj:j < l.length:=by omega
   obtain ⟨p,hp1⟩:=gn (l[j])
   have hpo:pvOf l i=some p.hi:=by
    rw [hji]
    show (l[j]?).map SegD.hi=_
    rw [List.getElem?_eq_getElem hj,hp1]
    rfl
   rw [hpo] at hs2
   obtain ⟨p0,p1,pd⟩:=p
   have w1:IntKind.i64.wrap ((i:Int) - 1)=(j:Int):=by rw [IntKind.wrap_i64];omega
   have q3:0 < i:=by omega
   by_cases c11:g0≤p1
   ·rw [if_pos (.inr (by simpa [pvB] using c11))] at hs2
    subst hs2
    have gx:=An @q1 (An @hi (An @hg1 (An @j0 (An @hx1 (An @hy1 (An @hlt0 (An @hlt1 (An @hxe (An @hye (An @c9 (An @hm2 (An @d7 (An @d8 (An @q3 (An @w1 (An @hj (An @hp1 (@c11))))))))))))))))))
    refine goA ?_
    clear gx
    simp (disch:=first | omega | (simp;done) | (simp;omega)) [decide_eq_decide] <;> try rfl
   rw [if_neg (fun h=>h.elim c9 (by simpa [pvB] using c11))] at hs2
   by_cases c10:dr=0
   ·subst c10
    simp only [ne_eq,not_true_eq_false,if_false] at hs2
    have gx:=An @q1 (An @hi (An @hg1 (An @j0 (An @hx1 (An @hy1 (An @hlt0 (An @hlt1 (An @hxe (An @hye (An @c9 (An @hm2 (An @d7 (An @d8 (An @h4 (An @hD (An @q3 (An @w1 (An @hj (An @hp1 (@c11))))))))))))))))))))
    refine goA ?_
    clear gx
    refine LoopI.normal (m - 1) (by omega) (by refine ⟨i+1,σ++[Z],?_⟩;exact exF (⟨by omega,by rw [List.getElem?_append_left hlt0];exact hx0,by rw [List.getElem?_append_left hlt1];exact hy0,by rw [hpv];exact hs2⟩) (by (first | rfl | (simp [hZ];repeat (first | rfl | (apply And.intro))) | (simp [hZ];done))) (by (first | rfl | (simp [hZ];repeat (first | rfl | (apply And.intro))) | (simp [hZ];done))))
   ·simp only [ne_eq,c10,not_false_eq_true,if_true] at hs2
    subst hs2
    have gx:=An @q1 (An @hi (An @hg1 (An @j0 (An @hx1 (An @hy1 (An @hlt0 (An @hlt1 (An @hxe (An @hye (An @c9 (An @hm2 (An @d7 (An @d8 (An @h4 (An @hD (An @q3 (An @w1 (An @hj (An @hp1 (An @c11 (@c10)))))))))))))))))))))
    refine goA ?_
    clear gx
    simp (disch:=first | omega | (simp;done) | (simp;omega)) [decide_eq_decide] <;> try rfl
 ·have q1:¬ (i:Int) < (l.length:Int):=by omega
  rw [List.drop_eq_nil_of_le (by omega)] at hs2
  have hB2:B=0:=hs2.symm
  have gx:=@q1
  refine goA ?_
  clear gx
  simp (disch:=first | omega | (simp;done) | (simp;omega)) [decide_eq_decide,hB2] <;> try rfl
end Go.Kz

namespace Go.Kz
open Go Go.Proofs
set_option maxRecDepth 100000
set_option maxHeartbeats 4000000
def visN {α:Type} (p:α→Bool):List α→Nat
 | []=>0
 | x::r=>if p x=true then 1 else visN p r+1
def bxC (x:CoupD):SObj:=.box (.agg [.str x.name,.int .i64 x.org,.int .i64 x.dst,.int .i64 x.shift,.bool x.thr])
def nmC (nm:List UInt8) (x:CoupD):Bool:=decide (x.name=nm)
def gClC:Nat→List PD→List SObj→Option (PD×List SObj):=fun _ args σ=>match args with
 | [.agg [.str n,.int .i64 a,.int .i64 b,.int .i64 c,.bool t],.ptr id 0]=>match σ[id]? with
   | some (.box (.agg [.str nm,.int .i64 _,.int .i64 _,.int .i64 _,.bool _]))=>some (.bool (decide (n=nm)),σ++[.box (.agg [.str n,.int .i64 a,.int .i64 b,.int .i64 c,.bool t])])
   | _=>none
 | _=>none
variable {E:PExt} (hU:Uni E)
include hU
theorem r_clC (h0:E 85=none) (fl:Nat) (x0:List UInt8) (x1 x2 x3:Int) (x4:Bool) (nm:List UInt8) (c1 c2 c3:Int) (c4:Bool) (id:Nat) (τ:List SObj) (hid:τ[id]?=some (.box (.agg [.str nm,.int .i64 c1,.int .i64 c2,.int .i64 c3,.bool c4]))) :
  WpC Tryz.prog E fl (.inl 85) [.agg [.str x0,.int .i64 x1,.int .i64 x2,.int .i64 x3,.bool x4],.ptr id 0] τ (fun p1 σ1=>p1=.bool (decide (x0=nm))∧σ1=τ++[.box (.agg [.str x0,.int .i64 x1,.int .i64 x2,.int .i64 x3,.bool x4])]):=by
 obtain ⟨hlt,he⟩:=List.getElem?_eq_some_iff.1 hid
 have j0:∀ x:SObj,(τ++[x])[τ.length]?=some x:=fun x=>by simp
 by_cases c:x0=nm
 ·rw [decide_eq_true c]
  apply WpC.bodyL h0 Tryz.func85 rfl
  focus (simp [show Tryz.f85.ntmps=_ from rfl,List.replicate];rfl)
  have gx:=An @j0 (An @hid (An @hlt (An @he (@c))))
  refine goA ?_
  clear gx
  exact ⟨_,_,rfl,rfl,rfl⟩
 ·rw [decide_eq_false c]
  have f0:(x0==nm)=false:=by simpa using c
  apply WpC.bodyL h0 Tryz.func85 rfl
  focus (simp [show Tryz.f85.ntmps=_ from rfl,List.replicate];rfl)
  have gx:=An @j0 (An @hid (An @hlt (An @he (An @c (@f0)))))
  refine goA ?_
  clear gx
  exact ⟨_,_,rfl,rfl,rfl⟩
theorem lib_clC (hE:ExtOk Tryz.prog E) (h0:E 85=none):ExtOk Tryz.prog (E.add 85 gClC):=
 hE.add (by kernel_rfl) fun fl args σ p σ' h=>by
  unfold gClC at h
  split at h
  ·rename_i n a b c t id
   split at h
   ·rename_i nm c1 c2 c3 c4 hid
    simp only [Option.some.injEq,Prod.mk.injEq] at h
    obtain ⟨rfl,rfl⟩:=h
    exact WpC.ex2 (r_clC hU h0 fl n a b c t nm c1 c2 c3 c4 id σ hid)
   ·cases h
  ·cases h
theorem r_IndexC (h0:E 111=none) (h1:E 85=some gClC) (fl:Nat) (l:List CoupD) (nm:List UInt8) (c1 c2 c3:Int) (c4:Bool) (id:Nat) (τ:List SObj) (hid:τ[id]?=some (.box (.agg [.str nm,.int .i64 c1,.int .i64 c2,.int .i64 c3,.bool c4]))) (hl:l.length≤1000000) (z:Nat) (tok:Tok) (hz:l=[]∨z=5) :
  WpC Tryz.prog E fl (.inl 111) [.slice z (l.map Em.coup.emb) tok,.func 85 [.ptr id 0]] τ (fun p1 σ1=>p1=.int .i64 (ixF (nmC nm) l 0)∧σ1=τ++(l.take (visN (nmC nm) l)).map bxC):=by
 obtain ⟨B,hB⟩:=gn (ixF (nmC nm) l 0)
 obtain ⟨V,hV⟩:=gn (visN (nmC nm) l)
 rw [hB,hV]
 apply WpC.bodyL h0 Tryz.func111 rfl
 focus (simp [show Tryz.f111.ntmps=_ from rfl,List.replicate];rfl)
 have gx:=True.intro
 refine goA ?_
 clear gx
 refine Wp.loopI (fun m fr σ=>∃ (i:Nat),∃ gg:Nat→PD,(i+m=l.length∧ixF (nmC nm) (l.drop i) i=B∧visN (nmC nm) (l.drop i)+i=V)∧fr=[.slice z (l.map Em.coup.emb) tok,.func 85 [.ptr id 0],gg 2,gg 3,gg 4,gg 5,.slice z (l.map Em.coup.emb) tok,.int .i64 l.length,.int .i64 i,gg 9,gg 10,gg 11,gg 12,gg 13,gg 14,gg 15,gg 16,gg 17,gg 18]∧σ=τ++(l.take i).map bxC) ?_ (l.length) (by refine ⟨0,?_⟩;exact exF (⟨by omega,hB,hV⟩) (by (first | rfl | (simp [];repeat (first | rfl | (apply And.intro))) | (simp [];done))) (by (first | rfl | (simp [];repeat (first | rfl | (apply And.intro))) | (simp [];done))))
 rintro m fr σ ⟨i,gg,hI,rfl,rfl⟩
 obtain ⟨hm,hs,hv⟩:=hI
 by_cases hi:i < l.length
 ·have q1:(i:Int) < (l.length:Int):=by omega
  have hz1:z=5:=hz.resolve_left (fun h=>by rw [h] at hi;simp at hi)
  subst hz1
  obtain ⟨a,ha⟩:=gn (l[i])
  have hc:l.drop i=a::l.drop (i+1):=by rw [List.drop_eq_getElem_cons hi,ha]
  have htk:l.take (i+1)=l.take i++[a]:=by rw [List.take_succ_eq_append_getElem hi,ha]
  obtain ⟨hlt,_⟩:=List.getElem?_eq_some_iff.1 hid
  obtain ⟨ρ,hρ⟩:=gn (τ++(l.take i).map bxC)
  have hid2:ρ[id]?=some (.box (.agg [.str nm,.int .i64 c1,.int .i64 c2,.int .i64 c3,.bool c4])):=by rw [← hρ,List.getElem?_append_left hlt];exact hid
  have hst:τ++(l.take (i+1)).map bxC=ρ++[bxC a]:=by rw [htk,List.map_append,← List.append_assoc,hρ];rfl
  rw [hc] at hs hv
  unfold ixF at hs
  unfold visN at hv
  obtain ⟨a0,a1,a2,a3,a4⟩:=a
  have hE:gClC fl [.agg [.str a0,.int .i64 a1,.int .i64 a2,.int .i64 a3,.bool a4],.ptr id 0] ρ=some (.bool (decide (a0=nm)),ρ++[.box (.agg [.str a0,.int .i64 a1,.int .i64 a2,.int .i64 a3,.bool a4])]):=by
   unfold gClC
   simp only [hid2]
  have hst2:τ++(l.take (i+1)).map bxC=ρ++[.box (.agg [.str a0,.int .i64 a1,.int .i64 a2,.int .i64 a3,.bool a4])]:=hst
  have hst3:τ++List.take (i+1) (l.map bxC)=ρ++[.box (.agg [.str a0,.int .i64 a1,.int .i64 a2,.int .i64 a3,.bool a4])]:=by rw [← List.map_take];exact hst2
  rw [hρ]
  by_cases hb:a0=nm
  ·rw [if_pos (by simp [nmC,hb])] at hs hv
   have hB2:B=(i:Int):=hs.symm
   have hV2:V=i+1:=by omega
   rw [decide_eq_true hb] at hE
   rw [hB2,hV2,hst2]
   clear hs hB2
   have gx:=An @q1 (An @hi (@ha))
   refine goA ?_
   clear gx
   first | refine Wp.seq ?_ | skip
   apply Wp.regionS
   repeat (first
    | (refine Fr.i ?_;simp only [pput,List.set_cons_zero,List.set_cons_succ];try rfl)
    | (refine By.i ?_;(focus (simp (disch:=first | omega | (simp;done) | (simp;omega)) [wrap_i64,wrap_u64,h1,hE,hi,ha];first | done | rfl | exact ⟨rfl,rfl⟩)))
    | (refine By.i ?_;simp (disch:=first | omega | (simp;done) | (simp;omega)) [wrap_i64,wrap_u64,h1,hE,hi,ha];refine ⟨(by (try simp only [List.length_append,List.length_cons,List.length_nil,maxLen]);omega),rfl⟩)
    | (refine Wt.i ?_;first | rfl | (focus (simp [h1,hE,hi,ha];done)))
    | (refine Ns.i ?_;(try simp only [List.append_nil,List.nil_append,List.cons_append,List.append_assoc,List.length_append,List.length_cons,List.length_nil,Nat.zero_add,Nat.reduceAdd]);rfl) | rfl
    | (apply SL.pass;(focus (refine Wt.i ?_;rfl))) | (apply SL.convertR;(focus rfl)) | apply SL.move | apply SL.assign | apply SL.load | apply SL.isnilE | apply SL.isnilN | apply SL.make | apply SL.binOp | apply SL.append
    | apply SL.copy | apply SL.builtin | apply SL.fieldAddr | apply SL.indexAddr | apply SL.field | apply SL.extract | apply SL.fcall | apply SL.pick | apply SL.store | apply SL.unOp | apply SL.convert | apply SL.index | apply SL.slice
    | apply SL.build | apply SL.nilCheck | apply SL.buildSlice | apply SL.box | apply SL.alloc | apply SL.makeFunc)
   apply SQ.nil
   have gx:=@q1
   refine goA ?_
   clear gx
   exact ⟨_,_,rfl,rfl,rfl⟩
  ·rw [if_neg (by simp [nmC,hb])] at hs hv
   rw [decide_eq_false hb] at hE
   have gx:=An @q1 (An @hi (@ha))
   refine goA ?_
   clear gx
   first | refine Wp.seq ?_ | skip
   apply Wp.regionS
   repeat (first
    | (refine Fr.i ?_;simp only [pput,List.set_cons_zero,List.set_cons_succ];try rfl)
    | (refine By.i ?_;(focus (simp (disch:=first | omega | (simp;done) | (simp;omega)) [wrap_i64,wrap_u64,h1,hE,hi,ha];first | done | rfl | exact ⟨rfl,rfl⟩)))
    | (refine By.i ?_;simp (disch:=first | omega | (simp;done) | (simp;omega)) [wrap_i64,wrap_u64,h1,hE,hi,ha];refine ⟨(by (try simp only [List.length_append,List.length_cons,List.length_nil,maxLen]);omega),rfl⟩)
    | (refine Wt.i ?_;first | rfl | (focus (simp [h1,hE,hi,ha];done)))
    | (refine Ns.i ?_;(try simp only [List.append_nil,List.nil_append,List.cons_append,List.append_assoc,List.length_append,List.length_cons,List.length_nil,Nat.zero_add,Nat.reduceAdd]);rfl) | rfl
    | (apply SL.pass;(focus (refine Wt.i ?_;rfl))) | (apply SL.convertR;(focus rfl)) | apply SL.move | apply SL.assign | apply SL.load | apply SL.isnilE | apply SL.isnilN | apply SL.make | apply SL.binOp | apply SL.append
    | apply SL.copy | apply SL.builtin | apply SL.fieldAddr | apply SL.indexAddr | apply SL.field | apply SL.extract | apply SL.fcall | apply SL.pick | apply SL.store | apply SL.unOp | apply SL.convert | apply SL.index | apply SL.slice
    | apply SL.build | apply SL.nilCheck | apply SL.buildSlice | apply SL.box | apply SL.alloc | apply SL.makeFunc)
   apply SQ.nil
   have gx:=@q1
   refine goA ?_
   clear gx
   refine LoopI.normal (m - 1) (by omega) (by refine ⟨i+1,?_⟩;exact exF (⟨by omega,hs,by omega⟩) (by (first | rfl | (simp [hst3];repeat (first | rfl | (apply And.intro))) | (simp [hst3];done))) (by (first | rfl | (simp [hst3];repeat (first | rfl | (apply And.intro))) | (simp [hst3];done))))
 ·have q1:¬ (i:Int) < (l.length:Int):=by omega
  obtain rfl:i=l.length:=by omega
  rw [List.drop_length] at hs hv
  have hB2:B=-1:=hs.symm
  have hV2:V=l.length:=by simpa [visN] using hv.symm
  rw [hB2,hV2]
  have gx:=@q1
  refine goA ?_
  clear gx
  exact ⟨_,_,rfl,rfl,rfl⟩
omit hU in
def coupL:List PD→Option (List CoupD)
 | []=>some []
 | .agg [.str n,.int .i64 a,.int .i64 b,.int .i64 c,.bool t]::r=>match coupL r with | some l=>some (⟨n,a,b,c,t⟩::l) | none=>none
 | _=>none
omit hU in
theorem coupL_of:∀ {xs:List PD} {l:List CoupD},coupL xs=some l→xs=l.map Em.coup.emb
 | [],l,h=>by simp only [coupL,Option.some.injEq] at h;subst h;rfl
 | x::r,l,h=>by
   unfold coupL at h
   split at h
   ·cases ‹_::_=_›
   ·rename_i n a b c t r' e
    simp only [List.cons.injEq] at e
    obtain ⟨rfl,rfl⟩:=e
    split at h
    ·rename_i l' hl
     simp only [Option.some.injEq] at h
     subst h
     rw [coupL_of hl]
     rfl
    ·cases h
   ·cases h
omit hU in
@[simp] theorem coupL_emb:∀ l:List CoupD,coupL (l.map Em.coup.emb)=some l
  | []=>rfl
  | x::l=>by
    show coupL (.agg [.str x.name,.int .i64 x.org,.int .i64 x.dst,.int .i64 x.shift,.bool x.thr]::l.map Em.coup.emb)=_
    simp only [coupL,coupL_emb l]
omit hU in
def gNmC (f:List UInt8→List CoupD→PD):Nat→List PD→List SObj→Option (PD×List SObj):=fun _ args σ=>match args with
 | [.slice z xs _,.func g [.ptr id 0]]=>match coupL xs with
   | some l=>if g=85∧(l.length=0∨z=5)∧l.length≤1000000 then match σ[id]? with
     | some (.box (.agg [.str nm,.int .i64 _,.int .i64 _,.int .i64 _,.bool _]))=>some (f nm l,σ++(l.take (visN (nmC nm) l)).map bxC)
     | _=>none
     else none
   | none=>none
 | _=>none
omit hU in
theorem gNmC_of {f:List UInt8→List CoupD→PD} {z:Nat} {l:List CoupD} {tok:Tok} {id:Nat} {σ:List SObj} {nm:List UInt8} {c1 c2 c3:Int} {c4:Bool} (hz:l=[]∨z=5) (hl:l.length≤1000000) (hid:σ[id]?=some (.box (.agg [.str nm,.int .i64 c1,.int .i64 c2,.int .i64 c3,.bool c4]))) (fl:Nat) :
  gNmC f fl [.slice z (l.map Em.coup.emb) tok,.func 85 [.ptr id 0]] σ=some (f nm l,σ++(l.take (visN (nmC nm) l)).map bxC):=by
 unfold gNmC
 simp only [coupL_emb]
 rw [if_pos ⟨trivial,hz.imp (fun h=>by rw [h];rfl) (fun h=>h),hl⟩]
 simp only [hid]
theorem lib_IndexC (hE:ExtOk Tryz.prog E) (h0:E 111=none) (h1:E 85=some gClC):ExtOk Tryz.prog (E.add 111 (gNmC fun nm l=>.int .i64 (ixF (nmC nm) l 0))):=
 hE.add (by kernel_rfl) fun fl args σ p σ' h=>by
  unfold gNmC at h
  split at h
  ·rename_i z xs tok g id
   split at h
   ·rename_i l hl
    split at h
    ·rename_i hc
     obtain ⟨rfl,hz,hlen⟩:=hc
     split at h
     ·rename_i nm c1 c2 c3 c4 hid
      simp only [Option.some.injEq,Prod.mk.injEq] at h
      obtain ⟨rfl,rfl⟩:=h
      rw [coupL_of hl]
      exact WpC.ex2 (r_IndexC hU h0 h1 fl l nm c1 c2 c3 c4 id σ hid hlen z tok (hz.imp List.eq_nil_of_length_eq_zero fun h=>h))
     ·cases h
    ·cases h
   ·cases h
  ·cases h
theorem r_ContC (h0:E 84=none) (h1:E 111=some (gNmC fun nm l=>.int .i64 (ixF (nmC nm) l 0))) (fl:Nat) (l:List CoupD) (nm:List UInt8) (c1 c2 c3:Int) (c4:Bool) (id:Nat) (τ:List SObj) (hid:τ[id]?=some (.box (.agg [.str nm,.int .i64 c1,.int .i64 c2,.int .i64 c3,.bool c4]))) (hl:l.length≤1000000) (z:Nat) (tok:Tok) (hz:l=[]∨z=5) :
  WpC Tryz.prog E fl (.inl 84) [.slice z (l.map Em.coup.emb) tok,.func 85 [.ptr id 0]] τ (fun p1 σ1=>p1=.bool (l.any (nmC nm))∧σ1=τ++(l.take (visN (nmC nm) l)).map bxC):=by
 have hE:=gNmC_of (f:=fun nm l=>.int .i64 (ixF (nmC nm) l 0)) hz hl hid (tok:=tok)
 obtain ⟨ρ,hρ⟩:=gn (τ++(l.take (visN (nmC nm) l)).map bxC)
 rw [hρ] at hE
 rw [hρ,← ixF_any _ l 0]
 apply WpC.bodyL h0 Tryz.func84 rfl
 focus (simp [show Tryz.f84.ntmps=_ from rfl,List.replicate];rfl)
 have gx:=An @h1 (@hE)
 refine goA ?_
 clear gx
 exact ⟨_,_,rfl,rfl,rfl⟩
theorem lib_ContC (hE:ExtOk Tryz.prog E) (h0:E 84=none) (h1:E 111=some (gNmC fun nm l=>.int .i64 (ixF (nmC nm) l 0))):ExtOk Tryz.prog (E.add 84 (gNmC fun nm l=>.bool (l.any (nmC nm)))):=
 hE.add (by kernel_rfl) fun fl args σ p σ' h=>by
  unfold gNmC at h
  split at h
  ·rename_i z xs tok g id
   split at h
   ·rename_i l hl
    split at h
    ·rename_i hc
     obtain ⟨rfl,hz,hlen⟩:=hc
     split at h
     ·rename_i nm c1 c2 c3 c4 hid
      simp only [Option.some.injEq,Prod.mk.injEq] at h
      obtain ⟨rfl,rfl⟩:=h
      rw [coupL_of hl]
      exact WpC.ex2 (r_ContC hU h0 h1 fl l nm c1 c2 c3 c4 id σ hid hlen z tok (hz.imp List.eq_nil_of_length_eq_zero fun h=>h))
     ·cases h
    ·cases h
   ·cases h
  ·cases h
end Go.Kz

namespace Go.Kz
open Go Go.Proofs
set_option maxRecDepth 100000
set_option maxHeartbeats 4000000
abbrev compsE:Em (List (Int×Int)):=Em.feet.list 2
def coupsGo (k:Nat):List CoupD→List CoupD→Int
 | _,[]=>0
 | pre,c::r=>if nameB c.name=false then 8 else if pre.any (nmC c.name)=true then 9 else if c.org < 0∨(k:Int)≤c.org∨c.dst < 0∨(k:Int)≤c.dst then 10 else if c.shift < -127∨127 < c.shift then 3 else if c.org=c.dst∧c.shift=0 then 7 else coupsGo k (pre++[c]) r
def compsB (l:List (Int×Int)):Bool:=l.any fun x=>!decide (compE x.1 x.2=0)
def couplerE (ks:List (Int×Int)) (l:List CoupD):Int:=if 8 < ks.length∨40 < l.length then 4 else if compsB ks=true then 23 else coupsGo ks.length [] l
variable {E:PExt} (hU:Uni E)
include hU
theorem r_coupler (h0:E 40=none) (h1:E 82=some gCp) (h2:E 36=some gNm) (h3:E 84=some (gNmC fun nm l=>.bool (l.any (nmC nm)))) (ks:List (Int×Int)) (l:List CoupD) (hks:ks.length≤1000000) (hl:l.length≤1000000) (hn:∀ x∈l,okN x.name) :
  Run Tryz.prog E 40 [compsE.emb ks,coupsE.emb l] (i64.emb (couplerE ks l)):=by
 unfold couplerE
 by_cases c1:8 < ks.length
 ·have c2:8 < (ks.length:Int):=by omega
  rw [if_pos (.inl c1)]
  apply Run.bodyL h0 Tryz.func40 rfl
  focus (simp [show Tryz.f40.ntmps=_ from rfl,List.replicate];rfl)
  have gx:=An @c1 (@c2)
  refine goA ?_
  clear gx
  simp (disch:=first | omega | (simp;done) | (simp;omega)) [decide_eq_decide] <;> try rfl
 have c1':¬ 8 < (ks.length:Int):=by omega
 by_cases c2:40 < l.length
 ·have c3:40 < (l.length:Int):=by omega
  rw [if_pos (.inr c2)]
  apply Run.bodyL h0 Tryz.func40 rfl
  focus (simp [show Tryz.f40.ntmps=_ from rfl,List.replicate];rfl)
  have gx:=An @c1 (An @c1' (An @c2 (@c3)))
  refine goA ?_
  clear gx
  simp (disch:=first | omega | (simp;done) | (simp;omega)) [decide_eq_decide] <;> try rfl
 have c2':¬ 40 < (l.length:Int):=by omega
 rw [if_neg (fun h=>h.elim c1 c2)]
 obtain ⟨B,hB⟩:∃ B,(if compsB ks=true then (23:Int) else coupsGo ks.length [] l)=B:=⟨_,rfl⟩
 rw [hB]
 apply Run.bodyL h0 Tryz.func40 rfl
 focus (simp [show Tryz.f40.ntmps=_ from rfl,List.replicate];rfl)
 have gx:=An @c1 (An @c1' (An @c2 (@c2')))
 refine goA ?_
 clear gx
 obtain ⟨C,hC⟩:=gn (coupsGo ks.length [] l)
 rw [hC] at hB
 refine Wp.loopI (fun m fr σ=>∃ (i:Nat) (σ1:List SObj),∃ gg:Nat→PD,(i+m=ks.length∧(if compsB (ks.drop i)=true then (23:Int) else C)=B)∧fr=compsE.emb ks::coupsE.emb l::gg 2::gg 3::gg 4::gg 5::gg 6::gg 7::gg 8::gg 9::gg 10::gg 11::gg 12::gg 13::gg 14::gg 15::gg 16::compsE.emb ks::.int .i64 ks.length::.int .i64 i::gg 20::gg 21::gg 22::gg 23::gg 24::gg 25::gg 26::gg 27::gg 28::gg 29::gg 30::gg 31::gg 32::gg 33::gg 34::gg 35::gg 36::gg 37::gg 38::gg 39::gg 40::gg 41::gg 42::gg 43::gg 44::gg 45::gg 46::gg 47::gg 48::gg 49::gg 50::gg 51::gg 52::gg 53::gg 54::gg 55::gg 56::gg 57::gg 58::gg 59::gg 60::gg 61::gg 62::gg 63::gg 64::gg 65::gg 66::gg 67::gg 68::gg 69::gg 70::gg 71::gg 72::gg 73::gg 74::gg 75::gg 76::gg 77::gg 78::gg 79::gg 80::gg 81::gg 82::gg 83::gg 84::gg 85::gg 86::gg 87::gg 88::[]∧σ=σ1) ?_ (ks.length) (by refine ⟨0,[],?_⟩;exact exF (⟨by omega,hB⟩) (by (first | rfl | (simp [];repeat (first | rfl | (apply And.intro))) | (simp [];done))) (by (first | rfl | (simp [];repeat (first | rfl | (apply And.intro))) | (simp [];done))))
 rintro m fr σ ⟨i,σ1,gg,hI,rfl,rfl⟩
 obtain ⟨hm,hs⟩:=hI
 by_cases hi:i < ks.length
 ·have q1:(i:Int) < (ks.length:Int):=by omega
  obtain ⟨a,ha⟩:=gn (ks[i])
  have hc:ks.drop i=a::ks.drop (i+1):=by rw [List.drop_eq_getElem_cons hi,ha]
  rw [hc] at hs
  obtain ⟨a0,a1⟩:=a
  have hE:=gCp_of a0 a1
  have j0:∀ x:SObj,(σ++[x])[σ.length]?=some x:=fun x=>by simp
  have hcb:compsB ((a0,a1)::ks.drop (i+1))=(!decide (compE a0 a1=0)||compsB (ks.drop (i+1))):=rfl
  rw [hcb] at hs
  obtain ⟨e,he⟩:=gn (compE a0 a1)
  rw [he] at hE hs
  by_cases c3:e=0
  ·subst c3
   simp only [decide_true,Bool.not_true,Bool.false_or] at hs
   have gx:=An @q1 (An @hi (An @ha (An @j0 (An @h1 (@hE)))))
   refine goA ?_
   clear gx
   refine LoopI.normal (m - 1) (by omega) (by refine ⟨i+1,σ++[.box (.agg [.int .i64 a0,.int .i64 a1])],?_⟩;exact exF (⟨by omega,hs⟩) (by (first | rfl | (simp [];repeat (first | rfl | (apply And.intro))) | (simp [];done))) (by (first | rfl | (simp [];repeat (first | rfl | (apply And.intro))) | (simp [];done))))
  ·simp only [c3,decide_false,Bool.not_false,Bool.true_or,if_true] at hs
   subst hs
   have gx:=An @q1 (An @hi (An @ha (An @j0 (An @h1 (An @hE (@c3))))))
   refine goA ?_
   clear gx
   simp (disch:=first | omega | (simp;done) | (simp;omega)) [decide_eq_decide] <;> try rfl
 have q1:¬ (i:Int) < (ks.length:Int):=by omega
 rw [List.drop_eq_nil_of_le (by omega)] at hs
 have hs2:C=B:=hs
 rw [hs2] at hC
 clear hs hs2 hB
 have gx:=@q1
 refine goA ?_
 clear gx
 refine Wp.loopI (fun m fr σ=>∃ (i:Nat) (σ1:List SObj),∃ gg:Nat→PD,(i+m=l.length∧coupsGo ks.length (l.take i) (l.drop i)=B)∧fr=compsE.emb ks::coupsE.emb l::gg 2::gg 3::gg 4::gg 5::gg 6::gg 7::gg 8::gg 9::gg 10::gg 11::gg 12::gg 13::gg 14::gg 15::gg 16::gg 17::gg 18::gg 19::gg 20::gg 21::gg 22::gg 23::gg 24::gg 25::gg 26::coupsE.emb l::.int .i64 l.length::.int .i64 i::gg 30::gg 31::gg 32::gg 33::gg 34::gg 35::gg 36::gg 37::gg 38::gg 39::gg 40::gg 41::gg 42::gg 43::gg 44::gg 45::gg 46::gg 47::gg 48::gg 49::gg 50::gg 51::gg 52::gg 53::gg 54::gg 55::gg 56::gg 57::gg 58::gg 59::gg 60::gg 61::gg 62::gg 63::gg 64::gg 65::gg 66::gg 67::gg 68::gg 69::gg 70::gg 71::gg 72::gg 73::gg 74::gg 75::gg 76::gg 77::gg 78::gg 79::gg 80::gg 81::gg 82::gg 83::gg 84::gg 85::gg 86::gg 87::gg 88::[]∧σ=σ1) ?_ (l.length) (by refine ⟨0,σ,?_⟩;exact exF (⟨by omega,hC⟩) (by (first | rfl | (simp [];repeat (first | rfl | (apply And.intro))) | (simp [];done))) (by (first | rfl | (simp [];repeat (first | rfl | (apply And.intro))) | (simp [];done))))
 rintro m fr σ ⟨i,σ1,gg,hI,rfl,rfl⟩
 obtain ⟨hm,hs⟩:=hI
 by_cases hi:i < l.length
 ·have q1:(i:Int) < (l.length:Int):=by omega
  obtain ⟨a,ha⟩:=gn (l[i])
  have hc:l.drop i=a::l.drop (i+1):=by rw [List.drop_eq_getElem_cons hi,ha]
  have htk:l.take (i+1)=l.take i++[a]:=by rw [List.take_succ_eq_append_getElem hi,ha]
  have hna:=gNm_of (hn a (ha▸List.getElem_mem hi))
  rw [hc] at hs
  unfold coupsGo at hs
  obtain ⟨a0,a1,a2,a3,a4⟩:=a
  simp only at hs hna
  have j0:∀ x:SObj,(σ++[x])[σ.length]?=some x:=fun x=>by simp
  have hle:i≤l.length:=by omega
  cases c3:nameB a0 with
  | false=>
    rw [c3] at hna hs
    rw [if_pos rfl] at hs
    subst hs
    have gx:=An @q1 (An @hi (An @ha (An @j0 (An @h2 (@hna)))))
    refine goA ?_
    clear gx
    simp (disch:=first | omega | (simp;done) | (simp;omega)) [decide_eq_decide] <;> try rfl
  | true=>
  rw [c3] at hna hs
  rw [if_neg (by simp)] at hs
  obtain ⟨X,hX⟩:=gn (SObj.box (.agg [.str a0,.int .i64 a1,.int .i64 a2,.int .i64 a3,.bool a4]))
  have hid:(σ++[X])[σ.length]?=some (.box (.agg [.str a0,.int .i64 a1,.int .i64 a2,.int .i64 a3,.bool a4])):=by rw [hX];exact j0 X
  have hne5:(l.take i=[]∨sz 5 l=5):=.inr (by simp [sz];intro h;rw [h] at hi;simp at hi)
  have hE:=gNmC_of (f:=fun nm l=>.bool (l.any (nmC nm))) (z:=sz 5 l) (tok:=.any) hne5 (by rw [List.length_take];omega) hid
  obtain ⟨τ2,hτ⟩:=gn (σ++[X]++((l.take i).take (visN (nmC a0) (l.take i))).map bxC)
  have ht2:τ2[σ.length]?=some (.box (.agg [.str a0,.int .i64 a1,.int .i64 a2,.int .i64 a3,.bool a4])):=by
   rw [← hτ,List.getElem?_append_left (by simp),j0 X,hX]
  rw [hτ] at hE
  obtain ⟨hlt2,hxe⟩:=List.getElem?_eq_some_iff.1 ht2
  rw [← hX,List.map_take] at hE
  obtain ⟨b,hb⟩:=gn ((l.take i).any (nmC a0))
  rw [hb] at hE hs
  clear hτ hX hid
  cases b with
  | true=>
    rw [if_pos rfl] at hs
    subst hs
    have gx:=An @q1 (An @hi (An @ha (An @j0 (An @h2 (An @hna (An @hle (An @h3 (An @hE (An @ht2 (An @hlt2 (@hxe)))))))))))
    refine goA ?_
    clear gx
    simp (disch:=first | omega | (simp;done) | (simp;omega)) [decide_eq_decide] <;> try rfl
  | false=>
  rw [if_neg (by simp)] at hs
  by_cases c4:a1 < 0
  ·rw [if_pos (.inl c4)] at hs
   subst hs
   have gx:=An @q1 (An @hi (An @ha (An @j0 (An @h2 (An @hna (An @hle (An @h3 (An @hE (An @ht2 (An @hlt2 (An @hxe (@c4))))))))))))
   refine goA ?_
   clear gx
   simp (disch:=first | omega | (simp;done) | (simp;omega)) [decide_eq_decide] <;> try rfl
  by_cases c5:(ks.length:Int)≤a1
  ·rw [if_pos (.inr (.inl c5))] at hs
   subst hs
   have gx:=An @q1 (An @hi (An @ha (An @j0 (An @h2 (An @hna (An @hle (An @h3 (An @hE (An @ht2 (An @hlt2 (An @hxe (An @c4 (@c5)))))))))))))
   refine goA ?_
   clear gx
   simp (disch:=first | omega | (simp;done) | (simp;omega)) [decide_eq_decide] <;> try rfl
  by_cases c6:a2 < 0
  ·rw [if_pos (.inr (.inr (.inl c6)))] at hs
   subst hs
   have gx:=An @q1 (An @hi (An @ha (An @j0 (An @h2 (An @hna (An @hle (An @h3 (An @hE (An @ht2 (An @hlt2 (An @hxe (An @c4 (An @c5 (@c6))))))))))))))
   refine goA ?_
   clear gx
   simp (disch:=first | omega | (simp;done) | (simp;omega)) [decide_eq_decide] <;> try rfl
  by_cases c7:(ks.length:Int)≤a2
  ·rw [if_pos (.inr (.inr (.inr c7)))] at hs
   subst hs
   have gx:=An @q1 (An @hi (An @ha (An @j0 (An @h2 (An @hna (An @hle (An @h3 (An @hE (An @ht2 (An @hlt2 (An @hxe (An @c4 (An @c5 (An @c6 (@c7)))))))))))))))
   refine goA ?_
   clear gx
   simp (disch:=first | omega | (simp;done) | (simp;omega)) [decide_eq_decide] <;> try rfl
  rw [if_neg (fun h=>h.elim c4 fun h=>h.elim c5 fun h=>h.elim c6 c7)] at hs
  by_cases c8:a3 < -127
  ·rw [if_pos (.inl c8)] at hs
   subst hs
   have gx:=An @q1 (An @hi (An @ha (An @j0 (An @h2 (An @hna (An @hle (An @h3 (An @hE (An @ht2 (An @hlt2 (An @hxe (An @c4 (An @c5 (An @c6 (An @c7 (@c8))))))))))))))))
   refine goA ?_
   clear gx
   simp (disch:=first | omega | (simp;done) | (simp;omega)) [decide_eq_decide] <;> try rfl
  by_cases c9:127 < a3
  ·rw [if_pos (.inr c9)] at hs
   subst hs
   have gx:=An @q1 (An @hi (An @ha (An @j0 (An @h2 (An @hna (An @hle (An @h3 (An @hE (An @ht2 (An @hlt2 (An @hxe (An @c4 (An @c5 (An @c6 (An @c7 (An @c8 (@c9)))))))))))))))))
   refine goA ?_
   clear gx
   simp (disch:=first | omega | (simp;done) | (simp;omega)) [decide_eq_decide] <;> try rfl
  rw [if_neg (fun h=>h.elim c8 c9)] at hs
  have hst:coupsGo ks.length (l.take (i+1)) (l.drop (i+1))=coupsGo ks.length (l.take i++[⟨a0,a1,a2,a3,a4⟩]) (l.drop (i+1)):=by rw [htk]
  by_cases c10:a1=a2
  ·by_cases c11:a3=0
   ·rw [if_pos ⟨c10,c11⟩] at hs
    subst hs
    subst c10
    subst c11
    have gx:=An @q1 (An @hi (An @ha (An @j0 (An @h2 (An @hna (An @hle (An @h3 (An @hE (An @ht2 (An @hlt2 (An @hxe (An @c4 (An @c5 (An @c8 (@c9)))))))))))))))
    refine goA ?_
    clear gx
    simp (disch:=first | omega | (simp;done) | (simp;omega)) [decide_eq_decide] <;> try rfl
   ·rw [if_neg (fun h=>c11 h.2)] at hs
    subst c10
    have gx:=An @q1 (An @hi (An @ha (An @j0 (An @h2 (An @hna (An @hle (An @h3 (An @hE (An @ht2 (An @hlt2 (An @hxe (An @c4 (An @c5 (An @c8 (An @c9 (@c11))))))))))))))))
    refine goA ?_
    clear gx
    refine LoopI.normal (m - 1) (by omega) (by refine ⟨i+1,τ2,?_⟩;exact exF (⟨by omega,by rw [hst];exact hs⟩) (by (first | rfl | (simp [];repeat (first | rfl | (apply And.intro))) | (simp [];done))) (by (first | rfl | (simp [];repeat (first | rfl | (apply And.intro))) | (simp [];done))))
  ·rw [if_neg (fun h=>c10 h.1)] at hs
   have gx:=An @q1 (An @hi (An @ha (An @j0 (An @h2 (An @hna (An @hle (An @h3 (An @hE (An @ht2 (An @hlt2 (An @hxe (An @c4 (An @c5 (An @c6 (An @c7 (An @c8 (An @c9 (@c10))))))))))))))))))
   refine goA ?_
   clear gx
   refine LoopI.normal (m - 1) (by omega) (by refine ⟨i+1,τ2,?_⟩;exact exF (⟨by omega,by rw [hst];exact hs⟩) (by (first | rfl | (simp [];repeat (first | rfl | (apply And.intro))) | (simp [];done))) (by (first | rfl | (simp [];repeat (first | rfl | (apply And.intro))) | (simp [];done))))
 ·have q1:¬ (i:Int) < (l.length:Int):=by omega
  rw [List.drop_eq_nil_of_le (by omega)] at hs
  have hB2:B=0:=hs.symm
  have gx:=@q1
  refine goA ?_
  clear gx
  simp (disch:=first | omega | (simp;done) | (simp;omega)) [decide_eq_decide,hB2] <;> try rfl
end Go.Kz

namespace Go.Kz
open Go Go.Proofs
set_option maxRecDepth 100000
set_option maxHeartbeats 4000000
def mapE (ns:List (List UInt8)):List (PD×PD):=ns.map fun n=>(.str n,.bool true)
def mapN (ns:List (List UInt8)):SObj:=.map (mapE ns)
def seenB (ns:List (List UInt8)) (nm:List UInt8):Bool:=ns.any fun n=>nm==n
theorem pfind_in (nm:List UInt8):∀ (ns:List (List UInt8)) (i:Nat),seenB ns nm=true→∃ j,pfind (.str nm) (mapE ns) i=some (some (j,.bool true))
 | [],_,h=>by cases h
 | n::ns,i,h=>by
   cases e:nm==n with
   | true=>exact ⟨i,by simp only [mapE,List.map_cons,pfind,psameKey,e]⟩
   | false=>
     have h2:seenB ns nm=true:=by simpa [seenB,List.any_cons,e] using h
     obtain ⟨j,hj⟩:=pfind_in nm ns (i+1) h2
     exact ⟨j,by simp only [mapE,List.map_cons,pfind,psameKey,e];exact hj⟩
theorem pfind_out (nm:List UInt8):∀ (ns:List (List UInt8)) (i:Nat),seenB ns nm=false→pfind (.str nm) (mapE ns) i=some none
 | [],_,_=>rfl
 | n::ns,i,h=>by
   simp only [seenB,List.any_cons,Bool.or_eq_false_iff] at h
   simp only [mapE,List.map_cons,pfind,psameKey,h.1]
   exact pfind_out nm ns (i+1) h.2
theorem u_seen:(Tryz.prog).underlying 104=some (.map 9 4):=by kernel_rfl
theorem k_seen (nm:List UInt8):pkeyIs Tryz.prog 9 (.str nm)=true:=by
 have h:(Tryz.prog).underlying 9=some .string:=by kernel_rfl
 unfold pkeyIs
 rw [h]
theorem z_seen:pzero Tryz.prog 4=some (.bool false):=by rfl
theorem look_seen {σ:List SObj} {id:Nat} {ns:List (List UInt8)} (h:σ[id]?=some (mapN ns)) (nm:List UInt8):plookup Tryz.prog σ 104 (.mref id) (.str nm) false=some (.bool (seenB ns nm)):=by
 unfold plookup
 simp only [u_seen,k_seen,if_true,h,mapN]
 cases e:seenB ns nm with
 | true=>
   obtain ⟨j,hj⟩:=pfind_in nm ns 0 e
   simp only [hj]
   rfl
 | false=>
   simp only [pfind_out nm ns 0 e,z_seen]
   rfl
theorem put_seen {σ:List SObj} {id fl:Nat} {ns:List (List UInt8)} (h:σ[id]?=some (mapN ns)) (hf:fl≤id) (nm:List UInt8) (hn:seenB ns nm=false):pmapUpdate Tryz.prog fl σ 104 (.mref id) (.str nm) (.bool true)=some (σ.set id (mapN (ns++[nm]))):=by
 unfold pmapUpdate
 simp only [u_seen,k_seen,if_true,h,mapN,hf,pfind_out nm ns 0 hn]
 simp [mapE]
variable {E:PExt} (hU:Uni E)
include hU
theorem r_again1 (h0:E 38=none) (fl id:Nat) (ns:List (List UInt8)) (nm:List UInt8) (τ:List SObj) (h:τ[id]?=some (mapN ns)) (hn:seenB ns nm=true) :
  WpC Tryz.prog E fl (.inl 38) [.mref id,.str nm] τ (fun p1 σ1=>p1=.int .i64 9∧σ1=τ):=by
 have hl:=look_seen h nm
 rw [hn] at hl
 apply WpC.bodyL h0 Tryz.func38 rfl
 focus (simp [show Tryz.f38.ntmps=_ from rfl,List.replicate];rfl)
 have gx:=@hl
 refine goM ?_
 clear gx
 exact ⟨_,_,rfl,rfl,rfl⟩
theorem r_again2 (h0:E 38=none) (fl id:Nat) (ns:List (List UInt8)) (nm:List UInt8) (τ:List SObj) (h:τ[id]?=some (mapN ns)) (hf:fl≤id) (hn:seenB ns nm=false) :
  WpC Tryz.prog E fl (.inl 38) [.mref id,.str nm] τ (fun p1 σ1=>p1=.int .i64 0∧σ1=τ.set id (mapN (ns++[nm]))):=by
 have hl:=look_seen h nm
 rw [hn] at hl
 have hp:=put_seen h hf nm hn
 apply WpC.bodyL h0 Tryz.func38 rfl
 focus (simp [show Tryz.f38.ntmps=_ from rfl,List.replicate];rfl)
 have gx:=An @hl (@hp)
 refine goM ?_
 clear gx
 exact ⟨_,_,rfl,rfl,rfl⟩
omit hU in
def namesL:List (PD×PD)→Option (List (List UInt8))
 | []=>some []
 | (.str n,.bool true)::r=>match namesL r with | some l=>some (n::l) | none=>none
 | _=>none
omit hU in
theorem namesL_of:∀ {es:List (PD×PD)} {l:List (List UInt8)},namesL es=some l→es=mapE l
 | [],l,h=>by simp only [namesL,Option.some.injEq] at h;subst h;rfl
 | x::r,l,h=>by
   unfold namesL at h
   split at h
   ·cases ‹_::_=_›
   ·rename_i n r' e
    simp only [List.cons.injEq] at e
    obtain ⟨rfl,rfl⟩:=e
    split at h
    ·rename_i l' hl
     simp only [Option.some.injEq] at h
     subst h
     rw [namesL_of hl]
     rfl
    ·cases h
   ·cases h
omit hU in
@[simp] theorem namesL_map:∀ l:List (List UInt8),namesL (mapE l)=some l
  | []=>rfl
  | n::l=>by
    show namesL ((.str n,.bool true)::mapE l)=_
    simp only [namesL,namesL_map l]
omit hU in
def gAg:Nat→List PD→List SObj→Option (PD×List SObj):=fun fl args σ=>match args with
 | [.mref id,.str nm]=>match σ[id]? with
   | some (.map es)=>match namesL es with
     | some ns=>if seenB ns nm=true then some (.int .i64 9,σ) else if fl≤id then some (.int .i64 0,σ.set id (mapN (ns++[nm]))) else none
     | none=>none
   | _=>none
 | _=>none
omit hU in
theorem gAg_9 {fl id:Nat} {ns:List (List UInt8)} {nm:List UInt8} {σ:List SObj} (h:σ[id]?=some (mapN ns)) (hn:seenB ns nm=true):gAg fl [.mref id,.str nm] σ=some (.int .i64 9,σ):=by
 unfold gAg
 simp only [h,mapN,namesL_map,hn,if_true]
omit hU in
theorem gAg_0 {fl id:Nat} {ns:List (List UInt8)} {nm:List UInt8} {σ:List SObj} (h:σ[id]?=some (mapN ns)) (hn:seenB ns nm=false) (hf:fl≤id):gAg fl [.mref id,.str nm] σ=some (.int .i64 0,σ.set id (mapN (ns++[nm]))):=by
 unfold gAg
 simp only [h,mapN,namesL_map,hn,hf,if_true]
 rfl
theorem lib_again (hE:ExtOk Tryz.prog E) (h0:E 38=none):ExtOk Tryz.prog (E.add 38 gAg):=
 hE.add (by kernel_rfl) fun fl args σ p σ' h=>by
  unfold gAg at h
  split at h
  ·rename_i id nm
   split at h
   ·rename_i es hes
    split at h
    ·rename_i ns hns
     have hm:σ[id]?=some (mapN ns):=by rw [hes,namesL_of hns];rfl
     split at h
     ·rename_i hs
      simp only [Option.some.injEq,Prod.mk.injEq] at h
      obtain ⟨rfl,rfl⟩:=h
      exact WpC.ex2 (r_again1 hU h0 fl id ns nm σ hm hs)
     ·rename_i hs
      split at h
      ·rename_i hf
       simp only [Option.some.injEq,Prod.mk.injEq] at h
       obtain ⟨rfl,rfl⟩:=h
       exact WpC.ex2 (r_again2 hU h0 fl id ns nm σ hm hf (by simpa using hs))
      ·cases h
    ·cases h
   ·cases h
  ·cases h
end Go.Kz

namespace Go.Kz
open Go Go.Proofs
set_option maxRecDepth 100000
set_option maxHeartbeats 4000000
def stopsGo (rs:List RankD) (lo hg:Int):List (List UInt8)→List StopD→Int
 | _,[]=>0
 | ns,s::r=>if stopE rs lo hg s≠0 then stopE rs lo hg s else if seenB ns s.name=true then 9 else stopsGo rs lo hg (ns++[s.name]) r
def divE (rs:List RankD) (d:DivD):Int:=if compE d.low d.high≠0 then compE d.low d.high else if 60 < d.stops.length then 4 else stopsGo rs d.low d.high [] d.stops
def okSt (s:StopD):Prop:=okS s∧okN s.name
noncomputable def gSt:Nat→List PD→List SObj→Option (PD×List SObj):=entry (gf2 Em.place Em.stop i64 fun x s=>gif (okPlace x.1∧okSt s) (some (stopE x.1 x.2.1 x.2.2 s)))
theorem gSt_of {rs:List RankD} {s:StopD} (h:okPlace rs) (hs:okSt s) (lo hg:Int) (fl:Nat) (σ:List SObj):gSt fl [.agg [ranks.emb rs,.int .i64 lo,.int .i64 hg],Em.stop.emb s] σ=some (.int .i64 (stopE rs lo hg s),σ):=by
 have e1:=Em.dec_some (Em.place.str (rs,lo,hg))
 rw [emb_place] at e1
 have e2:=Em.dec_some (Em.stop.str s)
 unfold gSt entry gf2
 simp only [e1,e2]
 rw [gif_pos ⟨h,hs⟩]
 rfl
variable {E:PExt} (hU:Uni E)
include hU
theorem r_div (h0:E 39=none) (h1:E 82=some gCp) (h2:E 83=some gSt) (h3:E 38=some gAg) (o:OrganD) (hrs:okPlace o.ranks) (d:DivD) (hd:d.stops.length≤1000000∧∀ s∈d.stops,okSt s) :
  Run Tryz.prog E 39 [Em.organ.emb o,Em.div.emb d] (i64.emb (divE o.ranks d)):=by
 obtain ⟨on,rs,od,oc⟩:=o
 obtain ⟨dn,dp,lo,hg,l⟩:=d
 have hC:=gCp_of lo hg
 obtain ⟨hdl,hds⟩:=hd
 simp only at hrs hdl hds
 unfold divE
 simp only [emb_organ,emb_div,emb_list]
 obtain ⟨c,hc⟩:=gn (compE lo hg)
 rw [hc] at hC ⊢
 by_cases c1:c=0
 rotate_left
 ·rw [if_pos c1]
  apply Run.bodyL h0 Tryz.func39 rfl
  focus (simp [show Tryz.f39.ntmps=_ from rfl,List.replicate];rfl)
  have gx:=An @h1 (An @hC (@c1))
  refine goM ?_
  clear gx
  simp (disch:=first | omega | (simp;done) | (simp;omega)) [decide_eq_decide] <;> try rfl
 subst c1
 simp only [ne_eq,not_true_eq_false,if_false]
 by_cases c2:60 < l.length
 ·have c3:60 < (l.length:Int):=by omega
  rw [if_pos c2]
  apply Run.bodyL h0 Tryz.func39 rfl
  focus (simp [show Tryz.f39.ntmps=_ from rfl,List.replicate];rfl)
  have gx:=An @h1 (An @hC (An @c2 (@c3)))
  refine goM ?_
  clear gx
  simp (disch:=first | omega | (simp;done) | (simp;omega)) [decide_eq_decide] <;> try rfl
 have c3:¬ 60 < (l.length:Int):=by omega
 rw [if_neg c2]
 obtain ⟨B,hB⟩:=gn (stopsGo rs lo hg [] l)
 rw [hB]
 have us:=u_seen
 apply Run.bodyL h0 Tryz.func39 rfl
 focus (simp [show Tryz.f39.ntmps=_ from rfl,List.replicate];rfl)
 have gx:=An @h1 (An @hC (An @c2 (An @c3 (@us))))
 refine goM ?_
 clear gx
 obtain ⟨X,hX⟩:=gn (SObj.box (.agg [.str on,.slice (sz 6 rs) (rs.map Em.rank.emb) .any,.slice (sz 5 od) (od.map Em.div.emb) .any,.slice (sz 5 oc) (oc.map Em.coup.emb) .any]))
 obtain ⟨Y,hY⟩:=gn (SObj.box (.agg [.str dn,.bool dp,.int .i64 lo,.int .i64 hg,.slice (sz 4 l) (l.map Em.stop.emb) .any]))
 refine Wp.loopI (fun m fr σ=>∃ (i:Nat) (σ1:List SObj),∃ gg:Nat→PD,(i+m=l.length∧σ1[0]?=some X∧σ1[1]?=some Y∧σ1[2]?=some (mapN ((l.take i).map StopD.name))∧stopsGo rs lo hg ((l.take i).map StopD.name) (l.drop i)=B)∧fr=[gg 0,gg 1,.ptr 0 0,.ptr 1 0,gg 4,gg 5,.mref 2,gg 7,gg 8,gg 9,gg 10,gg 11,gg 12,gg 13,gg 14,gg 15,gg 16,gg 17,gg 18,gg 19,gg 20,gg 21,gg 22,stopsE.emb l,.int .i64 l.length,.int .i64 i,gg 26,gg 27,gg 28,gg 29,gg 30,gg 31,gg 32,gg 33,gg 34,gg 35,gg 36,gg 37,gg 38,gg 39,gg 40,gg 41,gg 42,gg 43,gg 44,gg 45,gg 46]∧σ=σ1) ?_ (l.length) (by refine ⟨0,[X,Y,.map []],?_⟩;exact exF (⟨by omega,rfl,rfl,rfl,hB⟩) (by (first | rfl | (simp [hX,hY];repeat (first | rfl | (apply And.intro))) | (simp [hX,hY];done))) (by (first | rfl | (simp [hX,hY];repeat (first | rfl | (apply And.intro))) | (simp [hX,hY];done))))
 rintro m fr σ ⟨i,σ1,gg,hI,rfl,rfl⟩
 obtain ⟨hm,hx0,hy0,hz0,hs⟩:=hI
 by_cases hi:i < l.length
 ·have q1:(i:Int) < (l.length:Int):=by omega
  obtain ⟨a,ha⟩:=gn (l[i])
  have hc4:l.drop i=a::l.drop (i+1):=by rw [List.drop_eq_getElem_cons hi,ha]
  have htk:(l.take (i+1)).map StopD.name=(l.take i).map StopD.name++[a.name]:=by rw [List.take_succ_eq_append_getElem hi,ha,List.map_append];rfl
  have hE:=gSt_of hrs (hds a (ha▸List.getElem_mem hi)) lo hg
  rw [hc4] at hs
  unfold stopsGo at hs
  have hx1:=hx0
  have hy1:=hy0
  rw [← hX] at hx1
  rw [← hY] at hy1
  obtain ⟨hlt0,hxe⟩:=List.getElem?_eq_some_iff.1 hx1
  obtain ⟨hlt1,hye⟩:=List.getElem?_eq_some_iff.1 hy1
  obtain ⟨hlt2,hze⟩:=List.getElem?_eq_some_iff.1 hz0
  obtain ⟨a0,a1,a2,a3⟩:=a
  have j0:∀ x:SObj,(σ++[x])[σ.length]?=some x:=fun x=>by simp
  obtain ⟨e,he⟩:=gn (stopE rs lo hg ⟨a0,a1,a2,a3⟩)
  rw [he] at hE hs
  simp only [emb_stop,emb_list] at hE
  simp only at hs htk
  by_cases c4:e=0
  rotate_left
  ·rw [if_pos c4] at hs
   subst hs
   have gx:=An @q1 (An @hi (An @ha (An @j0 (An @hx1 (An @hy1 (An @hlt0 (An @hlt1 (An @hxe (An @hye (An @h2 (An @hE (@c4))))))))))))
   refine goM ?_
   clear gx
   simp (disch:=first | omega | (simp;done) | (simp;omega)) [decide_eq_decide] <;> try rfl
  subst c4
  simp only [ne_eq,not_true_eq_false,if_false] at hs
  obtain ⟨Z,hZ⟩:=gn (SObj.box (.agg [.str a0,.int .i64 a1,.int .i64 a2,.slice (sz 3 a3) (a3.map Em.seg.emb) .any]))
  have hmz:(σ++[Z])[2]?=some (mapN ((l.take i).map StopD.name)):=by rw [List.getElem?_append_left hlt2];exact hz0
  cases hb:seenB ((l.take i).map StopD.name) a0 with
  | true=>
    rw [hb] at hs
    rw [if_pos rfl] at hs
    subst hs
    have hA:=fun fl=>gAg_9 (fl:=fl) hmz hb
    rw [← hZ] at hA
    have gx:=An @q1 (An @hi (An @ha (An @j0 (An @hx1 (An @hy1 (An @hlt0 (An @hlt1 (An @hxe (An @hye (An @h2 (An @hE (An @h3 (@hA)))))))))))))
    refine goM ?_
    clear gx
    simp (disch:=first | omega | (simp;done) | (simp;omega)) [decide_eq_decide] <;> try rfl
  | false=>
    rw [hb] at hs
    rw [if_neg (by simp)] at hs
    have hA:=gAg_0 (fl:=0) hmz hb (Nat.zero_le _)
    obtain ⟨τ2,hτ⟩:=gn ((σ++[Z]).set 2 (mapN ((l.take i).map StopD.name++[a0])))
    have t0:τ2[0]?=some X:=by rw [← hτ,List.getElem?_set_ne (by omega),List.getElem?_append_left hlt0];exact hx0
    have t1:τ2[1]?=some Y:=by rw [← hτ,List.getElem?_set_ne (by omega),List.getElem?_append_left hlt1];exact hy0
    have t2:τ2[2]?=some (mapN ((l.take i).map StopD.name++[a0])):=by rw [← hτ];exact List.getElem?_set_self (by simp;omega)
    rw [hτ] at hA
    rw [← hZ] at hA
    clear hτ
    have gx:=An @q1 (An @hi (An @ha (An @j0 (An @hx1 (An @hy1 (An @hlt0 (An @hlt1 (An @hxe (An @hye (An @h2 (An @hE (An @h3 (@hA)))))))))))))
    refine goM ?_
    clear gx
    refine LoopI.normal (m - 1) (by omega) (by refine ⟨i+1,τ2,?_⟩;exact exF (⟨by omega,t0,t1,by rw [htk];exact t2,by rw [htk];exact hs⟩) (by (first | rfl | (simp [];repeat (first | rfl | (apply And.intro))) | (simp [];done))) (by (first | rfl | (simp [];repeat (first | rfl | (apply And.intro))) | (simp [];done))))
 ·have q1:¬ (i:Int) < (l.length:Int):=by omega
  rw [List.drop_eq_nil_of_le (by omega)] at hs
  have hB2:B=0:=hs.symm
  have gx:=@q1
  refine goM ?_
  clear gx
  simp (disch:=first | omega | (simp;done) | (simp;omega)) [decide_eq_decide,hB2] <;> try rfl
end Go.Kz

namespace Go.Kz
open Go Go.Proofs
set_option maxRecDepth 100000
set_option maxHeartbeats 4000000
theorem tone_at (n:Int) (h:okU8 n):pindexAddr Tryz.prog 125 (.slice 1 [.str [79,112,101,110],.str [70,108,117,116,101],.str [82,101,101,100]] .full) (.int .u8 (n.tmod 3))=some (.eptr [.str (toneAt n)] 0):=by
 obtain ⟨k,rfl⟩:∃ k:Nat,n=k:=⟨n.toNat,by have:=h.1;omega⟩
 have hm:(k:Int).tmod 3=((k%3:Nat):Int):=rfl
 have hs:toneAt k=tones.getD (k%3) []:=by
  unfold toneAt
  congr 1
 rw [hm,hs]
 have hlt:k%3 < 3:=Nat.mod_lt _ (by decide)
 generalize k%3=j at hlt
 match j,hlt with
 | 0,_=>exact rfl
 | 1,_=>exact rfl
 | 2,_=>exact rfl
theorem wind_at (x:RPlan) (k:Nat) (hk:k≤1000) (id off:Nat):pindexAddr Tryz.prog 93 (.ptr id off) (.int .i64 ((k:Int).tmod 5))=some (.ptr id (off+k%5)) ∧
  [PD.int .u8 x.tone,.int .u8 x.feet,.int .i8 x.first,.int .u8 x.pipes,.int .u8 x.w0,.int .u8 x.w1,.int .u8 x.w2,.int .u8 x.w3,.int .u8 x.w4][4+k%5]?=some (.int .u8 (windAt x k)):=by
 have hm:(k:Int).tmod 5=((k%5:Nat):Int):=rfl
 have hs:windAt x k=[x.w0,x.w1,x.w2,x.w3,x.w4].getD (k%5) 0:=rfl
 rw [hm,hs]
 have hlt:k%5 < 5:=Nat.mod_lt _ (by decide)
 generalize k%5=j at hlt
 match j,hlt with
 | 0,_=>exact ⟨rfl,rfl⟩
 | 1,_=>exact ⟨rfl,rfl⟩
 | 2,_=>exact ⟨rfl,rfl⟩
 | 3,_=>exact ⟨rfl,rfl⟩
 | 4,_=>exact ⟨rfl,rfl⟩
variable {E:PExt} (hU:Uni E)
include hU
theorem r_rankMake (h0:E 32=none) (h1:E 68=some (entry (gf1 u8e Em.feet fun n=>gif (okU8 n) (some (allAt n))))) (x:RPlan) (hx:okRp x) (i:Nat) (hi:i < 10) :
  Run Tryz.prog E 32 [Em.rplan.emb x,.int .i64 i] (Em.rank.emb (rankS x i)):=by
 have hw:=wind_at x
 have hwl:∀ k,(windS x k).length=k:=fun k=>by simp [windS]
 have hws:∀ k,windS x (k+1)=windS x k++[windAt x k]:=fun k=>by simp [windS,List.range_succ]
 have hwb:∀ k,0≤windAt x k∧windAt x k≤255:=fun k=>by
  have hlt:k%5 < 5:=Nat.mod_lt _ (by decide)
  unfold windAt
  generalize k%5=j at hlt
  match j,hlt with
  | 0,_=>exact hx.2.2.2.2.1
  | 1,_=>exact hx.2.2.2.2.2.1
  | 2,_=>exact hx.2.2.2.2.2.2.1
  | 3,_=>exact hx.2.2.2.2.2.2.2.1
  | 4,_=>exact hx.2.2.2.2.2.2.2.2
 obtain ⟨W,hW⟩:=gn (windS x)
 obtain ⟨wa,hwa⟩:=gn (windAt x)
 obtain ⟨dg,hdg⟩:=gn (UInt8.ofNat (48+(i:Int)).toNat)
 have hR:rankS x i=⟨[82,dg],toneAt x.tone,(allAt x.feet).1,(allAt x.feet).2,x.first,W (1+(x.pipes%25).toNat)⟩:=by
  rw [← hW]
  unfold rankS digit
  rw [Nat.mod_eq_of_lt hi,← hdg,show (48+(i:Int)).toNat=48+i by omega]
 rw [hR]
 rw [hwa] at hw hws hwb
 rw [hW] at hws hwl
 clear hR hW hwa
 obtain ⟨t,f,fi,pi,w0,w1,w2,w3,w4⟩:=x
 obtain ⟨ht,hf,hfi,hpi,g0,g1,g2,g3,g4⟩:=hx
 simp only at hw ht hf hfi hpi
 obtain ⟨p,rfl⟩:∃ p:Nat,pi=p:=⟨pi.toNat,by have:=hpi.1;omega⟩
 have hp25:p%25 < 25:=Nat.mod_lt _ (by decide)
 obtain ⟨N,hN⟩:=gn (p%25)
 have e1:((p:Int)).tmod 25=(N:Int):=by rw [← hN];rfl
 have e2:IntKind.i64.wrap (N:Int)=(N:Int):=by rw [IntKind.wrap_i64];omega
 have e3:IntKind.i64.wrap (1+(N:Int))=1+(N:Int):=by rw [IntKind.wrap_i64];omega
 have e4:((p:Int)%25).toNat=N:=by omega
 simp only [emb_rplan,emb_rank,emb_list,e4]
 have hT:=tone_at t ht
 have d1:((i:Int)).tmod 10=(i:Int):=Int.tmod_eq_of_lt (by omega) (by omega)
 have d2:IntKind.i64.wrap (48+(i:Int))=48+(i:Int):=by rw [IntKind.wrap_i64];omega
 have d3:IntKind.u8.wrap (48+(i:Int))=48+(i:Int):=by simp only [IntKind.wrap,IntKind.bits,IntKind.signed];simp;omega
 have d4:IntKind.i64.wrap fi=fi:=by have:=hfi.1;have:=hfi.2;rw [IntKind.wrap_i64];omega
 have hF:∀ fl σ,entry (gf1 u8e Em.feet fun n=>gif (okU8 n) (some (allAt n))) fl [.int .u8 f] σ=some (.agg [.int .i64 (allAt f).1,.int .i64 (allAt f).2],σ):=fun fl σ=>by
  have e:u8e.dec (.int .u8 f)=some f:=Em.dec_some rfl
  unfold entry gf1
  simp only [e]
  rw [gif_pos hf]
  rfl
 apply Run.bodyL h0 Tryz.func32 rfl
 focus (simp [show Tryz.f32.ntmps=_ from rfl,List.replicate];rfl)
 have gx:=An @h1 (An @hT (An @d1 (An @d2 (An @d3 (An @d4 (An @hdg (@hF)))))))
 refine goA ?_
 clear gx
 have hW0:W 0=[]:=List.eq_nil_of_length_eq_zero (hwl 0)
 refine Wp.loopI (fun m fr σ=>∃ (k z:Nat),∃ gg:Nat→PD,(k+m=1+N∧(W k=[]∨z=1))∧fr=[gg 0,gg 1,.ptr 0 0,gg 3,.ptr 1 0,.ptr 2 0,.int .i64 k,gg 7,gg 8,gg 9,gg 10,gg 11,gg 12,gg 13,gg 14,gg 15,gg 16,gg 17,gg 18,gg 19,gg 20,gg 21,gg 22,gg 23,gg 24,gg 25,gg 26,gg 27,gg 28,gg 29,gg 30,gg 31,gg 32,gg 33,gg 34,gg 35,gg 36,gg 37,gg 38,gg 39,gg 40,gg 41,gg 42,gg 43,gg 44,gg 45,gg 46,gg 47]∧σ=St [.box (.agg [.int .u8 t,.int .u8 f,.int .i8 fi,.int .u8 p,.int .u8 w0,.int .u8 w1,.int .u8 w2,.int .u8 w3,.int .u8 w4]),.box (.agg [.str [],.str [],.int .i64 0,.int .i64 0,.int .i64 0,.slice 0 [] .full]),.box (.agg [.str [82,dg],.str (toneAt t),.int .i64 (allAt f).1,.int .i64 (allAt f).2,.int .i64 fi,.slice z ((W k).map i64.emb) (outTok 3 (W k).length)])] 3 1 (W k).length) ?_ (1+N) (by refine ⟨0,0,?_⟩;exact exF (⟨by omega,.inl hW0⟩) (by (first | rfl | (simp [hW0,outTok];repeat (first | rfl | (apply And.intro))) | (simp [hW0,outTok];done))) (by (first | rfl | (simp [hW0,outTok];repeat (first | rfl | (apply And.intro))) | (simp [hW0,outTok];done))))
 rintro m fr σ ⟨k,z,gg,hI,rfl,rfl⟩
 obtain ⟨hm,hz⟩:=hI
 by_cases hk:k < 1+N
 ·have q1:(k:Int) < 1+(N:Int):=by omega
  obtain ⟨hw1,hw2⟩:=hw k (by omega) 0 4
  obtain ⟨hlt9,hw3⟩:=List.getElem?_eq_some_iff.1 hw2
  have hb1:IntKind.i64.wrap (wa k)=wa k:=by have:=hwb k;rw [IntKind.wrap_i64];omega
  have hl:=hwl k
  have gx:=An @e1 (An @e2 (An @e3 (An @q1 (An @hw1 (An @hw2 (An @hw3 (An @hb1 (An @hz (@hl)))))))))
  refine goA ?_
  clear gx
  refine LoopI.normal (m - 1) (by omega) (by refine ⟨k+1,1,?_⟩;exact exF (⟨by omega,.inr rfl⟩) (by (first | rfl | (simp [hws,hl];repeat (first | rfl | (apply And.intro))) | (simp [hws,hl];done))) (by (first | rfl | (simp [hws,hl];repeat (first | rfl | (apply And.intro))) | (simp [hws,hl];done))))
 ·have q1:¬ (k:Int) < 1+(N:Int):=by omega
  obtain rfl:k=1+N:=by omega
  have gx:=An @e1 (An @e2 (An @e3 (@q1)))
  refine goA ?_
  clear gx
  have hne:W (1+N)≠[]:=fun h=>by have:=hwl (1+N);rw [h] at this;simp at this;omega
  have hz1:z=1:=hz.resolve_left hne
  subst hz1
  simp (disch:=first | omega | (simp;done) | (simp;omega)) [decide_eq_decide,hwl,sz_ne hne] <;> try rfl
end Go.Kz

namespace Go.Kz
open Go Go.Proofs
set_option maxRecDepth 100000
set_option maxHeartbeats 4000000
theorem six_mem (n:Int) (h:okU8 n):sixAt n∈feetSix:=by
 obtain ⟨k,rfl⟩:∃ k:Nat,n=k:=⟨n.toNat,by have:=h.1;omega⟩
 have hs:sixAt k=feetSix.getD (k%6) (8,1):=by
  unfold sixAt
  congr 1
 rw [hs]
 have hlt:k%6 < 6:=Nat.mod_lt _ (by decide)
 generalize k%6=j at hlt
 match j,hlt with
 | 0,_=>decide
 | 1,_=>decide
 | 2,_=>decide
 | 3,_=>decide
 | 4,_=>decide
 | 5,_=>decide
theorem all_mem (n:Int) (h:okU8 n):allAt n∈feetAll:=by
 obtain ⟨k,rfl⟩:∃ k:Nat,n=k:=⟨n.toNat,by have:=h.1;omega⟩
 have hs:allAt k=feetAll.getD (k%16) (8,1):=by
  unfold allAt
  congr 1
 rw [hs]
 have hlt:k%16 < feetAll.length:=Nat.mod_lt _ (by decide)
 rw [List.getD_eq_getElem?_getD,List.getElem?_eq_getElem hlt]
 exact List.getElem_mem hlt
theorem shift_bound (a b:Int×Int):-60≤shiftOf a b∧shiftOf a b≤64:=by
 unfold shiftOf
 cases h:shiftTab.find? fun t=>decide (t.1=a)&&decide (t.2.1=b) with
 | none=>exact ⟨by decide,by decide⟩
 | some t=>
   have hm:=List.mem_of_find?_eq_some h
   exact (by decide:∀ t∈shiftTab,-60≤t.2.2∧t.2.2≤64) t hm
noncomputable def gSh:Nat→List PD→List SObj→Option (PD×List SObj):=entry (gf2 Em.feet Em.feet (Em.tup2 i64 i64) fun a b=>gif (a∈feetSix∧b∈feetAll) (some (shiftOf a b,0)))
theorem gSh_of {a b:Int×Int} (ha:a∈feetSix) (hb:b∈feetAll) (fl:Nat) (σ:List SObj):gSh fl [.agg [.int .i64 a.1,.int .i64 a.2],.agg [.int .i64 b.1,.int .i64 b.2]] σ=some (.tup [.int .i64 (shiftOf a b),.int .i64 0],σ):=by
 have e1:Em.feet.dec (.agg [.int .i64 a.1,.int .i64 a.2])=some a:=Em.dec_some (Em.feet.str a)
 have e2:Em.feet.dec (.agg [.int .i64 b.1,.int .i64 b.2])=some b:=Em.dec_some (Em.feet.str b)
 unfold gSh entry gf2
 simp only [e1,e2]
 rw [gif_pos ⟨ha,hb⟩]
 rfl
variable {E:PExt} (hU:Uni E)
include hU
theorem r_pull (h0:E 33=none) (h1:E 69=some (entry (gf1 u8e Em.feet fun n=>gif (okU8 n) (some (sixAt n))))) (h2:E 70=some gSh)
  (rs:List RankD) (hrs:∀ r∈rs,(r.num,r.den)∈feetAll) (hr1:1≤rs.length) (hr2:rs.length≤60) (lo hg:Int) (hlo:0≤lo) (hlh:lo≤hg) (hhg:hg≤200) (x:PullD) (hx:okPu x) (i:Nat) (hi10:i < 10) :
  Run Tryz.prog E 33 [ranks.emb rs,.agg [.int .i64 lo,.int .i64 hg],Em.pull.emb x,.int .i64 i] (Em.stop.emb (pullS rs lo hg x i)):=by
 obtain ⟨r,f,k,a⟩:=x
 obtain ⟨hr,hf,hk,ha⟩:=hx
 simp only at hr hf hk ha
 obtain ⟨r,rfl⟩:∃ q:Nat,r=q:=⟨r.toNat,by have:=hr.1;omega⟩
 obtain ⟨k,rfl⟩:∃ q:Nat,k=q:=⟨k.toNat,by have:=hk.1;omega⟩
 obtain ⟨a,rfl⟩:∃ q:Nat,a=q:=⟨a.toNat,by have:=ha.1;omega⟩
 have hrb:=hr.2
 have hab:=ha.2
 obtain ⟨n,hn⟩:=gn (r%rs.length)
 have hnl:n < rs.length:=by rw [← hn];exact Nat.mod_lt _ hr1
 obtain ⟨m,hm⟩:=gn ((n+1)%rs.length)
 have hml:m < rs.length:=by rw [← hm];exact Nat.mod_lt _ hr1
 have c1:(r:Int).tmod (rs.length:Int)=n:=by rw [← hn];rfl
 have c1':(r:Int)%(rs.length:Int)=n:=by rw [← hn];rfl
 have c2:((n:Int)+1).tmod (rs.length:Int)=m:=by rw [← hm];rfl
 have c2':((n:Int)+1)%(rs.length:Int)=m:=by rw [← hm];rfl
 obtain ⟨j,hj⟩:=gn (k%6)
 have hj6:j < 6:=by rw [← hj];exact Nat.mod_lt _ (by decide)
 have c3:(k:Int).tmod 6=(j:Int):=by rw [← hj];rfl
 have c3':(k:Int)%6=(j:Int):=by rw [← hj];rfl
 obtain ⟨w,hw⟩:∃ w:Nat,hg - lo+1=w:=⟨(hg - lo+1).toNat,by omega⟩
 obtain ⟨u,hu⟩:=gn (a%w)
 have huw:u < w:=by rw [← hu];exact Nat.mod_lt _ (by omega)
 have c4:(a:Int).tmod (w:Int)=u:=by rw [← hu];rfl
 have c4':(a:Int)%(w:Int)=u:=by rw [← hu];rfl
 obtain ⟨q,hq⟩:=gn (rs[n])
 obtain ⟨p,hp⟩:=gn (rs[m])
 have hqf:=hrs q (hq▸List.getElem_mem hnl)
 have hpf:=hrs p (hp▸List.getElem_mem hml)
 have hF1:feetOf rs n=(q.num,q.den):=by unfold feetOf;rw [List.getD_eq_getElem?_getD,List.getElem?_eq_getElem hnl,hq];rfl
 have hF2:feetOf rs m=(p.num,p.den):=by unfold feetOf;rw [List.getD_eq_getElem?_getD,List.getElem?_eq_getElem hml,hp];rfl
 obtain ⟨sh,hsh⟩:=gn (shiftOf (sixAt f) (q.num,q.den))
 obtain ⟨st,hst⟩:=gn (shiftOf (sixAt f) (p.num,p.den))
 have hS1:=gSh_of (six_mem f hf) hqf
 have hS2:=gSh_of (six_mem f hf) hpf
 rw [hsh] at hS1
 rw [hst] at hS2
 obtain ⟨dg,hdg⟩:=gn (UInt8.ofNat (48+(i:Int)).toNat)
 have hR:pullS rs lo hg ⟨r,f,k,a⟩ i=⟨[83,dg],(sixAt f).1,(sixAt f).2,segsS j n sh lo hg (lo+u) m st⟩:=by
  unfold pullS digit
  simp only [c1',c2',c3',hw,c4',Int.toNat_natCast,hF1,hF2,hsh,hst,← hdg,show (48+(i:Int)).toNat=48+i by omega]
 rw [hR]
 have hsh0:-60≤sh∧sh≤64:=hsh▸shift_bound _ _
 clear hR hF1 hF2 hsh hst
 obtain ⟨q0,q1,q2,q3,q4,q5⟩:=q
 obtain ⟨p0,p1,p2,p3,p4,p5⟩:=p
 simp only at hS1 hS2
 have d2:IntKind.i64.wrap (48+(i:Int))=48+(i:Int):=by rw [IntKind.wrap_i64];omega
 have d3:IntKind.u8.wrap (48+(i:Int))=48+(i:Int):=by simp only [IntKind.wrap,IntKind.bits,IntKind.signed];simp;omega
 have d4:IntKind.i64.wrap (r:Int)=r:=by rw [IntKind.wrap_i64];omega
 have d5:IntKind.i64.wrap (a:Int)=a:=by rw [IntKind.wrap_i64];omega
 have d6:IntKind.i64.wrap (hg - lo)=hg - lo:=by rw [IntKind.wrap_i64];omega
 have d7:IntKind.i64.wrap (hg - lo+1)=w:=by rw [IntKind.wrap_i64];omega
 have d8:IntKind.i64.wrap (lo+(u:Int))=lo+u:=by rw [IntKind.wrap_i64];omega
 have d9:¬ (rs.length:Int)=0:=by omega
 have d10:¬ (w:Int)=0:=by omega
 have d11:¬ rs=[]:=fun h=>by rw [h] at hr1;simp at hr1
 have d12:¬ w=0:=by omega
 have hF:∀ fl σ,entry (gf1 u8e Em.feet fun n=>gif (okU8 n) (some (sixAt n))) fl [.int .u8 f] σ=some (.agg [.int .i64 (sixAt f).1,.int .i64 (sixAt f).2],σ):=fun fl σ=>by
  have e:u8e.dec (.int .u8 f)=some f:=Em.dec_some rfl
  unfold entry gf1
  simp only [e]
  rw [gif_pos hf]
  rfl
 simp only [emb_pull,emb_stop,emb_list]
 apply Run.bodyL h0 Tryz.func33 rfl
 focus (simp [show Tryz.f33.ntmps=_ from rfl,List.replicate];rfl)
 have gx:=An @h1 (An @h2 (An @c1 (An @c3 (An @c4 (An @d2 (An @d3 (An @d4 (An @d5 (An @d6 (An @d7 (An @d8 (An @d9 (An @d10 (An @d11 (An @d12 (An @hF (An @hS1 (An @hnl (An @hq (@hdg))))))))))))))))))))
 refine goA ?_
 clear gx
 have hsb:-60≤sh∧sh≤64:=hsh0
 have b1:IntKind.i64.wrap (sh+7)=sh+7:=by rw [IntKind.wrap_i64];omega
 have b2:IntKind.i64.wrap (sh - 12)=sh - 12:=by rw [IntKind.wrap_i64];omega
 have b3:IntKind.i64.wrap (lo+(u:Int) - 1)=lo+u - 1:=by rw [IntKind.wrap_i64];omega
 have b4:IntKind.i64.wrap ((n:Int)+1)=(n:Int)+1:=by rw [IntKind.wrap_i64];omega
 match j,hj6 with
 | 0,_=>
   have gx:=@b1
   refine goA ?_
   clear gx
   simp (disch:=first | omega | (simp;done) | (simp;omega)) [decide_eq_decide,segsS] <;> try rfl
   exact ⟨rfl,rfl⟩
 | 1,_=>
   have gx:=@b1
   refine goA ?_
   clear gx
   simp (disch:=first | omega | (simp;done) | (simp;omega)) [decide_eq_decide,segsS] <;> try rfl
   exact ⟨rfl,rfl⟩
 | 2,_=>
   have gx:=@b1
   refine goA ?_
   clear gx
   simp (disch:=first | omega | (simp;done) | (simp;omega)) [decide_eq_decide,segsS] <;> try rfl
   exact ⟨rfl,rfl⟩
 | 3,_=>
   by_cases hu0:lo < lo+(u:Int)
   ·have gx:=An @b1 (An @b2 (An @b3 (An @b4 (An @c2 (An @c3 (An @d9 (An @d11 (An @hml (An @hp (An @h2 (An @hS2 (@hu0))))))))))))
    refine goA ?_
    clear gx
    have hu1:=hu0
    simp (disch:=first | omega | (simp;done) | (simp;omega)) [decide_eq_decide,segsS,hu1] <;> try rfl
    first | exact ⟨by kernel_rfl,rfl,rfl⟩ | exact ⟨by kernel_rfl,rfl⟩
   ·have gx:=An @b1 (An @b2 (An @b3 (An @b4 (An @c2 (An @c3 (An @d9 (An @d11 (An @hml (An @hp (An @h2 (An @hS2 (@hu0))))))))))))
    refine goA ?_
    clear gx
    have hu1:=hu0
    simp (disch:=first | omega | (simp;done) | (simp;omega)) [decide_eq_decide,segsS,hu1] <;> try rfl
    first | exact ⟨by kernel_rfl,rfl,rfl⟩ | exact ⟨by kernel_rfl,rfl⟩
 | 4,_=>
   by_cases hu0:lo < lo+(u:Int)
   ·have gx:=An @b1 (An @b2 (An @b3 (An @c3 (@hu0))))
    refine goA ?_
    clear gx
    have hu1:=hu0
    simp (disch:=first | omega | (simp;done) | (simp;omega)) [decide_eq_decide,segsS,hu1] <;> try rfl
    first | exact ⟨by kernel_rfl,rfl,rfl⟩ | exact ⟨by kernel_rfl,rfl⟩
   ·have gx:=An @b1 (An @b2 (An @b3 (An @c3 (@hu0))))
    refine goA ?_
    clear gx
    have hu1:=hu0
    simp (disch:=first | omega | (simp;done) | (simp;omega)) [decide_eq_decide,segsS,hu1] <;> try rfl
    first | exact ⟨by kernel_rfl,rfl,rfl⟩ | exact ⟨by kernel_rfl,rfl⟩
 | 5,_=>
   have gx:=@b1
   refine goA ?_
   clear gx
   simp (disch:=first | omega | (simp;done) | (simp;omega)) [decide_eq_decide,segsS] <;> try rfl
   exact ⟨rfl,rfl⟩
end Go.Kz
