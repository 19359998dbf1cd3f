/-
  Part P7 of the way: an interpreter over pure data, its soundness, walks through functions.
-/
import Derived.Test.YtefkonhamghgfaaGreatDoorP6
set_option linter.all false

namespace Go.Kz
open Go Go.Proofs
set_option maxRecDepth 100000
set_option maxHeartbeats 40000000
theorem ranksS_succ (R:List RPlan) (i:Nat) (a:RPlan) (hi:i < R.length) (ha:R[i]=a):ranksS R (i+1)=ranksS R i++[rankS a i]:=by
 unfold ranksS
 rw [List.range_succ,List.map_append]
 congr 1
 simp [List.getD_eq_getElem?_getD,hi,ha]
theorem ranksS_len (R:List RPlan) (i:Nat):(ranksS R i).length=i:=by simp [ranksS]
noncomputable def gRM:Nat→List PD→List SObj→Option (PD×List SObj):=entry (gf2 Em.rplan i64 Em.rank fun x i=>gif (okRp x∧0≤i∧i < 10) (some (rankS x i.toNat)))
theorem gRM_of {x:RPlan} {i:Nat} (hx:okRp x) (hi:i < 10) (fl:Nat) (σ:List SObj):gRM fl [Em.rplan.emb x,.int .i64 i] σ=some (Em.rank.emb (rankS x i),σ):=by
 have e2:i64.dec (.int .i64 (i:Int))=some (i:Int):=Em.dec_some rfl
 unfold gRM entry gf2
 simp only [Em.dec_emb,e2]
 rw [gif_pos ⟨hx,by omega,by omega⟩]
 rfl
theorem boardsS_succ (rs:List RankD) (D:List BoardD) (i:Nat) (a:BoardD) (hi:i < D.length) (ha:D[i]=a):boardsS rs D (i+1)=boardsS rs D i++[boardS rs a i]:=by
 unfold boardsS
 rw [List.range_succ,List.map_append]
 congr 1
 simp [List.getD_eq_getElem?_getD,hi,ha]
theorem boardsS_len (rs:List RankD) (D:List BoardD) (i:Nat):(boardsS rs D i).length=i:=by simp [boardsS]
theorem pullsS_succ (rs:List RankD) (lo hg:Int) (L:List PullD) (i:Nat) (a:PullD) (hi:i < L.length) (ha:L[i]=a):pullsS rs lo hg L (i+1)=pullsS rs lo hg L i++[pullS rs lo hg a i]:=by
 unfold pullsS
 rw [List.range_succ,List.map_append]
 congr 1
 simp [List.getD_eq_getElem?_getD,hi,ha]
theorem pullsS_len (rs:List RankD) (lo hg:Int) (L:List PullD) (i:Nat):(pullsS rs lo hg L i).length=i:=by simp [pullsS]
theorem linksS_succ (n:Nat) (L:List LinkD) (i:Nat) (a:LinkD) (hi:i < L.length) (ha:L[i]=a):linksS n L (i+1)=linksS n L i++[linkS n a i]:=by
 unfold linksS
 rw [List.range_succ,List.map_append]
 congr 1
 simp [List.getD_eq_getElem?_getD,hi,ha]
theorem linksS_len (n:Nat) (L:List LinkD) (i:Nat):(linksS n L i).length=i:=by simp [linksS]
theorem RowAt.ne {σ:List SObj} {tok:Tok} {e:TypeId} {k n id:Nat} {o:SObj} (h:RowAt σ tok e k n) (ho:σ[id]?=some o) (hn:notOwn (some o)):tok≠.own id:=by
 rintro rfl
 rcases h with ⟨_,h⟩ | ⟨_,id',h,h2⟩
 ·cases h
 ·simp only [Tok.own.injEq] at h
  subst h
  rw [ho,Option.some.injEq] at h2
  subst h2
  exact hn
theorem RowAt.set {σ:List SObj} {tok:Tok} {e:TypeId} {k n id:Nat} {o x:SObj} (h:RowAt σ tok e k n) (ho:σ[id]?=some o) (hn:notOwn (some o)):RowAt (σ.set id x) tok e k n:=
 h.keep fun j o' ej hj=>by
  have:id≠j:=fun e=>h.ne ho hn (by rw [ej,e])
  rw [List.getElem?_set_ne this]
  exact hj
theorem app_keep {σ τ:List SObj} {i:Nat} {o:SObj} (h:σ[i]?=some o):(σ++τ)[i]?=some o:=by
 rw [List.getElem?_append_left (List.getElem?_eq_some_iff.1 h).1]
 exact h
noncomputable def gPl:List PD→Option PD:=fun args=>match args with
 | [a,b,c,d]=>match ranks.dec a,Em.feet.dec b,Em.pull.dec c,i64.dec d with
   | some rs,some lh,some x,some i=>gif ((∀ r∈rs,(r.num,r.den)∈feetAll)∧1≤rs.length∧rs.length≤60∧0≤lh.1∧lh.1≤lh.2∧lh.2≤200∧okPu x∧0≤i∧i < 10) (some (Em.stop.emb (pullS rs lh.1 lh.2 x i.toNat)))
   | _,_,_,_=>none
 | _=>none
noncomputable def gPu:Nat→List PD→List SObj→Option (PD×List SObj):=entry gPl
theorem gPl_of {W:PD} {rs:List RankD} {lo hg:Int} {x:PullD} {i:Nat} (hW:W.strip=ranks.emb rs) (hr:∀ r∈rs,(r.num,r.den)∈feetAll) (h1:1≤rs.length) (h2:rs.length≤60) (hlo:0≤lo) (hlh:lo≤hg) (hhg:hg≤200) (hx:okPu x) (hi:i < 10) (fl:Nat) (σ:List SObj) :
  gPu fl [W,.agg [.int .i64 lo,.int .i64 hg],Em.pull.emb x,.int .i64 i] σ=some (Em.stop.emb (pullS rs lo hg x i),σ):=by
 have e1:ranks.dec W=some rs:=Em.dec_some hW
 have e2:Em.feet.dec (.agg [.int .i64 lo,.int .i64 hg])=some (lo,hg):=Em.dec_some (Em.feet.str (lo,hg))
 have e3:i64.dec (.int .i64 (i:Int))=some (i:Int):=Em.dec_some rfl
 unfold gPu entry gPl
 simp only [e1,e2,e3,Em.dec_emb]
 rw [gif_pos ⟨hr,h1,h2,hlo,hlh,hhg,hx,by omega,by omega⟩]
 rfl
variable {E:PExt} (hU:Uni E)
include hU
theorem r_Make (h0:E 8=none) (h1:E 32=some gRM) (h2:E 33=some gPu) (p:PlanD) (hp:okPl p) (hf:fitsB p=true):Run Tryz.prog E 8 [Em.plan.emb p] (Em.organ.emb (organS p)):=by
 obtain ⟨R,D,C⟩:=p
 have hf0:=hf
 simp only [fitsB,Bool.and_eq_true,decide_eq_true_eq] at hf0
 obtain ⟨⟨⟨⟨⟨hR1,hR3⟩,hD1⟩,hD3⟩,hC3⟩,hS3⟩:=hf0
 obtain ⟨hpR,hpD,hpC⟩:=hp
 simp only at hpR hpD hpC
 simp only [emb_plan,emb_organ,emb_list]
 apply Run.bodyL h0 Tryz.func8 rfl
 focus (simp [show Tryz.f8.ntmps=_ from rfl,List.replicate];rfl)
 have gx:=True.intro
 refine goA ?_
 clear gx
 refine Wp.loopI (fun m fr σ=>∃ (i z:Nat),∃ gg:Nat→PD,(i+m=R.length∧(ranksS R i=[]∨z=6))∧fr=gg 0::.ptr 0 0::.ptr 1 0::.ptr 2 0::.int .i64 i::gg 5::gg 6::gg 7::gg 8::gg 9::gg 10::gg 11::gg 12::gg 13::gg 14::gg 15::gg 16::gg 17::gg 18::gg 19::gg 20::gg 21::gg 22::gg 23::gg 24::gg 25::gg 26::gg 27::gg 28::gg 29::gg 30::gg 31::gg 32::gg 33::gg 34::gg 35::gg 36::gg 37::gg 38::gg 39::gg 40::gg 41::gg 42::gg 43::gg 44::gg 45::gg 46::gg 47::gg 48::gg 49::gg 50::gg 51::gg 52::gg 53::gg 54::gg 55::gg 56::gg 57::gg 58::gg 59::gg 60::gg 61::gg 62::gg 63::gg 64::gg 65::gg 66::gg 67::gg 68::gg 69::gg 70::gg 71::gg 72::gg 73::gg 74::gg 75::gg 76::gg 77::gg 78::gg 79::gg 80::gg 81::gg 82::gg 83::gg 84::gg 85::gg 86::gg 87::gg 88::gg 89::gg 90::gg 91::gg 92::gg 93::gg 94::gg 95::gg 96::gg 97::gg 98::gg 99::gg 100::gg 101::gg 102::gg 103::gg 104::gg 105::gg 106::gg 107::gg 108::gg 109::gg 110::gg 111::gg 112::gg 113::gg 114::gg 115::gg 116::gg 117::gg 118::gg 119::gg 120::gg 121::gg 122::gg 123::gg 124::gg 125::gg 126::gg 127::gg 128::gg 129::gg 130::gg 131::gg 132::gg 133::gg 134::gg 135::gg 136::gg 137::gg 138::gg 139::gg 140::gg 141::gg 142::gg 143::gg 144::gg 145::gg 146::gg 147::gg 148::gg 149::gg 150::gg 151::gg 152::[]∧σ=St [.box (.agg [.slice (sz 9 R) (R.map Em.rplan.emb) .any,.slice (sz 4 D) (D.map Em.board.emb) .any,.slice (sz 4 C) (C.map Em.link.emb) .any]),.box (.agg [.str [],.slice 0 [] .full,.slice 0 [] .full,.slice 0 [] .full]),.box (.agg [.str [79,114,103,97,110],.slice z ((ranksS R i).map Em.rank.emb) (outTok 3 (ranksS R i).length),.slice 0 [] .full,.slice 0 [] .full])] 66 6 (ranksS R i).length) ?_ (R.length) (by refine ⟨0,0,?_⟩;exact exF (⟨by omega,.inl rfl⟩) (by (first | rfl | (simp [ranksS,outTok];repeat (first | rfl | (apply And.intro))) | (simp [ranksS,outTok];done))) (by (first | rfl | (simp [ranksS,outTok];repeat (first | rfl | (apply And.intro))) | (simp [ranksS,outTok];done))))
 rintro m fr σ ⟨i,z,gg,hI,rfl,rfl⟩
 obtain ⟨hm,hz⟩:=hI
 by_cases hi:i < R.length
 ·have q1:(i:Int) < (R.length:Int):=by omega
  obtain ⟨a,ha⟩:=gn (R[i])
  have hs:=ranksS_succ R i a hi ha
  have hl:=ranksS_len R i
  have hG:=gRM_of (i:=i) (hpR a (ha▸List.getElem_mem hi)) (by omega)
  obtain ⟨q,hq⟩:=gn (rankS a i)
  rw [hq] at hG hs
  obtain ⟨L,hL⟩:=gn (ranksS R i)
  rw [hL] at hz hl hs ⊢
  obtain ⟨q0,q1',q2,q3,q4,q5⟩:=q
  obtain ⟨a0,a1,a2,a3,a4,a5,a6,a7,a8⟩:=a
  simp only [emb_rplan,emb_rank,emb_list] at hG
  have gx:=An @q1 (An @hi (An @ha (An @h1 (An @hG (An @hz (@hl))))))
  refine goA ?_
  clear gx
  refine LoopI.normal (m - 1) (by omega) (by refine ⟨i+1,6,?_⟩;exact exF (⟨by omega,.inr rfl⟩) (by (first | rfl | (simp [hs,hl];repeat (first | rfl | (apply And.intro))) | (simp [hs,hl];done))) (by (first | rfl | (simp [hs,hl];repeat (first | rfl | (apply And.intro))) | (simp [hs,hl];done))))
 ·have q1:¬ (i:Int) < (R.length:Int):=by omega
  obtain rfl:i=R.length:=by omega
  have hl:=ranksS_len R R.length
  have hne:ranksS R R.length≠[]:=fun h=>by rw [h] at hl;simp at hl;omega
  have hz6:z=6:=hz.resolve_left hne
  subst hz6
  have gx:=@q1
  refine goA ?_
  clear gx
  have hrf:∀ r∈ranksS R R.length,(r.num,r.den)∈feetAll:=by
   intro r hr
   simp only [ranksS,List.mem_map,List.mem_range] at hr
   obtain ⟨j,hj,rfl⟩:=hr
   have:R.getD j default=R[j]:=by simp [List.getD_eq_getElem?_getD,hj]
   rw [this]
   exact all_mem _ (hpR _ (List.getElem_mem hj)).2.1
  have hrl:=hl
  obtain ⟨rs,hrs⟩:=gn (ranksS R R.length)
  have hO:organS ⟨R,D,C⟩=⟨[79,114,103,97,110],rs,boardsS rs D D.length,linksS D.length C C.length⟩:=by
   unfold organS
   simp only [hrs]
  rw [hO]
  rw [hrs] at hrf hrl hne ⊢
  clear hO hrs hz hl hm q1
  obtain ⟨W,hW⟩:=gn (PD.slice 6 (rs.map Em.rank.emb) (outTok 3 rs.length))
  have hWs:W.strip=ranks.emb rs:=by
   rw [← hW,PD.strip_slice]
   show _=PD.slice (sz 6 rs) (rs.map Em.rank.emb) .any
   rw [sz_ne hne,show (rs.map Em.rank.emb).map PD.strip=rs.map Em.rank.emb by rw [List.map_map];exact List.map_congr_left fun x _=>Em.rank.str x]
   simp [hne]
  rw [hW]
  obtain ⟨X0,hX0⟩:=gn (SObj.box (.agg [.slice (sz 9 R) (R.map Em.rplan.emb) .any,.slice (sz 4 D) (D.map Em.board.emb) .any,.slice (sz 4 C) (C.map Em.link.emb) .any]))
  obtain ⟨σ0,hσ0⟩:=gn (St [X0,.box (.agg [.str [],.slice 0 [] .full,.slice 0 [] .full,.slice 0 [] .full]),.box (.agg [.str [79,114,103,97,110],W,.slice 0 [] .full,.slice 0 [] .full])] 66 6 rs.length)
  have s0:σ0[0]?=some X0:=by rw [← hσ0];exact St_get (by simp)
  have s1:σ0[1]?=some (.box (.agg [.str [],.slice 0 [] .full,.slice 0 [] .full,.slice 0 [] .full])):=by rw [← hσ0];exact St_get (by simp)
  have s2:σ0[2]?=some (.box (.agg [.str [79,114,103,97,110],W,.slice 0 [] .full,.slice 0 [] .full])):=by rw [← hσ0];exact St_get (by simp)
  rw [hX0,hσ0]
  have hB0:boardsS rs D 0=[]:=rfl
  refine Wp.loopI (fun m fr σ=>∃ (i z:Nat) (tok:Tok) (σ1:List SObj),∃ gg:Nat→PD,(i+m=D.length∧(boardsS rs D i=[]∨z=5)∧RowAt σ1 tok 71 5 i∧σ1[0]?=some X0∧σ1[1]?=some (.box (.agg [.str [],.slice 0 [] .full,.slice 0 [] .full,.slice 0 [] .full]))∧σ1[2]?=some (.box (.agg [.str [79,114,103,97,110],W,.slice z ((boardsS rs D i).map Em.div.emb) tok,.slice 0 [] .full])))∧fr=gg 0::.ptr 0 0::.ptr 1 0::.ptr 2 0::gg 4::.int .i64 i::gg 6::gg 7::gg 8::gg 9::gg 10::gg 11::gg 12::gg 13::gg 14::gg 15::gg 16::gg 17::gg 18::gg 19::gg 20::gg 21::gg 22::gg 23::gg 24::gg 25::gg 26::gg 27::gg 28::gg 29::gg 30::gg 31::gg 32::gg 33::gg 34::gg 35::gg 36::gg 37::gg 38::gg 39::gg 40::gg 41::gg 42::gg 43::gg 44::gg 45::gg 46::gg 47::gg 48::gg 49::gg 50::gg 51::gg 52::gg 53::gg 54::gg 55::gg 56::gg 57::gg 58::gg 59::gg 60::gg 61::gg 62::gg 63::gg 64::gg 65::gg 66::gg 67::gg 68::gg 69::gg 70::gg 71::gg 72::gg 73::gg 74::gg 75::gg 76::gg 77::gg 78::gg 79::gg 80::gg 81::gg 82::gg 83::gg 84::gg 85::gg 86::gg 87::gg 88::gg 89::gg 90::gg 91::gg 92::gg 93::gg 94::gg 95::gg 96::gg 97::gg 98::gg 99::gg 100::gg 101::gg 102::gg 103::gg 104::gg 105::gg 106::gg 107::gg 108::gg 109::gg 110::gg 111::gg 112::gg 113::gg 114::gg 115::gg 116::gg 117::gg 118::gg 119::gg 120::gg 121::gg 122::gg 123::gg 124::gg 125::gg 126::gg 127::gg 128::gg 129::gg 130::gg 131::gg 132::gg 133::gg 134::gg 135::gg 136::gg 137::gg 138::gg 139::gg 140::gg 141::gg 142::gg 143::gg 144::gg 145::gg 146::gg 147::gg 148::gg 149::gg 150::gg 151::gg 152::[]∧σ=σ1) ?_ (D.length) (by refine ⟨0,0,.full,σ0,?_⟩;exact exF (⟨by omega,.inl rfl,.inl ⟨rfl,rfl⟩,s0,s1,by rw [hB0];exact s2⟩) (by (first | rfl | (simp [];repeat (first | rfl | (apply And.intro))) | (simp [];done))) (by (first | rfl | (simp [];repeat (first | rfl | (apply And.intro))) | (simp [];done))))
  rintro m fr σ ⟨i,z,tok,σ1,gg,hI,rfl,rfl⟩
  obtain ⟨hm,hz,hrow,g0,g1,g2⟩:=hI
  by_cases hi:i < D.length
  ·have q1:(i:Int) < (D.length:Int):=by omega
   obtain ⟨a,ha⟩:=gn (D[i])
   obtain ⟨hl8,hk8,hP8⟩:=hpD a (ha▸List.getElem_mem hi)
   have hP3:a.stops.length≤3:=by
    have:=List.all_eq_true.1 hS3 a (ha▸List.getElem_mem hi)
    simpa using this
   have hbs:=boardsS_succ rs D i a hi ha
   obtain ⟨l,ke,pe,P⟩:=a
   simp only at hl8 hk8 hP8 hP3
   obtain ⟨l,rfl⟩:∃ q:Nat,l=q:=⟨l.toNat,by have:=hl8.1;omega⟩
   obtain ⟨ke,rfl⟩:∃ q:Nat,ke=q:=⟨ke.toNat,by have:=hk8.1;omega⟩
   obtain ⟨L,hL⟩:=gn (l%12)
   obtain ⟨K,hK⟩:=gn (ke%9)
   have t1:(l:Int).tmod 12=(L:Int):=by rw [← hL];rfl
   have t2:IntKind.i64.wrap (L:Int)=(L:Int):=by rw [IntKind.wrap_i64];omega
   have t3:IntKind.i64.wrap (36+(L:Int))=36+(L:Int):=by rw [IntKind.wrap_i64];omega
   have t4:(ke:Int).tmod 9=(K:Int):=by rw [← hK];rfl
   have t5:IntKind.i64.wrap (K:Int)=(K:Int):=by rw [IntKind.wrap_i64];omega
   have t6:IntKind.i64.wrap (36+(L:Int)+(K:Int))=36+(L:Int)+K:=by rw [IntKind.wrap_i64];omega
   have d2:IntKind.i64.wrap (48+(i:Int))=48+(i:Int):=by rw [IntKind.wrap_i64];omega
   have d3:IntKind.u8.wrap (48+(i:Int))=48+(i:Int):=by simp only [IntKind.wrap,IntKind.bits,IntKind.signed];simp;omega
   obtain ⟨dg,hdg⟩:=gn (UInt8.ofNat (48+(i:Int)).toNat)
   obtain ⟨ps,hps⟩:=gn (pullsS rs (36+(L:Int)) (36+(L:Int)+K) P)
   have hbo:boardS rs ⟨l,ke,pe,P⟩ i=⟨[68,dg],pe,36+(L:Int),36+(L:Int)+K,ps P.length⟩:=by
    unfold boardS digit
    simp only [show (l:Int)%12=(L:Int) by omega,show (ke:Int)%9=(K:Int) by omega,hps,← hdg,show (48+(i:Int)).toNat=48+i by omega]
   rw [hbo] at hbs
   have hpsl:∀ k,(ps k).length=k:=fun k=>by rw [← hps];exact pullsS_len _ _ _ _ _
   have hps0:ps 0=[]:=List.eq_nil_of_length_eq_zero (hpsl 0)
   have hpss:∀ (k:Nat) (x:PullD) (hk:k < P.length),P[k]=x→ps (k+1)=ps k++[pullS rs (36+(L:Int)) (36+(L:Int)+K) x k]:=fun k x hk hx=>by rw [← hps];exact pullsS_succ _ _ _ _ _ _ hk hx
   have g0':=g0
   rw [← hX0] at g0'
   have gx:=An @q1 (An @hi (An @ha (An @g0' (An @t1 (An @t2 (An @t3 (An @t4 (An @t5 (An @t6 (An @d2 (An @d3 (@hdg))))))))))))
   refine goA ?_
   clear gx
   have hlt2:2 < σ.length:=(List.getElem?_eq_some_iff.1 g2).1
   obtain ⟨BX,hBX⟩:=gn (SObj.box (.agg [.int .u8 l,.int .u8 ke,.bool pe,.slice (sz 4 P) (P.map Em.pull.emb) .any]))
   rw [hBX]
   obtain ⟨DX,hDX⟩:=gn (SObj.box (.agg [.str [68,dg],.bool pe,.int .i64 (36+(L:Int)),.int .i64 (36+(L:Int)+K),.slice 0 [] .full]))
   rw [hDX]
   have u0:(σ++[BX,DX])[0]?=some X0:=by rw [List.getElem?_append_left (by omega)];exact g0
   have u1:(σ++[BX,DX])[1]?=_:=(List.getElem?_append_left (by omega)).trans g1
   have u2:(σ++[BX,DX])[2]?=_:=(List.getElem?_append_left (by omega)).trans g2
   have u3:(σ++[BX,DX])[σ.length]?=some BX:=by simp
   have u4:(σ++[BX,DX])[σ.length+1]?=some DX:=by simp
   have urow:=hrow.more (τ:=[BX,DX])
   obtain ⟨σ3,hσ3⟩:=gn (σ++[BX,DX])
   rw [hσ3] at u0 u1 u2 u3 u4 urow ⊢
   obtain ⟨pb,hpb⟩:=gn (σ.length)
   rw [hpb] at u3 u4 hlt2 ⊢
   obtain ⟨M,hM⟩:∃ M,M=m:=⟨_,rfl⟩
   rw [← hM] at hm ⊢
   clear hM hσ3 hpb g0 g0' g1 g2 hrow
   rw [← hDX] at u4
   refine Wp.loopI (fun m fr σ=>∃ (k z2:Nat) (tk2:Tok) (σ2:List SObj),∃ gg:Nat→PD,(k+m=P.length∧(ps k=[]∨z2=4)∧RowAt σ2 tk2 74 4 k∧RowAt σ2 tok 71 5 i∧(∀ id,tk2=.own id→tok≠.own id)∧σ2[0]?=some X0∧σ2[1]?=some (.box (.agg [.str [],.slice 0 [] .full,.slice 0 [] .full,.slice 0 [] .full]))∧σ2[2]?=some (.box (.agg [.str [79,114,103,97,110],W,.slice z ((boardsS rs D i).map Em.div.emb) tok,.slice 0 [] .full]))∧σ2[pb]?=some BX∧σ2[pb+1]?=some (.box (.agg [.str [68,dg],.bool pe,.int .i64 (36+(L:Int)),.int .i64 (36+(L:Int)+K),.slice z2 ((ps k).map Em.stop.emb) tk2])))∧fr=gg 0::.ptr 0 0::.ptr 1 0::.ptr 2 0::gg 4::.int .i64 i::.ptr pb 0::gg 7::.ptr (pb+1) 0::.int .i64 k::gg 10::gg 11::gg 12::gg 13::gg 14::gg 15::gg 16::gg 17::gg 18::gg 19::gg 20::gg 21::gg 22::gg 23::gg 24::gg 25::gg 26::gg 27::gg 28::gg 29::gg 30::gg 31::gg 32::gg 33::gg 34::gg 35::gg 36::gg 37::gg 38::gg 39::gg 40::gg 41::gg 42::gg 43::gg 44::gg 45::gg 46::gg 47::gg 48::gg 49::gg 50::gg 51::gg 52::gg 53::gg 54::gg 55::gg 56::gg 57::gg 58::gg 59::gg 60::gg 61::gg 62::gg 63::gg 64::gg 65::gg 66::gg 67::gg 68::gg 69::gg 70::gg 71::gg 72::gg 73::gg 74::gg 75::gg 76::gg 77::gg 78::gg 79::gg 80::gg 81::gg 82::gg 83::gg 84::gg 85::gg 86::gg 87::gg 88::gg 89::gg 90::gg 91::gg 92::gg 93::gg 94::gg 95::gg 96::gg 97::gg 98::gg 99::gg 100::gg 101::gg 102::gg 103::gg 104::gg 105::gg 106::gg 107::gg 108::gg 109::gg 110::gg 111::gg 112::gg 113::gg 114::gg 115::gg 116::gg 117::gg 118::gg 119::gg 120::gg 121::gg 122::gg 123::gg 124::gg 125::gg 126::gg 127::gg 128::gg 129::gg 130::gg 131::gg 132::gg 133::gg 134::gg 135::gg 136::gg 137::gg 138::gg 139::gg 140::gg 141::gg 142::gg 143::gg 144::gg 145::gg 146::gg 147::gg 148::gg 149::gg 150::gg 151::gg 152::[]∧σ=σ2) ?_ (P.length) (by refine ⟨0,0,.full,σ3,?_⟩;exact exF (⟨by omega,.inl hps0,.inl ⟨rfl,rfl⟩,urow,(fun id e=>(by cases e)),u0,u1,u2,u3,(by rw [hps0];exact u4)⟩) (by (first | rfl | (simp [];repeat (first | rfl | (apply And.intro))) | (simp [];done))) (by (first | rfl | (simp [];repeat (first | rfl | (apply And.intro))) | (simp [];done))))
   rintro m fr σ ⟨k,z2,tk2,σ2,gg,hI,rfl,rfl⟩
   obtain ⟨hm2,hz2,hrow2,hrowD,hne2,v0,v1,v2,v3,v4⟩:=hI
   by_cases hk:k < P.length
   ·have q2:(k:Int) < (P.length:Int):=by omega
    obtain ⟨x,hx⟩:=gn (P[k])
    have hsu:=hpss k x hk hx
    have hG:=gPl_of (i:=k) (x:=x) (lo:=36+(L:Int)) (hg:=36+(L:Int)+K) hWs hrf (by omega) (by omega) (by omega) (by omega) (by omega) (hP8 x (hx▸List.getElem_mem hk)) (by omega)
    obtain ⟨q,hq⟩:=gn (pullS rs (36+(L:Int)) (36+(L:Int)+K) x k)
    rw [hq] at hG hsu
    obtain ⟨q0,q1',q2',q3⟩:=q
    obtain ⟨x0,x1,x2,x3⟩:=x
    simp only [emb_pull,emb_stop,emb_list] at hG
    rw [← hBX] at v3
    obtain ⟨A,hA⟩:=gn ((ps k).map Em.stop.emb)
    have hAl:A.length=k:=by rw [← hA,List.length_map,hpsl]
    have hA0:A=[]∨z2=4:=hz2.imp (fun h=>by rw [← hA,h];rfl) id
    obtain ⟨tok',σ4,hap,hr',hkeep,hnew⟩:=pappend_row (P:=Tryz.prog) (t:=69) (e:=74) (k:=4) (b:=56) (s:=z2) (xs:=A) (p:=.agg [.str q0,.int .i64 q1',.int .i64 q2',.slice (sz 3 q3) (q3.map Em.seg.emb) .any]) (tk:=.any) (tok:=tk2) (σ:=σ)
     Tryz.underlying69 (by kernel_rfl) hA0 (by rw [hAl];exact hrow2) (by omega) (by omega)
    rw [hA] at v4
    have nX:notOwn (some X0):=by rw [← hX0];trivial
    have nB:notOwn (some BX):=by rw [← hBX];trivial
    rw [hBX] at v3
    have w0:=hkeep 0 _ (hrow2.ne v0 nX) v0
    have w1:=hkeep 1 _ (hrow2.ne v1 trivial) v1
    have w2:=hkeep 2 _ (hrow2.ne v2 trivial) v2
    have w3:=hkeep pb _ (hrow2.ne v3 nB) v3
    have w4:=hkeep (pb+1) _ (hrow2.ne v4 trivial) v4
    rw [hAl] at hr'
    have hrowD':=(hrowD.keep (σ':=σ4) fun id o e h=>hkeep id o (fun e2=>hne2 id e2 e) h)
    have hne':∀ id,tok'=.own id→tok≠.own id:=fun id e e2=>by
     rcases hnew id e with e3 | e3
     ·exact hne2 id e3 e2
     ·subst e3
      rcases hrowD with ⟨_,e4⟩ | ⟨_,id',e4,h5⟩
      ·rw [e4] at e2;cases e2
      ·rw [e4] at e2
       simp only [Tok.own.injEq] at e2
       subst e2
       have:=(List.getElem?_eq_some_iff.1 h5).1
       omega
    rw [← hBX] at v3
    have gx:=An @q2 (An @hk (An @hx (An @v0 (An @v1 (An @v2 (An @v3 (An @v4 (An @h2 (An @hG (An @hap (@w4)))))))))))
    refine goA ?_
    clear gx
    have hlt4:pb+1 < σ4.length:=(List.getElem?_eq_some_iff.1 w4).1
    refine LoopI.normal (m - 1) (by omega) (by refine ⟨k+1,4,tok',σ4.set (pb+1) (.box (.agg [.str [68,dg],.bool pe,.int .i64 (36+(L:Int)),.int .i64 (36+(L:Int)+K),.slice 4 (A++[.agg [.str q0,.int .i64 q1',.int .i64 q2',.slice (sz 3 q3) (q3.map Em.seg.emb) .any]]) tok'])),?_⟩;exact exF (⟨by omega,.inr rfl,hr'.set w4 trivial,hrowD'.set w4 trivial,hne',(by rw [List.getElem?_set_ne (by omega)];exact w0),(by rw [List.getElem?_set_ne (by omega)];exact w1),(by rw [List.getElem?_set_ne (by omega)];exact w2),(by rw [List.getElem?_set_ne (by omega)];exact w3),(by rw [hsu,List.map_append,hA];exact List.getElem?_set_self hlt4)⟩) (by (first | rfl | (simp [];repeat (first | rfl | (apply And.intro))) | (simp [];done))) (by (first | rfl | (simp [];repeat (first | rfl | (apply And.intro))) | (simp [];done))))
   ·have q2:¬ (k:Int) < (P.length:Int):=by omega
    obtain rfl:k=P.length:=by omega
    obtain ⟨Y,hY⟩:=gn (PD.slice z2 ((ps P.length).map Em.stop.emb) tk2)
    have hYp:Y.plain=true:=by rw [← hY];rfl
    have hYs:Y.strip=.slice (sz 4 (ps P.length)) ((ps P.length).map Em.stop.emb) .any:=by
     rw [← hY,PD.strip_slice,show ((ps P.length).map Em.stop.emb).map PD.strip=(ps P.length).map Em.stop.emb by rw [List.map_map];exact List.map_congr_left fun x _=>Em.stop.str x]
     rcases hz2 with h | h
     ·rw [h];rfl
     ·rw [h];simp [sz]
    rw [hY] at v4
    rw [← hBX] at v3
    obtain ⟨A,hA⟩:=gn ((boardsS rs D i).map Em.div.emb)
    have hAl:A.length=i:=by rw [← hA,List.length_map,boardsS_len]
    have hA0:A=[]∨z=5:=hz.imp (fun h=>by rw [← hA,h];rfl) id
    rw [hA] at v2
    obtain ⟨tok',σ4,hap,hr',hkeep,hnew⟩:=pappend_row (P:=Tryz.prog) (t:=33) (e:=71) (k:=5) (b:=64) (s:=z) (xs:=A) (p:=.agg [.str [68,dg],.bool pe,.int .i64 (36+(L:Int)),.int .i64 (36+(L:Int)+K),.slice (sz 4 (ps P.length)) ((ps P.length).map Em.stop.emb) .any]) (tk:=.any) (tok:=tok) (σ:=σ)
     Tryz.underlying33 (by kernel_rfl) hA0 (by rw [hAl];exact hrowD) (by omega) (by omega)
    have nX:notOwn (some X0):=by rw [← hX0];trivial
    have w0:=hkeep 0 _ (hrowD.ne v0 nX) v0
    have w1:=hkeep 1 _ (hrowD.ne v1 trivial) v1
    have w2:=hkeep 2 _ (hrowD.ne v2 trivial) v2
    rw [hAl] at hr'
    have gx:=An @q2 (An @v0 (An @v1 (An @v2 (An @v3 (An @v4 (An @hap (An @w2 (An @hYp (@hYs)))))))))
    refine goA ?_
    clear gx
    have hlt4:2 < σ4.length:=(List.getElem?_eq_some_iff.1 w2).1
    refine LoopI.normal (M - 1) (by omega) (by refine ⟨i+1,5,tok',σ4.set 2 (.box (.agg [.str [79,114,103,97,110],W,.slice 5 (A++[.agg [.str [68,dg],.bool pe,.int .i64 (36+(L:Int)),.int .i64 (36+(L:Int)+K),.slice (sz 4 (ps P.length)) ((ps P.length).map Em.stop.emb) .any]]) tok',.slice 0 [] .full])),?_⟩;exact exF (⟨by omega,.inr rfl,hr'.set w2 trivial,(by rw [List.getElem?_set_ne (by omega)];exact w0),(by rw [List.getElem?_set_ne (by omega)];exact w1),(by rw [hbs,List.map_append,hA];exact List.getElem?_set_self hlt4)⟩) (by (first | rfl | (simp [];repeat (first | rfl | (apply And.intro))) | (simp [];done))) (by (first | rfl | (simp [];repeat (first | rfl | (apply And.intro))) | (simp [];done))))
  ·have q1:¬ (i:Int) < (D.length:Int):=by omega
   obtain rfl:i=D.length:=by omega
   have hbl:=boardsS_len rs D D.length
   have hbne:boardsS rs D D.length≠[]:=fun h=>by rw [h] at hbl;simp at hbl;omega
   have hz5:z=5:=hz.resolve_left hbne
   subst hz5
   obtain ⟨Y,hY⟩:=gn (PD.slice 5 ((boardsS rs D D.length).map Em.div.emb) tok)
   have hYp:Y.plain=true:=by rw [← hY];rfl
   have hYs:Y.strip=.slice (sz 5 (boardsS rs D D.length)) ((boardsS rs D D.length).map Em.div.emb) .any:=by
    rw [← hY,PD.strip_slice,show ((boardsS rs D D.length).map Em.div.emb).map PD.strip=(boardsS rs D D.length).map Em.div.emb by rw [List.map_map];exact List.map_congr_left fun x _=>Em.div.str x]
    rw [sz_ne hbne]
    simp [hbne]
   have hWp:W.plain=true:=by rw [← hW];rfl
   have hWs':W.strip=.slice (sz 6 rs) (rs.map Em.rank.emb) .any:=hWs
   rw [hY] at g2
   have g0':=g0
   rw [← hX0] at g0'
   have gx:=An @q1 (An @g0' (An @g1 (@g2)))
   refine goA ?_
   clear gx
   have hL0:linksS D.length C 0=[]:=rfl
   refine Wp.loopI (fun m fr σ=>∃ (j z3:Nat) (tk3:Tok) (σ1:List SObj),∃ gg:Nat→PD,(j+m=C.length∧(linksS D.length C j=[]∨z3=5)∧RowAt σ1 tk3 76 5 j∧σ1[0]?=some X0∧σ1[1]?=some (.box (.agg [.str [],.slice 0 [] .full,.slice 0 [] .full,.slice 0 [] .full]))∧σ1[2]?=some (.box (.agg [.str [79,114,103,97,110],W,Y,.slice z3 ((linksS D.length C j).map Em.coup.emb) tk3])))∧fr=gg 0::.ptr 0 0::.ptr 1 0::.ptr 2 0::gg 4::gg 5::gg 6::gg 7::gg 8::gg 9::.int .i64 D.length::.int .i64 j::gg 12::gg 13::gg 14::gg 15::gg 16::gg 17::gg 18::gg 19::gg 20::gg 21::gg 22::gg 23::gg 24::gg 25::gg 26::gg 27::gg 28::gg 29::gg 30::gg 31::gg 32::gg 33::gg 34::gg 35::gg 36::gg 37::gg 38::gg 39::gg 40::gg 41::gg 42::gg 43::gg 44::gg 45::gg 46::gg 47::gg 48::gg 49::gg 50::gg 51::gg 52::gg 53::gg 54::gg 55::gg 56::gg 57::gg 58::gg 59::gg 60::gg 61::gg 62::gg 63::gg 64::gg 65::gg 66::gg 67::gg 68::gg 69::gg 70::gg 71::gg 72::gg 73::gg 74::gg 75::gg 76::gg 77::gg 78::gg 79::gg 80::gg 81::gg 82::gg 83::gg 84::gg 85::gg 86::gg 87::gg 88::gg 89::gg 90::gg 91::gg 92::gg 93::gg 94::gg 95::gg 96::gg 97::gg 98::gg 99::gg 100::gg 101::gg 102::gg 103::gg 104::gg 105::gg 106::gg 107::gg 108::gg 109::gg 110::gg 111::gg 112::gg 113::gg 114::gg 115::gg 116::gg 117::gg 118::gg 119::gg 120::gg 121::gg 122::gg 123::gg 124::gg 125::gg 126::gg 127::gg 128::gg 129::gg 130::gg 131::gg 132::gg 133::gg 134::gg 135::gg 136::gg 137::gg 138::gg 139::gg 140::gg 141::gg 142::gg 143::gg 144::gg 145::gg 146::gg 147::gg 148::gg 149::gg 150::gg 151::gg 152::[]∧σ=σ1) ?_ (C.length) (by refine ⟨0,0,.full,σ,?_⟩;exact exF (⟨by omega,.inl hL0,.inl ⟨rfl,rfl⟩,g0,g1,(by rw [hL0];exact g2)⟩) (by (first | rfl | (simp [];repeat (first | rfl | (apply And.intro))) | (simp [];done))) (by (first | rfl | (simp [];repeat (first | rfl | (apply And.intro))) | (simp [];done))))
   rintro m fr σ ⟨j,z3,tk3,σ1,gg,hI,rfl,rfl⟩
   obtain ⟨hm,hz,hrow,g0,g1,g2⟩:=hI
   by_cases hj:j < C.length
   ·have q1:(j:Int) < (C.length:Int):=by omega
    obtain ⟨a,ha⟩:=gn (C[j])
    obtain ⟨ho8,hd8,hs8⟩:=hpC a (ha▸List.getElem_mem hj)
    have hls:=linksS_succ D.length C j a hj ha
    obtain ⟨o,d,s,th⟩:=a
    simp only at ho8 hd8 hs8
    obtain ⟨o,rfl⟩:∃ q:Nat,o=q:=⟨o.toNat,by have:=ho8.1;omega⟩
    obtain ⟨d,rfl⟩:∃ q:Nat,d=q:=⟨d.toNat,by have:=hd8.1;omega⟩
    have ho9:=ho8.2
    have hd9:=hd8.2
    have t1:IntKind.i64.wrap (o:Int)=(o:Int):=by rw [IntKind.wrap_i64];omega
    have t2:IntKind.i64.wrap (d:Int)=(d:Int):=by rw [IntKind.wrap_i64];omega
    have t3:IntKind.i64.wrap s=s:=by have:=hs8.1;have:=hs8.2;rw [IntKind.wrap_i64];omega
    have t4:¬ (D.length:Int)=0:=by omega
    have t5:¬ D=[]:=fun h=>by rw [h] at hD1;simp at hD1
    obtain ⟨O,hO⟩:∃ O:Int,(o:Int).tmod (D.length:Int)=O:=⟨_,rfl⟩
    obtain ⟨Q,hQ⟩:∃ Q:Int,(d:Int).tmod (D.length:Int)=Q:=⟨_,rfl⟩
    obtain ⟨S,hS⟩:∃ S:Int,s.tmod 25=S:=⟨_,rfl⟩
    have hO':(o:Int)%(D.length:Int)=O:=hO
    have hQ':(d:Int)%(D.length:Int)=Q:=hQ
    have d2:IntKind.i64.wrap (48+(j:Int))=48+(j:Int):=by rw [IntKind.wrap_i64];omega
    have d3:IntKind.u8.wrap (48+(j:Int))=48+(j:Int):=by simp only [IntKind.wrap,IntKind.bits,IntKind.signed];simp;omega
    obtain ⟨dg,hdg⟩:=gn (UInt8.ofNat (48+(j:Int)).toNat)
    have hln:linkS D.length ⟨o,d,s,th⟩ j=⟨[67,dg],O,Q,if O=Q∧S=0 then 12 else S,th⟩:=by
     unfold linkS digit
     simp only [hO',hQ',hS,← hdg,show (48+(j:Int)).toNat=48+j by omega]
    rw [hln] at hls
    have g0':=g0
    rw [← hX0] at g0'
    by_cases hoq:O=Q
    ·by_cases hS0:S=0
     ·subst hoq
      subst hS0
      have hE:(if O=O∧(0:Int)=0 then (12:Int) else (0:Int))=12:=by simp
      rw [hE] at hls
      obtain ⟨A,hA⟩:=gn ((linksS D.length C j).map Em.coup.emb)
      have hAl:A.length=j:=by rw [← hA,List.length_map,linksS_len]
      have hA0:A=[]∨z3=5:=hz.imp (fun h=>by rw [← hA,h];rfl) id
      rw [hA] at g2
      have nX:notOwn (some X0):=by rw [← hX0];trivial
      have u0:=app_keep (τ:=[.box (.agg [.int .u8 o,.int .u8 d,.int .i8 s,.bool th]),.box (.agg [.str [67,dg],.int .i64 O,.int .i64 O,.int .i64 12,.bool th])]) g0
      have u1:=app_keep (τ:=[.box (.agg [.int .u8 o,.int .u8 d,.int .i8 s,.bool th]),.box (.agg [.str [67,dg],.int .i64 O,.int .i64 O,.int .i64 12,.bool th])]) g1
      have u2:=app_keep (τ:=[.box (.agg [.int .u8 o,.int .u8 d,.int .i8 s,.bool th]),.box (.agg [.str [67,dg],.int .i64 O,.int .i64 O,.int .i64 12,.bool th])]) g2
      have urow:=hrow.more (τ:=[.box (.agg [.int .u8 o,.int .u8 d,.int .i8 s,.bool th]),.box (.agg [.str [67,dg],.int .i64 O,.int .i64 O,.int .i64 12,.bool th])])
      obtain ⟨tok',σ4,hap,hr',hkeep,hnew⟩:=pappend_row (P:=Tryz.prog) (t:=34) (e:=76) (k:=5) (b:=48) (s:=z3) (xs:=A) (p:=.agg [.str [67,dg],.int .i64 O,.int .i64 O,.int .i64 12,.bool th]) (tk:=.any) (tok:=tk3)
       Tryz.underlying34 (by kernel_rfl) hA0 (by rw [hAl];exact urow) (by omega) (by omega)
      have w0:=hkeep 0 _ (urow.ne u0 nX) u0
      have w1:=hkeep 1 _ (urow.ne u1 trivial) u1
      have w2:=hkeep 2 _ (urow.ne u2 trivial) u2
      rw [hAl] at hr'
      have gx:=An @q1 (An @hj (An @ha (An @g0' (An @g2 (An @u2 (An @hap (An @w2 (An @t1 (An @t2 (An @t3 (An @t4 (An @t5 (An @hO (An @hQ (An @hS (An @d2 (An @d3 (@hdg))))))))))))))))))
      refine goA ?_
      clear gx
      have hlt4:2 < σ4.length:=(List.getElem?_eq_some_iff.1 w2).1
      refine LoopI.normal (m - 1) (by omega) (by refine ⟨j+1,5,tok',σ4.set 2 (.box (.agg [.str [79,114,103,97,110],W,Y,.slice 5 (A++[.agg [.str [67,dg],.int .i64 O,.int .i64 O,.int .i64 12,.bool th]]) tok'])),?_⟩;exact exF (⟨by omega,.inr rfl,hr'.set w2 trivial,(by rw [List.getElem?_set_ne (by omega)];exact w0),(by rw [List.getElem?_set_ne (by omega)];exact w1),(by rw [hls,List.map_append,hA];exact List.getElem?_set_self hlt4)⟩) (by (first | rfl | (simp [];repeat (first | rfl | (apply And.intro))) | (simp [];done))) (by (first | rfl | (simp [];repeat (first | rfl | (apply And.intro))) | (simp [];done))))
     ·subst hoq
      have hE:(if O=O∧S=0 then (12:Int) else S)=S:=by simp [hS0]
      rw [hE] at hls
      obtain ⟨A,hA⟩:=gn ((linksS D.length C j).map Em.coup.emb)
      have hAl:A.length=j:=by rw [← hA,List.length_map,linksS_len]
      have hA0:A=[]∨z3=5:=hz.imp (fun h=>by rw [← hA,h];rfl) id
      rw [hA] at g2
      have nX:notOwn (some X0):=by rw [← hX0];trivial
      have u0:=app_keep (τ:=[.box (.agg [.int .u8 o,.int .u8 d,.int .i8 s,.bool th]),.box (.agg [.str [67,dg],.int .i64 O,.int .i64 O,.int .i64 S,.bool th])]) g0
      have u1:=app_keep (τ:=[.box (.agg [.int .u8 o,.int .u8 d,.int .i8 s,.bool th]),.box (.agg [.str [67,dg],.int .i64 O,.int .i64 O,.int .i64 S,.bool th])]) g1
      have u2:=app_keep (τ:=[.box (.agg [.int .u8 o,.int .u8 d,.int .i8 s,.bool th]),.box (.agg [.str [67,dg],.int .i64 O,.int .i64 O,.int .i64 S,.bool th])]) g2
      have urow:=hrow.more (τ:=[.box (.agg [.int .u8 o,.int .u8 d,.int .i8 s,.bool th]),.box (.agg [.str [67,dg],.int .i64 O,.int .i64 O,.int .i64 S,.bool th])])
      obtain ⟨tok',σ4,hap,hr',hkeep,hnew⟩:=pappend_row (P:=Tryz.prog) (t:=34) (e:=76) (k:=5) (b:=48) (s:=z3) (xs:=A) (p:=.agg [.str [67,dg],.int .i64 O,.int .i64 O,.int .i64 S,.bool th]) (tk:=.any) (tok:=tk3)
       Tryz.underlying34 (by kernel_rfl) hA0 (by rw [hAl];exact urow) (by omega) (by omega)
      have w0:=hkeep 0 _ (urow.ne u0 nX) u0
      have w1:=hkeep 1 _ (urow.ne u1 trivial) u1
      have w2:=hkeep 2 _ (urow.ne u2 trivial) u2
      rw [hAl] at hr'
      have gx:=An @q1 (An @hj (An @ha (An @g0' (An @g2 (An @u2 (An @hap (An @w2 (An @t1 (An @t2 (An @t3 (An @t4 (An @t5 (An @hO (An @hQ (An @hS (An @d2 (An @d3 (An @hdg (@hS0)))))))))))))))))))
      refine goA ?_
      clear gx
      have hlt4:2 < σ4.length:=(List.getElem?_eq_some_iff.1 w2).1
      refine LoopI.normal (m - 1) (by omega) (by refine ⟨j+1,5,tok',σ4.set 2 (.box (.agg [.str [79,114,103,97,110],W,Y,.slice 5 (A++[.agg [.str [67,dg],.int .i64 O,.int .i64 O,.int .i64 S,.bool th]]) tok'])),?_⟩;exact exF (⟨by omega,.inr rfl,hr'.set w2 trivial,(by rw [List.getElem?_set_ne (by omega)];exact w0),(by rw [List.getElem?_set_ne (by omega)];exact w1),(by rw [hls,List.map_append,hA];exact List.getElem?_set_self hlt4)⟩) (by (first | rfl | (simp [];repeat (first | rfl | (apply And.intro))) | (simp [];done))) (by (first | rfl | (simp [];repeat (first | rfl | (apply And.intro))) | (simp [];done))))
    ·skip
     have hE:(if O=Q∧S=0 then (12:Int) else S)=S:=by simp [hoq]
     rw [hE] at hls
     obtain ⟨A,hA⟩:=gn ((linksS D.length C j).map Em.coup.emb)
     have hAl:A.length=j:=by rw [← hA,List.length_map,linksS_len]
     have hA0:A=[]∨z3=5:=hz.imp (fun h=>by rw [← hA,h];rfl) id
     rw [hA] at g2
     have nX:notOwn (some X0):=by rw [← hX0];trivial
     have u0:=app_keep (τ:=[.box (.agg [.int .u8 o,.int .u8 d,.int .i8 s,.bool th]),.box (.agg [.str [67,dg],.int .i64 O,.int .i64 Q,.int .i64 S,.bool th])]) g0
     have u1:=app_keep (τ:=[.box (.agg [.int .u8 o,.int .u8 d,.int .i8 s,.bool th]),.box (.agg [.str [67,dg],.int .i64 O,.int .i64 Q,.int .i64 S,.bool th])]) g1
     have u2:=app_keep (τ:=[.box (.agg [.int .u8 o,.int .u8 d,.int .i8 s,.bool th]),.box (.agg [.str [67,dg],.int .i64 O,.int .i64 Q,.int .i64 S,.bool th])]) g2
     have urow:=hrow.more (τ:=[.box (.agg [.int .u8 o,.int .u8 d,.int .i8 s,.bool th]),.box (.agg [.str [67,dg],.int .i64 O,.int .i64 Q,.int .i64 S,.bool th])])
     obtain ⟨tok',σ4,hap,hr',hkeep,hnew⟩:=pappend_row (P:=Tryz.prog) (t:=34) (e:=76) (k:=5) (b:=48) (s:=z3) (xs:=A) (p:=.agg [.str [67,dg],.int .i64 O,.int .i64 Q,.int .i64 S,.bool th]) (tk:=.any) (tok:=tk3)
      Tryz.underlying34 (by kernel_rfl) hA0 (by rw [hAl];exact urow) (by omega) (by omega)
     have w0:=hkeep 0 _ (urow.ne u0 nX) u0
     have w1:=hkeep 1 _ (urow.ne u1 trivial) u1
     have w2:=hkeep 2 _ (urow.ne u2 trivial) u2
     rw [hAl] at hr'
     have gx:=An @q1 (An @hj (An @ha (An @g0' (An @g2 (An @u2 (An @hap (An @w2 (An @t1 (An @t2 (An @t3 (An @t4 (An @t5 (An @hO (An @hQ (An @hS (An @d2 (An @d3 (An @hdg (@hoq)))))))))))))))))))
     refine goA ?_
     clear gx
     have hlt4:2 < σ4.length:=(List.getElem?_eq_some_iff.1 w2).1
     refine LoopI.normal (m - 1) (by omega) (by refine ⟨j+1,5,tok',σ4.set 2 (.box (.agg [.str [79,114,103,97,110],W,Y,.slice 5 (A++[.agg [.str [67,dg],.int .i64 O,.int .i64 Q,.int .i64 S,.bool th]]) tok'])),?_⟩;exact exF (⟨by omega,.inr rfl,hr'.set w2 trivial,(by rw [List.getElem?_set_ne (by omega)];exact w0),(by rw [List.getElem?_set_ne (by omega)];exact w1),(by rw [hls,List.map_append,hA];exact List.getElem?_set_self hlt4)⟩) (by (first | rfl | (simp [];repeat (first | rfl | (apply And.intro))) | (simp [];done))) (by (first | rfl | (simp [];repeat (first | rfl | (apply And.intro))) | (simp [];done))))
   ·have q1:¬ (j:Int) < (C.length:Int):=by omega
    obtain rfl:j=C.length:=by omega
    have hzs:PD.strip (.slice z3 ((linksS D.length C C.length).map Em.coup.emb) tk3)=.slice (sz 5 (linksS D.length C C.length)) ((linksS D.length C C.length).map Em.coup.emb) .any:=by
     rw [PD.strip_slice,show ((linksS D.length C C.length).map Em.coup.emb).map PD.strip=(linksS D.length C C.length).map Em.coup.emb by rw [List.map_map];exact List.map_congr_left fun x _=>Em.coup.str x]
     rcases hz with h | h
     ·rw [h];rfl
     ·rw [h];simp [sz]
    obtain ⟨V,hV⟩:=gn (PD.slice z3 ((linksS D.length C C.length).map Em.coup.emb) tk3)
    have hVp:V.plain=true:=by rw [← hV];rfl
    rw [hV] at g2 hzs
    have hs1:∀ x,(σ.set 1 x)[1]?=some x:=fun x=>List.getElem?_set_self (List.getElem?_eq_some_iff.1 g1).1
    have g0':=g0
    rw [← hX0] at g0'
    have hWq:=hWp
    have hYq:=hYp
    have hVq:=hVp
    unfold PD.plain at hWq hYq hVq
    have gx:=An @q1 (An @g0' (An @g1 (An @g2 (An @hWq (An @hYq (@hVq))))))
    refine goA ?_
    clear gx
    simp (disch:=first | omega | (simp;done) | (simp;omega)) [decide_eq_decide,hs1,hWs',hYs,hzs] <;> try rfl
end Go.Kz

namespace Go.Kz
open Go Go.Proofs
set_option maxRecDepth 100000
set_option maxHeartbeats 4000000
def rnGo:List (List UInt8)→List RankD→Int
 | _,[]=>0
 | ns,r::t=>if rankE r≠0 then rankE r else if seenB ns r.name=true then 9 else rnGo (ns++[r.name]) t
def divsGo (rs:List RankD):List (List UInt8)→List DivD→Int
 | _,[]=>0
 | ns,d::t=>if nameB d.name=false then 8 else if seenB ns d.name=true then 9 else if divE rs d≠0 then divE rs d else divsGo rs (ns++[d.name]) t
def keysOf (l:List DivD):List (Int×Int):=l.map fun d=>(d.low,d.high)
def partE (o:OrganD):Int:=if o.divs.length=0 then 13 else if 8 < o.divs.length then 4 else if divsGo o.ranks [] o.divs≠0 then divsGo o.ranks [] o.divs else couplerE (keysOf o.divs) o.coups
def organE (o:OrganD):Int:=if nameB o.name=false then 8 else if 60 < o.ranks.length then 4 else if rnGo [] o.ranks≠0 then rnGo [] o.ranks else partE o
def okDv (d:DivD):Prop:=okN d.name∧d.stops.length≤1000000∧∀ s∈d.stops,okSt s
def okOr (o:OrganD):Prop:=okN o.name∧okPlace o.ranks∧(o.divs.length≤1000000∧∀ d∈o.divs,okDv d)∧o.coups.length≤1000000∧∀ x∈o.coups,okN x.name
noncomputable def gDv:Nat→List PD→List SObj→Option (PD×List SObj):=entry (gf2 Em.organ Em.div i64 fun o d=>gif (okPlace o.ranks∧okDv d) (some (divE o.ranks d)))
theorem gDv_of {o:OrganD} {d:DivD} (h:okPlace o.ranks) (hs:okDv d) (fl:Nat) (σ:List SObj):gDv fl [Em.organ.emb o,Em.div.emb d] σ=some (.int .i64 (divE o.ranks d),σ):=by
 have e1:=Em.dec_some (Em.organ.str o)
 have e2:=Em.dec_some (Em.div.str d)
 unfold gDv entry gf2
 simp only [e1,e2]
 rw [gif_pos ⟨h,hs⟩]
 rfl
noncomputable def gCl:Nat→List PD→List SObj→Option (PD×List SObj):=entry (gf2 compsE coupsE i64 fun ks l=>gif (ks.length≤1000000∧l.length≤1000000∧∀ x∈l,okN x.name) (some (couplerE ks l)))
theorem gCl_of {ks:List (Int×Int)} {l:List CoupD} {p:PD} (h1:ks.length≤1000000) (h2:l.length≤1000000) (h3:∀ x∈l,okN x.name) (hp:p.strip=compsE.emb ks) (fl:Nat) (σ:List SObj):gCl fl [p,coupsE.emb l] σ=some (.int .i64 (couplerE ks l),σ):=by
 have e1:=Em.dec_some hp
 have e2:=Em.dec_some (coupsE.str l)
 unfold gCl entry gf2
 simp only [e1,e2]
 rw [gif_pos ⟨h1,h2,h3⟩]
 rfl
variable {E:PExt} (hU:Uni E)
include hU
theorem r_organ (h0:E 10=none) (h1:E 36=some gNm) (h2:E 37=some gRk) (h3:E 38=some gAg) (h4:E 39=some gDv) (h5:E 40=some gCl) (o:OrganD) (ho:okOr o) :
  Run Tryz.prog E 10 [Em.organ.emb o] (i64.emb (organE o)):=by
 have hO:=fun d (hd:okDv d)=>gDv_of (o:=o) ho.2.1 hd
 obtain ⟨on,rs,od,oc⟩:=o
 obtain ⟨hon,hrs,⟨hdl,hdd⟩,hcl,hcn⟩:=ho
 simp only at hon hrs hdl hdd hcl hcn
 have hN:=gNm_of hon
 simp only [emb_organ,emb_list] at hO
 unfold organE
 simp only [emb_organ,emb_list]
 cases c1:nameB on with
 | false=>
   rw [c1] at hN
   rw [if_pos rfl]
   apply Run.bodyL h0 Tryz.func10 rfl
   focus (simp [show Tryz.f10.ntmps=_ from rfl,List.replicate];rfl)
   have gx:=An @h1 (@hN)
   refine goM ?_
   clear gx
   simp (disch:=first | omega | (simp;done) | (simp;omega)) [decide_eq_decide] <;> try rfl
 | true=>
 rw [c1] at hN
 rw [if_neg (by simp)]
 by_cases c2:60 < rs.length
 ·have c3:60 < (rs.length:Int):=by omega
  rw [if_pos c2]
  apply Run.bodyL h0 Tryz.func10 rfl
  focus (simp [show Tryz.f10.ntmps=_ from rfl,List.replicate];rfl)
  have gx:=An @h1 (An @hN (An @c2 (@c3)))
  refine goM ?_
  clear gx
  simp (disch:=first | omega | (simp;done) | (simp;omega)) [decide_eq_decide] <;> try rfl
 have c3:¬ 60 < (rs.length:Int):=by omega
 rw [if_neg c2]
 obtain ⟨C,hC⟩:=gn (partE ⟨on,rs,od,oc⟩)
 rw [hC]
 obtain ⟨B,hB⟩:=gn ((if rnGo [] rs≠0 then rnGo [] rs else C))
 rw [hB]
 have us:=u_seen
 apply Run.bodyL h0 Tryz.func10 rfl
 focus (simp [show Tryz.f10.ntmps=_ from rfl,List.replicate];rfl)
 have gx:=An @h1 (An @hN (An @c2 (An @c3 (@us))))
 refine goM ?_
 clear gx
 obtain ⟨X,hX⟩:=gn (SObj.box (.agg [.str on,.slice (sz 6 rs) (rs.map Em.rank.emb) .any,.slice (sz 5 od) (od.map Em.div.emb) .any,.slice (sz 5 oc) (oc.map Em.coup.emb) .any]))
 refine Wp.loopI (fun m fr σ=>∃ (i:Nat) (σ1:List SObj),∃ gg:Nat→PD,(i+m=rs.length∧σ1[0]?=some X∧σ1[1]?=some (mapN ((rs.take i).map RankD.name))∧(if rnGo ((rs.take i).map RankD.name) (rs.drop i)≠0 then rnGo ((rs.take i).map RankD.name) (rs.drop i) else C)=B)∧fr=gg 0::.ptr 0 0::gg 2::.mref 1::gg 4::gg 5::gg 6::gg 7::gg 8::gg 9::gg 10::gg 11::gg 12::gg 13::gg 14::gg 15::gg 16::gg 17::gg 18::gg 19::gg 20::gg 21::gg 22::gg 23::gg 24::ranks.emb rs::.int .i64 rs.length::.int .i64 i::gg 28::gg 29::gg 30::gg 31::gg 32::gg 33::gg 34::gg 35::gg 36::gg 37::gg 38::gg 39::gg 40::gg 41::gg 42::gg 43::gg 44::gg 45::gg 46::gg 47::gg 48::gg 49::gg 50::gg 51::gg 52::gg 53::gg 54::gg 55::gg 56::gg 57::gg 58::gg 59::gg 60::gg 61::gg 62::gg 63::gg 64::gg 65::gg 66::gg 67::gg 68::gg 69::gg 70::gg 71::gg 72::gg 73::gg 74::gg 75::gg 76::gg 77::gg 78::gg 79::gg 80::gg 81::gg 82::gg 83::gg 84::gg 85::gg 86::gg 87::gg 88::[]∧σ=σ1) ?_ (rs.length) (by refine ⟨0,[X,.map []],?_⟩;exact exF (⟨by omega,rfl,rfl,hB⟩) (by (first | rfl | (simp [hX];repeat (first | rfl | (apply And.intro))) | (simp [hX];done))) (by (first | rfl | (simp [hX];repeat (first | rfl | (apply And.intro))) | (simp [hX];done))))
 rintro m fr σ ⟨i,σ1,gg,hI,rfl,rfl⟩
 obtain ⟨hm,hx0,hz0,hs⟩:=hI
 by_cases hi:i < rs.length
 ·have q1:(i:Int) < (rs.length:Int):=by omega
  obtain ⟨a,ha⟩:=gn (rs[i])
  have hc4:rs.drop i=a::rs.drop (i+1):=by rw [List.drop_eq_getElem_cons hi,ha]
  have htk:(rs.take (i+1)).map RankD.name=(rs.take i).map RankD.name++[a.name]:=by rw [List.take_succ_eq_append_getElem hi,ha,List.map_append];rfl
  have hE:=gRk_of (hrs.1 a (ha▸List.getElem_mem hi))
  rw [hc4] at hs
  unfold rnGo at hs
  have hlt0:=(List.getElem?_eq_some_iff.1 hx0).1
  have hlt2:=(List.getElem?_eq_some_iff.1 hz0).1
  have j0:∀ x:SObj,(σ++[x])[σ.length]?=some x:=fun x=>by simp
  obtain ⟨a0,a1,a2,a3,a4,a5⟩:=a
  obtain ⟨e,he⟩:=gn (rankE ⟨a0,a1,a2,a3,a4,a5⟩)
  rw [he] at hE hs
  simp only [emb_rank,emb_list] at hE
  simp only at hs htk
  by_cases c4:e=0
  rotate_left
  ·simp only [ne_eq,c4,not_false_eq_true,if_true] at hs
   subst hs
   have gx:=An @q1 (An @hi (An @ha (An @j0 (An @h2 (An @hE (@c4))))))
   refine goM ?_
   clear gx
   simp (disch:=first | omega | (simp;done) | (simp;omega)) [decide_eq_decide] <;> try rfl
  subst c4
  simp only [ne_eq,not_true_eq_false,if_false] at hs
  obtain ⟨Z,hZ⟩:=gn (SObj.box (.agg [.str a0,.str a1,.int .i64 a2,.int .i64 a3,.int .i64 a4,.slice (sz 1 a5) (a5.map i64.emb) .any]))
  have hmz:(σ++[Z])[1]?=some (mapN ((rs.take i).map RankD.name)):=by rw [List.getElem?_append_left hlt2];exact hz0
  cases hb:seenB ((rs.take i).map RankD.name) a0 with
  | true=>
    rw [hb] at hs
    simp only [if_true,show ¬ (9:Int)=0 by omega,not_false_eq_true] at hs
    subst hs
    have hA:=fun fl=>gAg_9 (fl:=fl) hmz hb
    rw [← hZ] at hA
    have gx:=An @q1 (An @hi (An @ha (An @j0 (An @h2 (An @hE (An @h3 (@hA)))))))
    refine goM ?_
    clear gx
    simp (disch:=first | omega | (simp;done) | (simp;omega)) [decide_eq_decide] <;> try rfl
  | false=>
    rw [hb] at hs
    simp only [Bool.false_eq_true,if_false] at hs
    have hA:=gAg_0 (fl:=0) hmz hb (Nat.zero_le _)
    obtain ⟨τ2,hτ⟩:=gn ((σ++[Z]).set 1 (mapN ((rs.take i).map RankD.name++[a0])))
    have t0:τ2[0]?=some X:=by rw [← hτ,List.getElem?_set_ne (by omega),List.getElem?_append_left hlt0];exact hx0
    have t2:τ2[1]?=some (mapN ((rs.take i).map RankD.name++[a0])):=by rw [← hτ];exact List.getElem?_set_self (by simp;omega)
    rw [hτ] at hA
    rw [← hZ] at hA
    clear hτ
    have gx:=An @q1 (An @hi (An @ha (An @j0 (An @h2 (An @hE (An @h3 (@hA)))))))
    refine goM ?_
    clear gx
    refine LoopI.normal (m - 1) (by omega) (by refine ⟨i+1,τ2,?_⟩;exact exF (⟨by omega,t0,by rw [htk];exact t2,by rw [htk];exact hs⟩) (by (first | rfl | (simp [];repeat (first | rfl | (apply And.intro))) | (simp [];done))) (by (first | rfl | (simp [];repeat (first | rfl | (apply And.intro))) | (simp [];done))))
 have q1:¬ (i:Int) < (rs.length:Int):=by omega
 rw [List.drop_eq_nil_of_le (by omega)] at hs
 have hs2:C=B:=hs
 rw [hs2] at hC
 clear hs hs2 hB
 have hx1:=hx0
 rw [← hX] at hx1
 obtain ⟨hlt0,hxe⟩:=List.getElem?_eq_some_iff.1 hx1
 unfold partE at hC
 simp only at hC
 by_cases c4:od.length=0
 ·rw [if_pos c4] at hC
  subst hC
  have c5:od=[]:=List.eq_nil_of_length_eq_zero c4
  subst c5
  have gx:=An @q1 (An @hx1 (An @hlt0 (@hxe)))
  refine goM ?_
  clear gx
  simp (disch:=first | omega | (simp;done) | (simp;omega)) [decide_eq_decide] <;> try rfl
 rw [if_neg c4] at hC
 have c4':¬ od=[]:=fun h=>c4 (by rw [h];rfl)
 by_cases c5:8 < od.length
 ·rw [if_pos c5] at hC
  subst hC
  have c6:8 < (od.length:Int):=by omega
  have gx:=An @q1 (An @hx1 (An @hlt0 (An @hxe (An @c4 (An @c4' (An @c5 (@c6)))))))
  refine goM ?_
  clear gx
  simp (disch:=first | omega | (simp;done) | (simp;omega)) [decide_eq_decide] <;> try rfl
 rw [if_neg c5] at hC
 have c6:¬ 8 < (od.length:Int):=by omega
 have gx:=An @q1 (An @hx1 (An @hlt0 (An @hxe (An @c4 (An @c4' (An @c5 (An @c6 (@us))))))))
 refine goM ?_
 clear gx
 obtain ⟨M,hM⟩:=gn (σ.length)
 obtain ⟨σa,hσa⟩:=gn (σ++[SObj.map []])
 have g0:σa[0]?=some X:=by rw [← hσa,List.getElem?_append_left hlt0];exact hx0
 have gM:σa[M]?=some (mapN []):=by rw [← hσa,← hM];simp;rfl
 have hM0:0 < M:=by omega
 rw [hσa,hM]
 clear hσa hM q1
 refine Wp.loopI (fun m fr σ=>∃ (j z:Nat) (tok:Tok) (σ1:List SObj),∃ gg:Nat→PD,(j+m=od.length∧σ1[0]?=some X∧σ1[M]?=some (mapN ((od.take j).map DivD.name))∧(keysOf (od.take j)=[]∨z=2)∧RowAt σ1 tok 68 2 j∧(if divsGo rs ((od.take j).map DivD.name) (od.drop j)≠0 then divsGo rs ((od.take j).map DivD.name) (od.drop j) else couplerE (keysOf od) oc)=B)∧fr=gg 0::.ptr 0 0::gg 2::.mref M::gg 4::gg 5::gg 6::gg 7::.slice z ((keysOf (od.take j)).map Em.feet.emb) tok::gg 9::gg 10::gg 11::gg 12::gg 13::gg 14::gg 15::gg 16::gg 17::gg 18::gg 19::gg 20::gg 21::gg 22::gg 23::gg 24::gg 25::gg 26::gg 27::gg 28::gg 29::gg 30::gg 31::gg 32::gg 33::gg 34::gg 35::gg 36::gg 37::gg 38::gg 39::gg 40::gg 41::gg 42::gg 43::gg 44::gg 45::gg 46::gg 47::gg 48::gg 49::gg 50::gg 51::gg 52::gg 53::gg 54::gg 55::divsE.emb od::.int .i64 od.length::.int .i64 j::gg 59::gg 60::gg 61::gg 62::gg 63::gg 64::gg 65::gg 66::gg 67::gg 68::gg 69::gg 70::gg 71::gg 72::gg 73::gg 74::gg 75::gg 76::gg 77::gg 78::gg 79::gg 80::gg 81::gg 82::gg 83::gg 84::gg 85::gg 86::gg 87::gg 88::[]∧σ=σ1) ?_ (od.length) (by refine ⟨0,0,.full,σa,?_⟩;exact exF (⟨by omega,g0,gM,.inl rfl,.inl ⟨rfl,rfl⟩,hC⟩) (by (first | rfl | (simp [keysOf];repeat (first | rfl | (apply And.intro))) | (simp [keysOf];done))) (by (first | rfl | (simp [keysOf];repeat (first | rfl | (apply And.intro))) | (simp [keysOf];done))))
 rintro m fr σ ⟨j,z,tok,σ1,gg,hI,rfl,rfl⟩
 obtain ⟨hm2,hx2,hz2,hzz,hrow,hs2⟩:=hI
 have hx3:=hx2
 rw [← hX] at hx3
 obtain ⟨hlt3,hxe3⟩:=List.getElem?_eq_some_iff.1 hx3
 by_cases hj:j < od.length
 ·have q1:(j:Int) < (od.length:Int):=by omega
  obtain ⟨a,ha⟩:=gn (od[j])
  have hda:okDv a:=hdd a (ha▸List.getElem_mem hj)
  have hc4:od.drop j=a::od.drop (j+1):=by rw [List.drop_eq_getElem_cons hj,ha]
  have htk:(od.take (j+1)).map DivD.name=(od.take j).map DivD.name++[a.name]:=by rw [List.take_succ_eq_append_getElem hj,ha,List.map_append];rfl
  have hkk:keysOf (od.take (j+1))=keysOf (od.take j)++[(a.low,a.high)]:=by unfold keysOf;rw [List.take_succ_eq_append_getElem hj,ha,List.map_append];rfl
  have hkl:(keysOf (od.take j)).length=j:=by unfold keysOf;rw [List.length_map,List.length_take];omega
  have hnn:=gNm_of hda.1
  have hE:=hO a hda
  rw [hc4] at hs2
  unfold divsGo at hs2
  have hlt4:=(List.getElem?_eq_some_iff.1 hz2).1
  have j0:∀ x:SObj,(σ++[x])[σ.length]?=some x:=fun x=>by simp
  obtain ⟨a0,a1,a2,a3,a4⟩:=a
  obtain ⟨e,he⟩:=gn (divE rs ⟨a0,a1,a2,a3,a4⟩)
  simp only [he,emb_div,emb_list] at hE
  rw [he] at hs2
  simp only at hs2 htk hnn hkk
  cases d1:nameB a0 with
  | false=>
    rw [d1] at hnn hs2
    simp only [if_true,show ¬ (8:Int)=0 by omega,ne_eq,not_false_eq_true] at hs2
    subst hs2
    have gx:=An @q1 (An @hj (An @ha (An @j0 (An @h1 (@hnn)))))
    refine goM ?_
    clear gx
    simp (disch:=first | omega | (simp;done) | (simp;omega)) [decide_eq_decide] <;> try rfl
  | true=>
  rw [d1] at hnn hs2
  simp only [Bool.true_eq_false,if_false] at hs2
  obtain ⟨Z,hZ⟩:=gn (SObj.box (.agg [.str a0,.bool a1,.int .i64 a2,.int .i64 a3,.slice (sz 4 a4) (a4.map Em.stop.emb) .any]))
  have hmz:(σ++[Z])[M]?=some (mapN ((od.take j).map DivD.name)):=by rw [List.getElem?_append_left hlt4];exact hz2
  cases hb:seenB ((od.take j).map DivD.name) a0 with
  | true=>
    rw [hb] at hs2
    simp only [if_true,show ¬ (9:Int)=0 by omega,ne_eq,not_false_eq_true] at hs2
    subst hs2
    have hA:=fun fl=>gAg_9 (fl:=fl) hmz hb
    rw [← hZ] at hA
    have gx:=An @q1 (An @hj (An @ha (An @j0 (An @h1 (An @hnn (An @h3 (@hA)))))))
    refine goM ?_
    clear gx
    simp (disch:=first | omega | (simp;done) | (simp;omega)) [decide_eq_decide] <;> try rfl
  | false=>
  rw [hb] at hs2
  simp only [Bool.false_eq_true,if_false] at hs2
  have hA:=gAg_0 (fl:=0) hmz hb (Nat.zero_le _)
  obtain ⟨τ2,hτ⟩:=gn ((σ++[Z]).set M (mapN ((od.take j).map DivD.name++[a0])))
  have t0:τ2[0]?=some X:=by rw [← hτ,List.getElem?_set_ne (by omega),List.getElem?_append_left hlt3];exact hx2
  have t2:τ2[M]?=some (mapN ((od.take j).map DivD.name++[a0])):=by rw [← hτ];exact List.getElem?_set_self (by simp;omega)
  have tz:τ2[σ.length]?=some Z:=by rw [← hτ,List.getElem?_set_ne (by omega)];exact j0 Z
  have tr:RowAt τ2 tok 68 2 j:=by rw [← hτ];exact hrow.more.set hmz trivial
  rw [hτ] at hA
  rw [← hZ] at hA tz
  have t0':=t0
  rw [← hX] at t0'
  obtain ⟨l0,te0⟩:=List.getElem?_eq_some_iff.1 t0'
  obtain ⟨l1,te1⟩:=List.getElem?_eq_some_iff.1 tz
  clear hτ
  by_cases d2:e=0
  rotate_left
  ·simp only [ne_eq,d2,not_false_eq_true,if_true] at hs2
   subst hs2
   have gx:=An @q1 (An @hj (An @ha (An @j0 (An @h1 (An @hnn (An @h3 (An @hA (An @t0' (An @l0 (An @te0 (An @tz (An @l1 (An @te1 (An @h4 (An @hE (@d2))))))))))))))))
   refine goM ?_
   clear gx
   simp (disch:=first | omega | (simp;done) | (simp;omega)) [decide_eq_decide] <;> try rfl
  subst d2
  simp only [ne_eq,not_true_eq_false,if_false] at hs2
  obtain ⟨A,hAA⟩:=gn ((keysOf (od.take j)).map Em.feet.emb)
  have hAl:A.length=j:=by rw [← hAA,List.length_map,hkl]
  obtain ⟨tok',σ4,hap,hr',hkeep,hnew⟩:=pappend_row (P:=Tryz.prog) (t:=107) (e:=68) (k:=2) (b:=16) (s:=z) (xs:=A) (p:=.agg [.int .i64 a2,.int .i64 a3]) (tk:=.any) (tok:=tok) (σ:=τ2)
   Tryz.underlying107 (by kernel_rfl) (hzz.imp (fun h=>by rw [← hAA,h];rfl) id) (by rw [hAl];exact tr) (by omega) (by omega)
  have nX:notOwn (some X):=by rw [← hX];trivial
  have w0:=hkeep 0 _ (tr.ne t0 nX) t0
  have w2:=hkeep M _ (tr.ne t2 trivial) t2
  rw [hAl] at hr'
  have gx:=An @q1 (An @hj (An @ha (An @j0 (An @h1 (An @hnn (An @h3 (An @hA (An @t0' (An @l0 (An @te0 (An @tz (An @l1 (An @te1 (An @h4 (An @hE (An @hAA (@hap)))))))))))))))))
  refine goM ?_
  clear gx
  have hK:(keysOf (od.take (j+1))).map Em.feet.emb=A++[.agg [.int .i64 a2,.int .i64 a3]]:=by rw [hkk,List.map_append,hAA];rfl
  refine LoopI.normal (m - 1) (by omega) (by refine ⟨j+1,2,tok',σ4,?_⟩;exact exF (⟨by omega,w0,by rw [htk];exact w2,.inr rfl,hr',by rw [htk];exact hs2⟩) (by (first | rfl | (simp [hK];repeat (first | rfl | (apply And.intro))) | (simp [hK];done))) (by (first | rfl | (simp [hK];repeat (first | rfl | (apply And.intro))) | (simp [hK];done))))
 ·have q1:¬ (j:Int) < (od.length:Int):=by omega
  obtain rfl:j=od.length:=by omega
  rw [List.drop_length] at hs2
  have hs3:couplerE (keysOf od) oc=B:=hs2
  rw [List.take_length] at hzz ⊢
  have hkn:keysOf od≠[]:=fun h=>c4' (by simpa [keysOf] using h)
  have hz1:z=2:=hzz.resolve_left hkn
  subst hz1
  have hst:(PD.slice 2 ((keysOf od).map Em.feet.emb) tok).strip=compsE.emb (keysOf od):=by
   rw [PD.strip_slice,show ((keysOf od).map Em.feet.emb).map PD.strip=(keysOf od).map Em.feet.emb by rw [List.map_map];exact List.map_congr_left fun x _=>Em.feet.str x]
   rw [emb_list]
   simp [sz,hkn]
  have hE:=gCl_of (ks:=keysOf od) (l:=oc) (by unfold keysOf;rw [List.length_map];exact hdl) hcl hcn hst
  rw [hs3] at hE
  simp only [emb_list] at hE
  have gx:=An @q1 (An @hx3 (An @hlt3 (An @hxe3 (An @h5 (@hE)))))
  refine goM ?_
  clear gx
  simp (disch:=first | omega | (simp;done) | (simp;omega)) [decide_eq_decide] <;> try rfl
end Go.Kz

namespace Go.Kz
open Go Go.Proofs
theorem pitch_all:∀ x∈feetAll,pitchE x.1 x.2=0:=by decide +kernel
theorem pitch_six:∀ x∈feetSix,pitchE x.1 x.2=0:=by decide +kernel
theorem name_digit:∀ i:Nat,i < 10→∀ c∈([82,83,67,68]:List UInt8),nameB [c,UInt8.ofNat (48+i)]=true:=by decide +kernel
theorem tone_name:∀ n:Int,nameB (toneAt n)=true:=by
 intro n
 have h:∀ t∈tones,nameB t=true:=by decide +kernel
 have h0:nameB [79,112,101,110]=true:=by decide +kernel
 unfold toneAt
 rw [List.getD_eq_getElem?_getD]
 cases e:tones[(n%3).toNat]? with
 | none=>
   have:=(List.getElem?_eq_none_iff.1 e)
   have h3:tones.length=3:=rfl
   omega
 | some t=>exact h t (List.mem_of_getElem? e)
theorem all_mem' (n:Int):allAt n∈feetAll:=by
 have hlt:(n%16).toNat < feetAll.length:=by
  have h:feetAll.length=16:=rfl
  omega
 unfold allAt
 rw [List.getD_eq_getElem?_getD,List.getElem?_eq_getElem hlt]
 exact List.getElem_mem hlt
theorem rank_right (x:RPlan) (hx:okRp x) (i:Nat):rankE (rankS x i)=0:=by
 have h1:nameB [82,digit (i%10)]=true:=name_digit (i%10) (Nat.mod_lt _ (by decide)) 82 (by simp)
 have h2:=tone_name x.tone
 have h3:=pitch_all _ (all_mem' x.feet)
 have h4:=hx.2.2.1
 have hwl:(windS x (1+(x.pipes%25).toNat)).length=1+(x.pipes%25).toNat:=by simp [windS]
 have hb:(windS x (1+(x.pipes%25).toNat)).any badW=false:=by
  rw [List.any_eq_false]
  intro w hw
  obtain ⟨k,_,rfl⟩:=List.mem_map.1 hw
  have hlt:k%5 < 5:=Nat.mod_lt _ (by decide)
  have hr:0≤windAt x k∧windAt x k≤255:=by
   unfold windAt
   generalize k%5=j at hlt
   match j,hlt with
   | 0,_=>exact hx.2.2.2.2.1
   | 1,_=>exact hx.2.2.2.2.2.1
   | 2,_=>exact hx.2.2.2.2.2.2.1
   | 3,_=>exact hx.2.2.2.2.2.2.2.1
   | 4,_=>exact hx.2.2.2.2.2.2.2.2
  unfold badW
  simp
  omega
 unfold rankE rankS
 simp only [h1,h2,h3,hwl,hb]
 have h5:-256≤x.first∧x.first≤256:=⟨by have:=h4.1;omega,by have:=h4.2;omega⟩
 simp [h5]
 omega
theorem seenB_not {ns:List (List UInt8)} {nm:List UInt8} (h:nm∉ns):seenB ns nm=false:=by
 unfold seenB
 rw [List.any_eq_false]
 intro n hn e
 exact h (by rw [show nm=n by simpa using e];exact hn)
theorem rnGo_right:∀ (l:List RankD) (ns:List (List UInt8)),(∀ r∈l,rankE r=0)→(ns++l.map RankD.name).Nodup→rnGo ns l=0
 | [],_,_,_=>rfl
 | r::t,ns,h,hn=>by
   have h0:=h r (List.mem_cons_self ..)
   rw [List.map_cons] at hn
   have hnn:r.name∉ns:=fun hm=>(List.nodup_append.1 hn).2.2 _ hm _ (List.mem_cons_self ..) rfl
   unfold rnGo
   rw [h0,seenB_not hnn]
   simp only [ne_eq,not_true_eq_false,if_false,Bool.false_eq_true]
   exact rnGo_right t (ns++[r.name]) (fun q hq=>h q (List.mem_cons_of_mem _ hq)) (by rw [List.append_assoc];exact hn)
theorem names_new:∀ c∈([82,83,67,68]:List UInt8),∀ n:Nat,n < 11→((List.range n).map fun i=>[c,digit (i%10)]).Nodup:=by decide +kernel
theorem ranks_right (l:List RPlan) (hl:∀ x∈l,okRp x) (n:Nat) (hn:n≤l.length) (hn10:n≤10):rnGo [] (ranksS l n)=0:=by
 refine rnGo_right _ [] (fun r hr=>?_) ?_
 ·obtain ⟨i,hi,rfl⟩:=List.mem_map.1 hr
  have hi':i < l.length:=by have:=List.mem_range.1 hi;omega
  refine rank_right _ ?_ i
  rw [List.getD_eq_getElem?_getD,List.getElem?_eq_getElem hi']
  exact hl _ (List.getElem_mem hi')
 ·rw [List.nil_append]
  have h:(ranksS l n).map RankD.name=(List.range n).map fun i=>[82,digit (i%10)]:=by
   unfold ranksS
   rw [List.map_map]
   rfl
  rw [h]
  exact names_new 82 (by simp) n (by omega)
def okLink (k:Nat) (c:CoupD):Prop:=nameB c.name=true∧0≤c.org∧c.org < k∧0≤c.dst∧c.dst < k∧-127≤c.shift∧c.shift≤127∧¬ (c.org=c.dst∧c.shift=0)
theorem coupsGo_right (k:Nat):∀ (l pre:List CoupD),(∀ c∈l,okLink k c)→(pre.map CoupD.name++l.map CoupD.name).Nodup→coupsGo k pre l=0
 | [],_,_,_=>rfl
 | c::t,pre,h,hn=>by
   obtain ⟨h1,h2,h3,h4,h5,h6,h7,h8⟩:=h c (List.mem_cons_self ..)
   rw [List.map_cons] at hn
   have hnn:pre.any (nmC c.name)=false:=by
    rw [List.any_eq_false]
    intro x hx e
    have e2:x.name=c.name:=by simpa [nmC] using e
    exact (List.nodup_append.1 hn).2.2 _ (List.mem_map.2 ⟨x,hx,rfl⟩) _ (List.mem_cons_self ..) e2
   unfold coupsGo
   rw [h1,hnn,if_neg (by simp),if_neg (by simp),if_neg (by omega),if_neg (by omega),if_neg h8]
   exact coupsGo_right k t (pre++[c]) (fun q hq=>h q (List.mem_cons_of_mem _ hq)) (by rw [List.map_append,List.append_assoc];exact hn)
theorem links_right (l:List LinkD) (n k:Nat) (hn:1≤n) (hk:k≤10):coupsGo n [] (linksS n l k)=0:=by
 refine coupsGo_right n _ [] (fun c hc=>?_) ?_
 ·obtain ⟨i,hi,rfl⟩:=List.mem_map.1 hc
  have hi':=List.mem_range.1 hi
  obtain ⟨x,hx⟩:=gn (l.getD i default)
  simp only [hx]
  have hnm:nameB [67,digit i]=true:=name_digit i (by omega) 67 (by simp)
  have e1:=Int.emod_nonneg x.org (show (n:Int)≠0 by omega)
  have e2:=Int.emod_lt_of_pos x.org (show (0:Int) < n by omega)
  have e3:=Int.emod_nonneg x.dst (show (n:Int)≠0 by omega)
  have e4:=Int.emod_lt_of_pos x.dst (show (0:Int) < n by omega)
  unfold okLink linkS
  simp only
  obtain ⟨s,hs⟩:=gn (x.shift.tmod 25)
  have e5:-25 < s∧s < 25:=by
   rw [← hs]
   rcases Int.lt_or_le x.shift 0 with h | h
   ·have:=Int.neg_tmod (-x.shift) 25
    rw [Int.neg_neg] at this
    rw [this,Int.tmod_eq_emod_of_nonneg (by omega)]
    omega
   ·rw [Int.tmod_eq_emod_of_nonneg h]
    omega
  rw [hs]
  refine ⟨hnm,e1,e2,e3,e4,?_,?_,?_⟩
  ·split <;> omega
  ·split <;> omega
  ·split
   ·omega
   ·assumption
 ·have h:(linksS n l k).map CoupD.name=(List.range k).map fun i=>[67,digit i]:=by
   unfold linksS
   rw [List.map_map]
   rfl
  rw [List.map_nil,List.nil_append,h]
  have h2:=names_new 67 (by simp) k (by omega)
  rw [show (List.range k).map (fun i=>[(67:UInt8),digit i])=(List.range k).map fun i=>[67,digit (i%10)] from List.map_congr_left fun i hi=>by rw [Nat.mod_eq_of_lt (by have:=List.mem_range.1 hi;omega)]]
  exact h2
end Go.Kz

namespace Go.Kz
open Go Go.Proofs
theorem draws_one {k:Nat} {n s:Int} (h0:0≤n) (h1:n < k) (h2:-127≤s) (h3:s≤127):drawsErr k [⟨n,s⟩]=0:=by
 unfold drawsErr
 rw [if_neg (by simp)]
 unfold drawsGo
 rw [if_neg (by simp only;omega),if_neg (by simp only;omega),if_neg (by simp)]
 rfl
theorem draws_two {k:Nat} {n s:Int} (h0:0≤n) (h1:n < k) (h2:-127≤s) (h3:s+7≤127):drawsErr k [⟨n,s⟩,⟨n,s+7⟩]=0:=by
 unfold drawsErr
 rw [if_neg (by simp)]
 unfold drawsGo
 rw [if_neg (by simp only;omega),if_neg (by simp only;omega),if_neg (by simp)]
 unfold drawsGo
 rw [if_neg (by simp only;omega),if_neg (by simp only;omega),if_neg (by simp;omega)]
 rfl
theorem segs_one {k:Nat} {lo hg:Int} {g:SegD} (h1:lo≤g.lo) (h2:g.hi≤hg) (h3:g.lo≤g.hi) (hd:drawsErr k g.draws=0):segsErr k lo hg [g]=0:=by
 unfold segsErr
 rw [if_neg (by simp),if_neg (by simp)]
 unfold segsGo
 rw [if_neg (by omega),if_neg (by simp [pvB];omega),if_neg (by simp [hd])]
 rfl
theorem segs_two {k:Nat} {lo hg:Int} {g q:SegD} (h1:lo≤g.lo) (h2:q.hi≤hg) (h3:g.lo≤g.hi) (h4:g.hi < q.lo) (h5:q.lo≤q.hi) (hd:drawsErr k g.draws=0) (hq:drawsErr k q.draws=0):segsErr k lo hg [g,q]=0:=by
 unfold segsErr
 rw [if_neg (by simp),if_neg (by simp)]
 unfold segsGo
 rw [if_neg (by omega),if_neg (by simp [pvB];omega),if_neg (by simp [hd])]
 unfold segsGo
 rw [if_neg (by omega),if_neg (by simp [pvB];omega),if_neg (by simp [hq])]
 rfl
theorem segs_right (k:Nat) (kd n sh lo hg at_ m other:Int) (hn0:0≤n) (hn:n < k) (hm0:0≤m) (hm:m < k) (hs:-60≤sh∧sh≤64) (ho:-60≤other∧other≤64) (ha:lo≤at_) (hb:at_≤hg) :
  segsErr k lo hg (segsS kd n sh lo hg at_ m other)=0:=by
 have d1:drawsErr k [⟨n,sh⟩]=0:=draws_one hn0 hn (by omega) (by omega)
 have d2:drawsErr k [⟨n,sh - 12⟩]=0:=draws_one hn0 hn (by omega) (by omega)
 have d3:drawsErr k [⟨m,other⟩]=0:=draws_one hm0 hm (by omega) (by omega)
 unfold segsS
 split
 ·exact segs_one (by simp) (by simp) (by simp only;omega) (draws_two hn0 hn (by omega) (by omega))
 split
 ·have d4:drawsErr k (if kd=3 then [⟨m,other⟩] else [⟨n,sh - 12⟩])=0:=by
   split
   ·exact d3
   ·exact d2
  split
  ·exact segs_two (by simp) (by simp) (by simp only;omega) (by simp only;omega) (by simpa using hb) d1 d4
  ·exact segs_one (by simpa using ha) (by simp) (by simpa using hb) d4
 split
 ·exact segs_one (by simpa using ha) (by simp) (by simpa using hb) d1
 ·exact segs_one (by simp) (by simp) (by simp only;omega) d1
theorem ranksGo_right:∀ l:List RankD,(∀ r∈l,rankE r=0)→ranksGo l=0
 | [],_=>rfl
 | r::t,h=>by
   unfold ranksGo
   rw [h r (List.mem_cons_self ..),if_neg (by simp)]
   exact ranksGo_right t fun q hq=>h q (List.mem_cons_of_mem _ hq)
theorem comp_right {lo hg:Int} (h3:0≤lo) (h4:lo≤hg) (h5:hg≤127):compE lo hg=0:=by
 unfold compE
 rw [if_neg (by omega),if_neg (by omega)]
theorem pull_right (rs:List RankD) (hr:∀ r∈rs,rankE r=0) (h1:1≤rs.length) (h2:rs.length≤60) (lo hg:Int) (h3:0≤lo) (h4:lo≤hg) (h5:hg≤127) (x:PullD) (hx:okPu x) (i:Nat) (hi:i < 10) :
  stopE rs lo hg (pullS rs lo hg x i)=0:=by
 have hp:placeE rs lo hg=0:=by
  unfold placeE
  rw [if_neg (by omega),ranksGo_right rs hr,if_neg (by simp)]
  exact comp_right h3 h4 h5
 have hn:nameB [83,digit i]=true:=name_digit i hi 83 (by simp)
 have hf:=pitch_six _ (six_mem x.feet hx.2.1)
 have hk:(rs.length:Int)≠0:=by omega
 have e1:=Int.emod_nonneg x.rank hk
 have e2:=Int.emod_lt_of_pos x.rank (show (0:Int) < rs.length by omega)
 have e3:=Int.emod_nonneg (x.rank%rs.length+1) hk
 have e4:=Int.emod_lt_of_pos (x.rank%rs.length+1) (show (0:Int) < rs.length by omega)
 have e5:=Int.emod_nonneg x.at_ (show hg - lo+1≠0 by omega)
 have e6:=Int.emod_lt_of_pos x.at_ (show (0:Int) < hg - lo+1 by omega)
 unfold stopE pullS
 simp only
 rw [if_neg (by simp [hp]),if_neg (by simp [hn]),if_neg (by simp [hf])]
 exact segs_right _ _ _ _ _ _ _ _ _ e1 e2 e3 e4 (shift_bound _ _) (shift_bound _ _) (by omega) (by omega)
theorem stopsGo_right (rs:List RankD) (lo hg:Int):∀ (l:List StopD) (ns:List (List UInt8)),(∀ s∈l,stopE rs lo hg s=0)→(ns++l.map StopD.name).Nodup→stopsGo rs lo hg ns l=0
 | [],_,_,_=>rfl
 | r::t,ns,h,hn=>by
   have h0:=h r (List.mem_cons_self ..)
   rw [List.map_cons] at hn
   have hnn:r.name∉ns:=fun hm=>(List.nodup_append.1 hn).2.2 _ hm _ (List.mem_cons_self ..) rfl
   unfold stopsGo
   rw [h0,seenB_not hnn]
   simp only [ne_eq,not_true_eq_false,if_false,Bool.false_eq_true]
   exact stopsGo_right rs lo hg t (ns++[r.name]) (fun q hq=>h q (List.mem_cons_of_mem _ hq)) (by rw [List.append_assoc];exact hn)
theorem names_new' (c:UInt8) (hc:c∈([82,83,67,68]:List UInt8)) (n:Nat) (hn:n≤10):((List.range n).map fun i=>[c,digit i]).Nodup:=by
 have h2:=names_new c hc n (by omega)
 rw [show (List.range n).map (fun i=>[c,digit i])=(List.range n).map fun i=>[c,digit (i%10)] from List.map_congr_left fun i hi=>by rw [Nat.mod_eq_of_lt (by have:=List.mem_range.1 hi;omega)]]
 exact h2
theorem getD_mem {α:Type} {l:List α} {i:Nat} (h:i < l.length) (d:α):l.getD i d∈l:=by
 rw [List.getD_eq_getElem?_getD,List.getElem?_eq_getElem h]
 exact List.getElem_mem h
theorem board_right (rs:List RankD) (hr:∀ r∈rs,rankE r=0) (h1:1≤rs.length) (h2:rs.length≤60) (b:BoardD) (hb:okB b) (hl:b.stops.length≤10) (i:Nat):divE rs (boardS rs b i)=0:=by
 obtain ⟨⟨a1,a2⟩,⟨a3,a4⟩,a5⟩:=hb
 unfold divE boardS
 simp only
 have hc:compE (36+b.low%12) (36+b.low%12+b.keys%9)=0:=comp_right (by omega) (by omega) (by omega)
 have hll:(pullsS rs (36+b.low%12) (36+b.low%12+b.keys%9) b.stops b.stops.length).length=b.stops.length:=by simp [pullsS]
 rw [if_neg (by simp [hc]),if_neg (by rw [hll];omega)]
 refine stopsGo_right _ _ _ _ [] (fun s hs=>?_) ?_
 ·obtain ⟨j,hj,rfl⟩:=List.mem_map.1 hs
  have hj':=List.mem_range.1 hj
  exact pull_right rs hr h1 h2 _ _ (by omega) (by omega) (by omega) _ (a5 _ (getD_mem hj' _)) j (by omega)
 ·rw [List.nil_append,show (pullsS rs (36+b.low%12) (36+b.low%12+b.keys%9) b.stops b.stops.length).map StopD.name=(List.range b.stops.length).map fun i=>[83,digit i] by
   unfold pullsS
   rw [List.map_map]
   rfl]
  exact names_new' 83 (by simp) _ hl
theorem divsGo_right (rs:List RankD):∀ (l:List DivD) (ns:List (List UInt8)),(∀ d∈l,nameB d.name=true∧divE rs d=0)→(ns++l.map DivD.name).Nodup→divsGo rs ns l=0
 | [],_,_,_=>rfl
 | r::t,ns,h,hn=>by
   obtain ⟨h0,h1⟩:=h r (List.mem_cons_self ..)
   rw [List.map_cons] at hn
   have hnn:r.name∉ns:=fun hm=>(List.nodup_append.1 hn).2.2 _ hm _ (List.mem_cons_self ..) rfl
   unfold divsGo
   rw [h0,h1,seenB_not hnn]
   simp only [ne_eq,not_true_eq_false,if_false,Bool.false_eq_true,Bool.true_eq_false]
   exact divsGo_right rs t (ns++[r.name]) (fun q hq=>h q (List.mem_cons_of_mem _ hq)) (by rw [List.append_assoc];exact hn)
structure FitsP (p:PlanD):Prop where
 r1:1≤p.ranks.length
 r3:p.ranks.length≤3
 d1:1≤p.divs.length
 d3:p.divs.length≤3
 c3:p.coups.length≤3
 s3:∀ b∈p.divs,b.stops.length≤3
theorem fitsP {p:PlanD} (h:fitsB p=true):FitsP p:=by
 simp only [fitsB,Bool.and_eq_true,decide_eq_true_eq] at h
 obtain ⟨⟨⟨⟨⟨hR1,hR3⟩,hD1⟩,hD3⟩,hC3⟩,hS3⟩:=h
 exact ⟨hR1,hR3,hD1,hD3,hC3,fun b hb=>by simpa using List.all_eq_true.1 hS3 b hb⟩
theorem mem_ranksS {l:List RPlan} {n:Nat} (hn:n≤l.length) {r:RankD} (h:r∈ranksS l n):∃ x∈l,∃ i,i < n∧r=rankS x i:=by
 obtain ⟨j,hj,rfl⟩:=List.mem_map.1 h
 have hj':=List.mem_range.1 hj
 exact ⟨_,getD_mem (by omega) _,j,hj',rfl⟩
theorem mem_boardsS {rs:List RankD} {l:List BoardD} {n:Nat} (hn:n≤l.length) {r:DivD} (h:r∈boardsS rs l n):∃ x∈l,∃ i,i < n∧r=boardS rs x i:=by
 obtain ⟨j,hj,rfl⟩:=List.mem_map.1 h
 have hj':=List.mem_range.1 hj
 exact ⟨_,getD_mem (by omega) _,j,hj',rfl⟩
theorem mem_pullsS {rs:List RankD} {lo hg:Int} {l:List PullD} {n:Nat} (hn:n≤l.length) {r:StopD} (h:r∈pullsS rs lo hg l n):∃ x∈l,∃ i,i < n∧r=pullS rs lo hg x i:=by
 obtain ⟨j,hj,rfl⟩:=List.mem_map.1 h
 have hj':=List.mem_range.1 hj
 exact ⟨_,getD_mem (by omega) _,j,hj',rfl⟩
theorem boardsS_length (rs:List RankD) (l:List BoardD) (n:Nat):(boardsS rs l n).length=n:=by simp [boardsS]
theorem ranksS_length (l:List RPlan) (n:Nat):(ranksS l n).length=n:=by simp [ranksS]
theorem linksS_length (k:Nat) (l:List LinkD) (n:Nat):(linksS k l n).length=n:=by simp [linksS]
theorem organ_right (p:PlanD) (hp:okPl p) (hf:fitsB p=true):organE (organS p)=0:=by
 obtain ⟨r1,r3,d1,d3,c3,s3⟩:=fitsP hf
 obtain ⟨hpR,hpD,hpC⟩:=hp
 have hrl:=ranksS_length p.ranks p.ranks.length
 have hra:∀ r∈ranksS p.ranks p.ranks.length,rankE r=0:=fun r hr=>by
  obtain ⟨x,hx,i,_,rfl⟩:=mem_ranksS (Nat.le_refl _) hr
  exact rank_right x (hpR x hx) i
 have hrn:=ranks_right p.ranks hpR p.ranks.length (Nat.le_refl _) (by omega)
 obtain ⟨rs,hrs⟩:=gn (ranksS p.ranks p.ranks.length)
 have hdl:=boardsS_length rs p.divs p.divs.length
 have hcl:=linksS_length p.divs.length p.coups p.coups.length
 have hnm:nameB [79,114,103,97,110]=true:=by decide +kernel
 have hco:=links_right p.coups p.divs.length p.coups.length d1 (by omega)
 unfold organE partE organS
 simp only
 rw [hrs] at hrl hra hrn ⊢
 have hdi:divsGo rs [] (boardsS rs p.divs p.divs.length)=0:=by
  refine divsGo_right rs _ [] (fun d hd=>?_) ?_
  ·obtain ⟨x,hx,i,hi,rfl⟩:=mem_boardsS (Nat.le_refl _) hd
   exact ⟨name_digit i (by omega) 68 (by simp),board_right rs hra (by omega) (by omega) x (hpD x hx) (by have:=s3 x hx;omega) i⟩
  ·rw [List.nil_append,show (boardsS rs p.divs p.divs.length).map DivD.name=(List.range p.divs.length).map fun i=>[68,digit i] by
    unfold boardsS
    rw [List.map_map]
    rfl]
   exact names_new' 68 (by simp) _ (by omega)
 have hkl:(keysOf (boardsS rs p.divs p.divs.length)).length=p.divs.length:=by
  unfold keysOf
  rw [List.length_map,hdl]
 have hcb:compsB (keysOf (boardsS rs p.divs p.divs.length))=false:=by
  unfold compsB
  rw [List.any_eq_false]
  intro x hx
  obtain ⟨d,hd,rfl⟩:=List.mem_map.1 hx
  obtain ⟨b,hb,i,hi,rfl⟩:=mem_boardsS (Nat.le_refl _) hd
  obtain ⟨⟨a1,a2⟩,⟨a3,a4⟩,a5⟩:=hpD b hb
  have hc:compE (36+b.low%12) (36+b.low%12+b.keys%9)=0:=comp_right (by omega) (by omega) (by omega)
  simp [boardS,hc]
 rw [if_neg (by simp [hnm]),if_neg (by omega),if_neg (by simp [hrn]),if_neg (by omega),if_neg (by omega),if_neg (by simp [hdi])]
 unfold couplerE
 rw [if_neg (by omega),if_neg (by simp [hcb]),hkl]
 exact hco
theorem segsS_len (k n sh lo hi at_ m other:Int):(segsS k n sh lo hi at_ m other).length≤2∧∀ g∈segsS k n sh lo hi at_ m other,g.draws.length≤2:=by
 unfold segsS
 split
 ·simp
 split
 ·split
  ·constructor
   ·simp
   ·intro g hg
    simp only [List.cons_append,List.nil_append,List.mem_cons,List.not_mem_nil,or_false] at hg
    rcases hg with rfl | rfl
    ·simp
    ·simp only;split <;> simp
  ·constructor
   ·simp
   ·intro g hg
    simp only [List.nil_append,List.mem_cons,List.not_mem_nil,or_false] at hg
    subst hg
    simp only;split <;> simp
 split
 ·simp
 ·simp
structure Small (o:OrganD):Prop where
 nm:o.name.length≤100
 rl:o.ranks.length≤60
 rk:∀ r∈o.ranks,r.name.length≤100∧r.tone.length≤100∧r.wind.length≤100
 dl:o.divs.length≤60
 dv:∀ d∈o.divs,d.name.length≤100∧d.stops.length≤100∧∀ s∈d.stops,s.name.length≤100∧s.segs.length≤100∧∀ g∈s.segs,g.draws.length≤100
 cl:o.coups.length≤60
 cp:∀ c∈o.coups,c.name.length≤100
theorem organ_small (p:PlanD) (hf:fitsB p=true):Small (organS p):=by
 obtain ⟨r1,r3,d1,d3,c3,s3⟩:=fitsP hf
 unfold organS
 refine ⟨by simp,by simp only [ranksS_length];omega,fun r hr=>?_,by simp only [boardsS_length];omega,fun d hd=>?_,by simp only [linksS_length];omega,fun c hc=>?_⟩
 ·obtain ⟨x,hx,i,_,rfl⟩:=mem_ranksS (Nat.le_refl _) hr
  refine ⟨by simp [rankS],?_,by simp [rankS,windS];omega⟩
  unfold rankS toneAt
  simp only
  rw [List.getD_eq_getElem?_getD]
  have h:∀ t∈tones,t.length≤100:=by decide
  cases e:tones[(x.tone%3).toNat]? with
  | none=>simp
  | some t=>exact h t (List.mem_of_getElem? e)
 ·obtain ⟨b,hb,i,_,rfl⟩:=mem_boardsS (Nat.le_refl _) hd
  refine ⟨by simp [boardS],?_,fun s hs=>?_⟩
  ·simp only [boardS,pullsS,List.length_map,List.length_range]
   have:=s3 b hb
   omega
  ·obtain ⟨x,hx,j,_,rfl⟩:=mem_pullsS (Nat.le_refl _) hs
   obtain ⟨k1,k2⟩:=segsS_len (x.kind%6) (x.rank%(ranksS p.ranks p.ranks.length).length) (shiftOf (sixAt x.feet) (feetOf (ranksS p.ranks p.ranks.length) (x.rank%(ranksS p.ranks p.ranks.length).length).toNat)) (36+b.low%12) (36+b.low%12+b.keys%9) (36+b.low%12+x.at_%(36+b.low%12+b.keys%9 - (36+b.low%12)+1))
    ((x.rank%(ranksS p.ranks p.ranks.length).length+1)%(ranksS p.ranks p.ranks.length).length) (shiftOf (sixAt x.feet) (feetOf (ranksS p.ranks p.ranks.length) ((x.rank%(ranksS p.ranks p.ranks.length).length+1)%(ranksS p.ranks p.ranks.length).length).toNat))
   unfold pullS
   exact ⟨by simp,by simp only;omega,fun g hg=>by have:=k2 g hg;omega⟩
 ·obtain ⟨j,hj,rfl⟩:=List.mem_map.1 hc
  simp [linkS]
theorem Small.okOr {o:OrganD} (h:Small o):okOr o:=by
 obtain ⟨h1,h2,h3,h4,h5,h6,h7⟩:=h
 refine ⟨by unfold okN;omega,⟨fun r hr=>?_,by omega⟩,⟨by omega,fun d hd=>?_⟩,by omega,fun c hc=>?_⟩
 ·obtain ⟨a,b,c⟩:=h3 r hr
  exact ⟨by unfold okR okI;omega,by unfold okN;omega,by unfold okN;omega⟩
 ·obtain ⟨a,b,c⟩:=h5 d hd
  refine ⟨by unfold okN;omega,by omega,fun s hs=>?_⟩
  obtain ⟨e,f,g⟩:=c s hs
  exact ⟨⟨by omega,fun q hq=>by have:=g q hq;unfold okG okDs;omega⟩,by unfold okN;omega⟩
 ·have:=h7 c hc
  unfold okN
  omega
end Go.Kz
