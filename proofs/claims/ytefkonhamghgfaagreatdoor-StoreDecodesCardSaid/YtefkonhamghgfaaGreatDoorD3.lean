/-
  Part D3 of the way: an interpreter over pure data, its soundness, walks through functions.
-/
import Derived.Test.YtefkonhamghgfaaGreatDoorD1
set_option linter.all false

namespace Go.Kz
open Go Go.Proofs
set_option maxRecDepth 100000
set_option maxHeartbeats 40000000
theorem ns_int (x:Int):pnewSlice Tryz.prog 64 1 [(0,i64.emb x)]=some (.slice 1 [i64.emb x] .full):=by
 kernel_rfl
variable {E E1 E2:PExt} (hU:Uni E)
include hU
theorem w_list_int (h0:E 102=none) (h1:E 100=some (gEf Tryz.prog E1 100)) (H1:Reads E1 100 dNum i64.emb) (h2:E 100=some (gEf Tryz.prog E2 100)) (H2:Reads E2 100 dNum i64.emb):ReadsA E 102 (lstA 100) (dList dNum) i64s.emb:=by
 intro τ id s hr hl
 have hid:=hr.lt
 obtain ⟨τ1,k1,r1,l1,f1⟩:=H1.at hr hl
 have hd:dList dNum s=dLoop dNum (dNum s).1.toNat ⟨(dNum s).2.inp,(dNum s).2.bad||decide ((dNum s).1 < 0)⟩:=rfl
 have hln:=rt_num.len s
 obtain ⟨n,hn⟩:=gn ((dNum s).1)
 obtain ⟨s1,hs1⟩:=gn ((dNum s).2)
 rw [hn] at k1 hd
 rw [hs1] at r1 hd hln
 replace k1:=k1.trans (show _=some (.int .i64 n,τ1) from rfl)
 simp only [ptrA] at k1
 obtain ⟨inp,bad⟩:=s1
 obtain ⟨z,hz,hb⟩:=r1
 simp only at hz hb hd hln
 obtain ⟨hlt,hg⟩:=List.getElem?_eq_some_iff.1 hb
 obtain ⟨N,hN⟩:=gn (n.toNat)
 rw [hN] at hd
 have R2:=Rdr.put (bad:=bad||decide (n < 0)) hlt inp hz
 obtain ⟨s2,hs2⟩:=gn (BSt.mk inp (bad||decide (n < 0)))
 rw [hs2] at R2 hd
 have hi2:s2.inp=inp:=by rw [← hs2]
 obtain ⟨xs0,hxs0⟩:=gn (u8s inp)
 rw [hxs0] at hb hg R2
 obtain ⟨τ2,hτ2⟩:=gn (τ1.set id (.box (.agg [.slice z xs0 .any,.bool (bad||decide (n < 0))])))
 rw [hτ2] at R2
 have l2:τ.length≤τ2.length:=by rw [← hτ2,List.length_set];exact l1
 have f2:∀ j,j < τ.length→j≠id→τ2[j]?=τ[j]?:=fun j h1 h2=>by rw [← hτ2,List.getElem?_set_ne (Ne.symm h2)];exact f1 j h1 h2
 obtain ⟨bn,hbn⟩:=gn ((bad||decide (n < 0)))
 rw [hbn] at hτ2
 have hsp:∀ x:Int,PD.strip (i64.emb x)=i64.emb x:=fun x=>i64.str x
 have hns:=ns_int
 obtain ⟨fin,hfin⟩:=gn (dLoop dNum N s2)
 rw [hfin] at hd
 unfold RdQ
 rw [hd]
 clear hd
 simp only [lstA]
 apply WpC.bodyL h0 Tryz.func102 rfl
 focus (simp [show Tryz.f102.ntmps=_ from rfl,List.replicate];rfl)
 have hc3:bad=true∨(bad=false∧n < 0)∨(bad=false∧¬ n < 0):=by
  cases bad
  ·exact .inr (by by_cases c:n < 0;exact .inl ⟨rfl,c⟩;exact .inr ⟨rfl,c⟩)
  ·exact .inl rfl
 have hL0:s2.inp.length≤s.inp.length:=by rw [hi2];exact hln
 clear hr hi2 hs2 hln hz hxs0
 rcases hc3 with rfl | ⟨rfl,c2⟩ | ⟨rfl,c2⟩
 rw [show bn=true by rw [← hbn];simp] at hτ2
 have gx:=An @h1 (An @k1 (An @hb (An @hg (@hτ2))))
 refine goA ?_
 clear gx
 rotate_left
 rw [show bn=true by rw [← hbn];simp [c2]] at hτ2
 have gx:=An @h1 (An @k1 (An @hb (An @hg (An @hτ2 (@c2)))))
 refine goA ?_
 clear gx
 rotate_left
 rw [show bn=false by rw [← hbn];simp [c2]] at hτ2
 have gx:=An @h1 (An @k1 (An @hb (An @hg (An @hτ2 (@c2)))))
 refine goA ?_
 clear gx
 all_goals (
 clear hb hg hτ2 hbn k1 f1 l1
 refine Wp.loopI (fun m fr σ=>∃ (i:Nat) (xs:List Int) (tok:Tok) (st:BSt) (σ1:List SObj),∃ gg:Nat→PD,(i+m=N∧xs.length=i∧Rdr σ1 id st∧RowAt σ1 tok 3 1 i∧(∀ q,tok=.own q→τ.length≤q)∧τ.length≤σ1.length∧(∀ j,j < τ.length→j≠id→σ1[j]?=τ[j]?)∧8*i≤s.inp.length+8∧(st.bad=false→st.inp.length+8*i≤s.inp.length)∧st.inp.length≤s.inp.length∧fin=(xs++(dLoop dNum (N - i) st).1,(dLoop dNum (N - i) st).2))∧fr=[.ptr id 0,.mfunc 100 [.ptr id 0],gg 2,gg 3,gg 4,.int .i64 n,.slice (sz 1 xs) (xs.map i64.emb) tok,.int .i64 i,gg 8,gg 9,gg 10,gg 11,gg 12,gg 13,gg 14,gg 15,gg 16,gg 17,gg 18,gg 19,gg 20,gg 21,gg 22,gg 23,gg 24,gg 25,gg 26,gg 27,gg 28,gg 29,gg 30,gg 31,gg 32,gg 33,gg 34,gg 35,gg 36,gg 37,gg 38]∧σ=σ1) ?_ (N) (by refine ⟨0,[],.full,s2,τ2,?_⟩;exact exF (⟨by omega,rfl,R2,.inl ⟨rfl,rfl⟩,(fun q h=>by cases h),l2,f2,by omega,(fun _=>by omega),hL0,(by rw [Nat.sub_zero,hfin];rfl)⟩) (by (first | rfl | (simp [];repeat (first | rfl | (apply And.intro))) | (simp [];done))) (by (first | rfl | (simp [];repeat (first | rfl | (apply And.intro))) | (simp [];done))))
 rintro m fr σ ⟨i,xs,tok,st,σ1,gg,hI,rfl,rfl⟩
 obtain ⟨hm,hxl,hR,hrow,hown,hlo,hfr,hb8,hbd,hLe,hfi⟩:=hI
 obtain ⟨z,hz,hb⟩:=hR
 obtain ⟨hlt,hg⟩:=List.getElem?_eq_some_iff.1 hb
 by_cases hi:i < N
 ·have q1:(i:Int) < n:=by omega
  cases hst:st.bad with
  | true=>
    rw [hst] at hb hg
    have hR0:Rdr σ id st:=⟨z,hz,by rw [hst];exact hb⟩
    rw [dLoop_bad _ _ hst,List.append_nil] at hfi
    obtain ⟨ys,hys⟩:=gn (u8s st.inp)
    rw [hys] at hb hg
    have hfs:=strip_sl2 i64 1 (sz 1 xs) xs (by unfold sz;by_cases h:xs=[];exact .inl h;exact .inr (if_neg (fun e=>h (List.eq_nil_of_length_eq_zero e)))) tok
    have gx:=An @q1 (An @hb (@hg))
    refine goA ?_
    clear gx
    exact ⟨_,_,rfl,by rw [hfi];exact hfs,by rw [hfi];exact hR0,hlo,hfr⟩
  | false=>
    rw [hst] at hb hg
    have hR0:Rdr σ id st:=⟨z,hz,by rw [hst];exact hb⟩
    obtain ⟨σ7,k7,R7,l7,f7⟩:=H2.at hR0 (by omega)
    have hu:=rt_num.use st
    have hle2:=rt_num.len st
    have hdl:dLoop dNum (N - i) st=((dNum st).1::(dLoop dNum (N - (i+1)) (dNum st).2).1,(dLoop dNum (N - (i+1)) (dNum st).2).2):=by
     rw [show N - i=(N - (i+1))+1 by omega]
     simp [dLoop,hst]
    rw [hdl] at hfi
    obtain ⟨x,hx⟩:=gn ((dNum st).1)
    obtain ⟨st2,hst2⟩:=gn ((dNum st).2)
    rw [hx] at k7 hfi
    rw [hst2] at R7 hfi hu hle2
    have hs1:=hsp x
    have hn1:pnewSlice Tryz.prog 64 1 (List.map (fun q=>(q.1,q.2.strip)) [((0:Nat),i64.emb x)])=some (.slice 1 [i64.emb x] .full):=by
     simp only [List.map_cons,List.map_nil,hs1]
     exact hns x
    have hmap:(xs++[x]).map i64.emb=xs.map i64.emb++[i64.emb x]:=by simp
    obtain ⟨ex,hex⟩:=gn (i64.emb x)
    rw [hex] at k7 hs1 hn1 hmap
    simp only [ptrA] at k7
    have hr7:RowAt σ7 tok 3 1 (xs.map i64.emb).length:=by
     rw [List.length_map,hxl]
     exact hrow.keep fun q o e h=>by
      rw [f7 q (List.getElem?_eq_some_iff.1 h).1 (by have:=hown q e;omega)]
      exact h
    obtain ⟨tok',σ8,ap,ra,kp,ow⟩:=pappend_row (P:=Tryz.prog) (t:=64) (e:=3) (k:=1) (b:=8) (s:=sz 1 xs) (p:=ex) (tk:=.any) Tryz.underlying64 (by kernel_rfl) (by unfold sz;by_cases h:xs=[];exact .inl (by rw [h];rfl);exact .inr (if_neg (fun e=>h (List.eq_nil_of_length_eq_zero e)))) hr7 (by rw [List.length_map];omega) (by rw [List.length_map];omega)
    obtain ⟨ys,hys⟩:=gn (u8s st.inp)
    rw [hys] at hb hg
    have hsz:sz 1 (xs++[x])=1:=sz_ne (by simp)
    have hlt7:σ7.length≤σ8.length:=by
     rcases Nat.lt_or_ge σ8.length σ7.length with h | h
     ·exfalso
      obtain ⟨o,ho⟩:∃ o,σ7[σ7.length - 1]?=some o:=⟨_,List.getElem?_eq_getElem (by omega)⟩
      by_cases e:tok=.own (σ7.length - 1)
      ·rcases ra with ⟨h1,_⟩ | ⟨_,q,h1,h2⟩
       ·omega
       ·have h3:=(List.getElem?_eq_some_iff.1 h2).1
        rcases ow q h1 with h4 | h4
        ·rw [e] at h4;cases h4;omega
        ·omega
      ·have h3:=(List.getElem?_eq_some_iff.1 (kp _ _ e ho)).1
       omega
     ·exact h
    have hkeep8:∀ j,j < σ7.length→tok≠.own j→σ8[j]?=σ7[j]?:=fun j h1 h2=>by rw [kp j _ h2 (List.getElem?_eq_getElem h1),List.getElem?_eq_getElem h1]
    have hid7:tok≠.own id:=fun e=>by
     have:=hown id e
     omega
    have hlow:∀ j,j < τ.length→tok≠.own j:=fun j hj e=>by
     have:=hown j e
     omega
    have hown2:∀ q,tok'=.own q→τ.length≤q:=fun q e=>by
     rcases ow q e with h | h
     ·exact hown q h
     ·omega
    have hR2:Rdr σ8 id st2:=R7.keep (hkeep8 id R7.lt hid7)
    have hra2:RowAt σ8 tok' 3 1 (i+1):=by rw [List.length_map,hxl] at ra;exact ra
    have hfr2:∀ j,j < τ.length→j≠id→σ8[j]?=τ[j]?:=fun j h1 h2=>by rw [hkeep8 j (by omega) (hlow j h1),f7 j (by omega) h2];exact hfr j h1 h2
    have hb82:8*(i+1)≤s.inp.length+8:=by have:=hbd hst;omega
    have hbd2:st2.bad=false→st2.inp.length+8*(i+1)≤s.inp.length:=fun h=>by have:=hu h;have:=hbd hst;omega
    have hfi2:fin=((xs++[x])++(dLoop dNum (N - (i+1)) st2).1,(dLoop dNum (N - (i+1)) st2).2):=by rw [hfi];simp
    have gx:=An @q1 (An @hb (@hg))
    refine goA ?_
    clear gx
    first | refine Wp.seq ?_ | skip
    apply Wp.regionS
    repeat (first
     | (refine By.i ?_;(focus assumption)) | (refine Fr.i ?_;simp only [pput,List.set_cons_zero,List.set_cons_succ];try rfl)
     | (refine By.i ?_;(focus (simp (disch:=first | omega | (simp;done) | (simp;omega)) [wrap_i64,wrap_u64,h2,k7,hs1,ap];first | done | rfl | exact ⟨rfl,rfl⟩)))
     | (refine By.i ?_;simp (disch:=first | omega | (simp;done) | (simp;omega)) [wrap_i64,wrap_u64,h2,k7,hs1,ap];refine ⟨(by (try simp only [List.length_append,List.length_cons,List.length_nil,maxLen]);omega),rfl⟩)
     | (refine Wt.i ?_;first | rfl | (focus (simp [h2,k7,hs1,ap];done)))
     | (refine Ns.i ?_;(try simp only [List.append_nil,List.nil_append,List.cons_append,List.append_assoc,List.length_append,List.length_cons,List.length_nil,Nat.zero_add,Nat.reduceAdd]);rfl) | rfl
     | (apply SL.pass;(focus (refine Wt.i ?_;rfl))) | (apply SL.mcall;rotate_left;(focus rfl);rotate_right) | (apply SL.convertR;(focus rfl)) | apply SL.move | apply SL.assign | apply SL.load | apply SL.isnilE | apply SL.isnilN
     | apply SL.make | apply SL.binOp | apply SL.append | apply SL.copy | apply SL.builtin | apply SL.fieldAddr | apply SL.indexAddr | apply SL.field | apply SL.extract | apply SL.fcall | apply SL.pick | apply SL.store | apply SL.unOp
     | apply SL.convert | apply SL.index | apply SL.slice | apply SL.build | apply SL.nilCheck | apply SL.buildSlice | apply SL.box | apply SL.alloc | apply SL.makeFunc)
    apply SQ.nil
    have gx:=An @q1 (An @hb (@hg))
    refine goA ?_
    clear gx
    refine LoopI.normal (m - 1) (by omega) (by refine ⟨i+1,xs++[x],tok',st2,σ8,?_⟩;exact exF (⟨by omega,by simp [hxl],hR2,hra2,hown2,by omega,hfr2,hb82,hbd2,by omega,hfi2⟩) (by (first | rfl | (simp [hmap,hsz];repeat (first | rfl | (apply And.intro))) | (simp [hmap,hsz];done))) (by (first | rfl | (simp [hmap,hsz];repeat (first | rfl | (apply And.intro))) | (simp [hmap,hsz];done))))
 ·have q1:¬ (i:Int) < n:=by omega
  have hR0:Rdr σ id st:=⟨z,hz,hb⟩
  rw [show N - i=0 by omega] at hfi
  simp only [dLoop,List.append_nil] at hfi
  have hfs:=strip_sl2 i64 1 (sz 1 xs) xs (by unfold sz;by_cases h:xs=[];exact .inl h;exact .inr (if_neg (fun e=>h (List.eq_nil_of_length_eq_zero e)))) tok
  have gx:=@q1
  refine goA ?_
  clear gx
  exact ⟨_,_,rfl,by rw [hfi];exact hfs,by rw [hfi];exact hR0,hlo,hfr⟩)
end Go.Kz

namespace Go.Kz
open Go Go.Proofs
set_option maxRecDepth 100000
set_option maxHeartbeats 40000000
theorem ns_rank (x:RankD):pnewSlice Tryz.prog 32 1 [(0,Em.rank.emb x)]=some (.slice 6 [Em.rank.emb x] .full):=by
 kernel_rfl
variable {E E1 E2:PExt} (hU:Uni E)
include hU
theorem w_list_rank (h0:E 72=none) (h1:E 100=some (gEf Tryz.prog E1 100)) (H1:Reads E1 100 dNum i64.emb) (h2:E 73=some (gEf Tryz.prog E2 73)) (H2:Reads E2 73 dRank Em.rank.emb):ReadsA E 72 (lstA 73) (dList dRank) ranks.emb:=by
 intro τ id s hr hl
 have hid:=hr.lt
 obtain ⟨τ1,k1,r1,l1,f1⟩:=H1.at hr hl
 have hd:dList dRank s=dLoop dRank (dNum s).1.toNat ⟨(dNum s).2.inp,(dNum s).2.bad||decide ((dNum s).1 < 0)⟩:=rfl
 have hln:=rt_num.len s
 obtain ⟨n,hn⟩:=gn ((dNum s).1)
 obtain ⟨s1,hs1⟩:=gn ((dNum s).2)
 rw [hn] at k1 hd
 rw [hs1] at r1 hd hln
 replace k1:=k1.trans (show _=some (.int .i64 n,τ1) from rfl)
 simp only [ptrA] at k1
 obtain ⟨inp,bad⟩:=s1
 obtain ⟨z,hz,hb⟩:=r1
 simp only at hz hb hd hln
 obtain ⟨hlt,hg⟩:=List.getElem?_eq_some_iff.1 hb
 obtain ⟨N,hN⟩:=gn (n.toNat)
 rw [hN] at hd
 have R2:=Rdr.put (bad:=bad||decide (n < 0)) hlt inp hz
 obtain ⟨s2,hs2⟩:=gn (BSt.mk inp (bad||decide (n < 0)))
 rw [hs2] at R2 hd
 have hi2:s2.inp=inp:=by rw [← hs2]
 obtain ⟨xs0,hxs0⟩:=gn (u8s inp)
 rw [hxs0] at hb hg R2
 obtain ⟨τ2,hτ2⟩:=gn (τ1.set id (.box (.agg [.slice z xs0 .any,.bool (bad||decide (n < 0))])))
 rw [hτ2] at R2
 have l2:τ.length≤τ2.length:=by rw [← hτ2,List.length_set];exact l1
 have f2:∀ j,j < τ.length→j≠id→τ2[j]?=τ[j]?:=fun j h1 h2=>by rw [← hτ2,List.getElem?_set_ne (Ne.symm h2)];exact f1 j h1 h2
 obtain ⟨bn,hbn⟩:=gn ((bad||decide (n < 0)))
 rw [hbn] at hτ2
 have hsp:∀ x:RankD,PD.strip (Em.rank.emb x)=Em.rank.emb x:=fun x=>Em.rank.str x
 have hns:=ns_rank
 obtain ⟨fin,hfin⟩:=gn (dLoop dRank N s2)
 rw [hfin] at hd
 unfold RdQ
 rw [hd]
 clear hd
 simp only [lstA]
 apply WpC.bodyL h0 Tryz.func72 rfl
 focus (simp [show Tryz.f72.ntmps=_ from rfl,List.replicate];rfl)
 have hc3:bad=true∨(bad=false∧n < 0)∨(bad=false∧¬ n < 0):=by
  cases bad
  ·exact .inr (by by_cases c:n < 0;exact .inl ⟨rfl,c⟩;exact .inr ⟨rfl,c⟩)
  ·exact .inl rfl
 have hL0:s2.inp.length≤s.inp.length:=by rw [hi2];exact hln
 clear hr hi2 hs2 hln hz hxs0
 rcases hc3 with rfl | ⟨rfl,c2⟩ | ⟨rfl,c2⟩
 rw [show bn=true by rw [← hbn];simp] at hτ2
 have gx:=An @h1 (An @k1 (An @hb (An @hg (@hτ2))))
 refine goA ?_
 clear gx
 rotate_left
 rw [show bn=true by rw [← hbn];simp [c2]] at hτ2
 have gx:=An @h1 (An @k1 (An @hb (An @hg (An @hτ2 (@c2)))))
 refine goA ?_
 clear gx
 rotate_left
 rw [show bn=false by rw [← hbn];simp [c2]] at hτ2
 have gx:=An @h1 (An @k1 (An @hb (An @hg (An @hτ2 (@c2)))))
 refine goA ?_
 clear gx
 all_goals (
 clear hb hg hτ2 hbn k1 f1 l1
 refine Wp.loopI (fun m fr σ=>∃ (i:Nat) (xs:List RankD) (tok:Tok) (st:BSt) (σ1:List SObj),∃ gg:Nat→PD,(i+m=N∧xs.length=i∧Rdr σ1 id st∧RowAt σ1 tok 66 6 i∧(∀ q,tok=.own q→τ.length≤q)∧τ.length≤σ1.length∧(∀ j,j < τ.length→j≠id→σ1[j]?=τ[j]?)∧8*i≤s.inp.length+8∧(st.bad=false→st.inp.length+8*i≤s.inp.length)∧st.inp.length≤s.inp.length∧fin=(xs++(dLoop dRank (N - i) st).1,(dLoop dRank (N - i) st).2))∧fr=[.ptr id 0,.mfunc 73 [.ptr id 0],gg 2,gg 3,gg 4,.int .i64 n,.slice (sz 6 xs) (xs.map Em.rank.emb) tok,.int .i64 i,gg 8,gg 9,gg 10,gg 11,gg 12,gg 13,gg 14,gg 15,gg 16,gg 17,gg 18,gg 19,gg 20,gg 21,gg 22,gg 23,gg 24,gg 25,gg 26,gg 27,gg 28,gg 29,gg 30,gg 31,gg 32,gg 33,gg 34,gg 35,gg 36,gg 37,gg 38]∧σ=σ1) ?_ (N) (by refine ⟨0,[],.full,s2,τ2,?_⟩;exact exF (⟨by omega,rfl,R2,.inl ⟨rfl,rfl⟩,(fun q h=>by cases h),l2,f2,by omega,(fun _=>by omega),hL0,(by rw [Nat.sub_zero,hfin];rfl)⟩) (by (first | rfl | (simp [];repeat (first | rfl | (apply And.intro))) | (simp [];done))) (by (first | rfl | (simp [];repeat (first | rfl | (apply And.intro))) | (simp [];done))))
 rintro m fr σ ⟨i,xs,tok,st,σ1,gg,hI,rfl,rfl⟩
 obtain ⟨hm,hxl,hR,hrow,hown,hlo,hfr,hb8,hbd,hLe,hfi⟩:=hI
 obtain ⟨z,hz,hb⟩:=hR
 obtain ⟨hlt,hg⟩:=List.getElem?_eq_some_iff.1 hb
 by_cases hi:i < N
 ·have q1:(i:Int) < n:=by omega
  cases hst:st.bad with
  | true=>
    rw [hst] at hb hg
    have hR0:Rdr σ id st:=⟨z,hz,by rw [hst];exact hb⟩
    rw [dLoop_bad _ _ hst,List.append_nil] at hfi
    obtain ⟨ys,hys⟩:=gn (u8s st.inp)
    rw [hys] at hb hg
    have hfs:=strip_sl2 Em.rank 6 (sz 6 xs) xs (by unfold sz;by_cases h:xs=[];exact .inl h;exact .inr (if_neg (fun e=>h (List.eq_nil_of_length_eq_zero e)))) tok
    have gx:=An @q1 (An @hb (@hg))
    refine goA ?_
    clear gx
    exact ⟨_,_,rfl,by rw [hfi];exact hfs,by rw [hfi];exact hR0,hlo,hfr⟩
  | false=>
    rw [hst] at hb hg
    have hR0:Rdr σ id st:=⟨z,hz,by rw [hst];exact hb⟩
    obtain ⟨σ7,k7,R7,l7,f7⟩:=H2.at hR0 (by omega)
    have hu:=rt_rank.use st
    have hle2:=rt_rank.len st
    have hdl:dLoop dRank (N - i) st=((dRank st).1::(dLoop dRank (N - (i+1)) (dRank st).2).1,(dLoop dRank (N - (i+1)) (dRank st).2).2):=by
     rw [show N - i=(N - (i+1))+1 by omega]
     simp [dLoop,hst]
    rw [hdl] at hfi
    obtain ⟨x,hx⟩:=gn ((dRank st).1)
    obtain ⟨st2,hst2⟩:=gn ((dRank st).2)
    rw [hx] at k7 hfi
    rw [hst2] at R7 hfi hu hle2
    have hs1:=hsp x
    have hn1:pnewSlice Tryz.prog 32 1 (List.map (fun q=>(q.1,q.2.strip)) [((0:Nat),Em.rank.emb x)])=some (.slice 6 [Em.rank.emb x] .full):=by
     simp only [List.map_cons,List.map_nil,hs1]
     exact hns x
    have hmap:(xs++[x]).map Em.rank.emb=xs.map Em.rank.emb++[Em.rank.emb x]:=by simp
    obtain ⟨ex,hex⟩:=gn (Em.rank.emb x)
    rw [hex] at k7 hs1 hn1 hmap
    simp only [ptrA] at k7
    have hr7:RowAt σ7 tok 66 6 (xs.map Em.rank.emb).length:=by
     rw [List.length_map,hxl]
     exact hrow.keep fun q o e h=>by
      rw [f7 q (List.getElem?_eq_some_iff.1 h).1 (by have:=hown q e;omega)]
      exact h
    obtain ⟨tok',σ8,ap,ra,kp,ow⟩:=pappend_row (P:=Tryz.prog) (t:=32) (e:=66) (k:=6) (b:=80) (s:=sz 6 xs) (p:=ex) (tk:=.any) Tryz.underlying32 (by kernel_rfl) (by unfold sz;by_cases h:xs=[];exact .inl (by rw [h];rfl);exact .inr (if_neg (fun e=>h (List.eq_nil_of_length_eq_zero e)))) hr7 (by rw [List.length_map];omega) (by rw [List.length_map];omega)
    obtain ⟨ys,hys⟩:=gn (u8s st.inp)
    rw [hys] at hb hg
    have hsz:sz 6 (xs++[x])=6:=sz_ne (by simp)
    have hlt7:σ7.length≤σ8.length:=by
     rcases Nat.lt_or_ge σ8.length σ7.length with h | h
     ·exfalso
      obtain ⟨o,ho⟩:∃ o,σ7[σ7.length - 1]?=some o:=⟨_,List.getElem?_eq_getElem (by omega)⟩
      by_cases e:tok=.own (σ7.length - 1)
      ·rcases ra with ⟨h1,_⟩ | ⟨_,q,h1,h2⟩
       ·omega
       ·have h3:=(List.getElem?_eq_some_iff.1 h2).1
        rcases ow q h1 with h4 | h4
        ·rw [e] at h4;cases h4;omega
        ·omega
      ·have h3:=(List.getElem?_eq_some_iff.1 (kp _ _ e ho)).1
       omega
     ·exact h
    have hkeep8:∀ j,j < σ7.length→tok≠.own j→σ8[j]?=σ7[j]?:=fun j h1 h2=>by rw [kp j _ h2 (List.getElem?_eq_getElem h1),List.getElem?_eq_getElem h1]
    have hid7:tok≠.own id:=fun e=>by
     have:=hown id e
     omega
    have hlow:∀ j,j < τ.length→tok≠.own j:=fun j hj e=>by
     have:=hown j e
     omega
    have hown2:∀ q,tok'=.own q→τ.length≤q:=fun q e=>by
     rcases ow q e with h | h
     ·exact hown q h
     ·omega
    have hR2:Rdr σ8 id st2:=R7.keep (hkeep8 id R7.lt hid7)
    have hra2:RowAt σ8 tok' 66 6 (i+1):=by rw [List.length_map,hxl] at ra;exact ra
    have hfr2:∀ j,j < τ.length→j≠id→σ8[j]?=τ[j]?:=fun j h1 h2=>by rw [hkeep8 j (by omega) (hlow j h1),f7 j (by omega) h2];exact hfr j h1 h2
    have hb82:8*(i+1)≤s.inp.length+8:=by have:=hbd hst;omega
    have hbd2:st2.bad=false→st2.inp.length+8*(i+1)≤s.inp.length:=fun h=>by have:=hu h;have:=hbd hst;omega
    have hfi2:fin=((xs++[x])++(dLoop dRank (N - (i+1)) st2).1,(dLoop dRank (N - (i+1)) st2).2):=by rw [hfi];simp
    have gx:=An @q1 (An @hb (@hg))
    refine goA ?_
    clear gx
    first | refine Wp.seq ?_ | skip
    apply Wp.regionS
    repeat (first
     | (refine By.i ?_;(focus assumption)) | (refine Fr.i ?_;simp only [pput,List.set_cons_zero,List.set_cons_succ];try rfl)
     | (refine By.i ?_;(focus (simp (disch:=first | omega | (simp;done) | (simp;omega)) [wrap_i64,wrap_u64,h2,k7,hs1,ap];first | done | rfl | exact ⟨rfl,rfl⟩)))
     | (refine By.i ?_;simp (disch:=first | omega | (simp;done) | (simp;omega)) [wrap_i64,wrap_u64,h2,k7,hs1,ap];refine ⟨(by (try simp only [List.length_append,List.length_cons,List.length_nil,maxLen]);omega),rfl⟩)
     | (refine Wt.i ?_;first | rfl | (focus (simp [h2,k7,hs1,ap];done)))
     | (refine Ns.i ?_;(try simp only [List.append_nil,List.nil_append,List.cons_append,List.append_assoc,List.length_append,List.length_cons,List.length_nil,Nat.zero_add,Nat.reduceAdd]);rfl) | rfl
     | (apply SL.pass;(focus (refine Wt.i ?_;rfl))) | (apply SL.mcall;rotate_left;(focus rfl);rotate_right) | (apply SL.convertR;(focus rfl)) | apply SL.move | apply SL.assign | apply SL.load | apply SL.isnilE | apply SL.isnilN
     | apply SL.make | apply SL.binOp | apply SL.append | apply SL.copy | apply SL.builtin | apply SL.fieldAddr | apply SL.indexAddr | apply SL.field | apply SL.extract | apply SL.fcall | apply SL.pick | apply SL.store | apply SL.unOp
     | apply SL.convert | apply SL.index | apply SL.slice | apply SL.build | apply SL.nilCheck | apply SL.buildSlice | apply SL.box | apply SL.alloc | apply SL.makeFunc)
    apply SQ.nil
    have gx:=An @q1 (An @hb (@hg))
    refine goA ?_
    clear gx
    refine LoopI.normal (m - 1) (by omega) (by refine ⟨i+1,xs++[x],tok',st2,σ8,?_⟩;exact exF (⟨by omega,by simp [hxl],hR2,hra2,hown2,by omega,hfr2,hb82,hbd2,by omega,hfi2⟩) (by (first | rfl | (simp [hmap,hsz];repeat (first | rfl | (apply And.intro))) | (simp [hmap,hsz];done))) (by (first | rfl | (simp [hmap,hsz];repeat (first | rfl | (apply And.intro))) | (simp [hmap,hsz];done))))
 ·have q1:¬ (i:Int) < n:=by omega
  have hR0:Rdr σ id st:=⟨z,hz,hb⟩
  rw [show N - i=0 by omega] at hfi
  simp only [dLoop,List.append_nil] at hfi
  have hfs:=strip_sl2 Em.rank 6 (sz 6 xs) xs (by unfold sz;by_cases h:xs=[];exact .inl h;exact .inr (if_neg (fun e=>h (List.eq_nil_of_length_eq_zero e)))) tok
  have gx:=@q1
  refine goA ?_
  clear gx
  exact ⟨_,_,rfl,by rw [hfi];exact hfs,by rw [hfi];exact hR0,hlo,hfr⟩)
end Go.Kz

namespace Go.Kz
open Go Go.Proofs
set_option maxRecDepth 100000
set_option maxHeartbeats 40000000
variable {E E1 E2 E3 E4:PExt} (hU:Uni E)
include hU
theorem w_rank (h0:E 73=none) (h1:E 71=some (gEf Tryz.prog E1 71)) (H1:Reads E1 71 dText PD.str) (h2:E 101=some (gEf Tryz.prog E2 101)) (H2:Reads E2 101 dFeet Em.fra.emb) (h3:E 100=some (gEf Tryz.prog E3 100)) (H3:Reads E3 100 dNum i64.emb) (h4:E 102=some (gEf Tryz.prog E4 102)) (H4:ReadsA E4 102 (lstA 100) (dList dNum) i64s.emb):Reads E 73 dRank Em.rank.emb:=by
 intro τ id s hr hl
 have hid:=hr.lt
 have K0:Kp τ (τ++[.box (.agg [.str [],.str [],.int .i64 0,.int .i64 0,.int .i64 0,.slice 0 [] .full])]) id τ.length (.agg [.str [],.str [],.int .i64 0,.int .i64 0,.int .i64 0,.slice 0 [] .full]):=Kp.new
 have R0:Rdr (τ++[.box (.agg [.str [],.str [],.int .i64 0,.int .i64 0,.int .i64 0,.slice 0 [] .full])]) id s:=hr.more
 obtain ⟨w0,z0⟩:=K0.at
 obtain ⟨σ1,k1,K1,R1⟩:=H1.next K0 R0 (by omega) hid
 have l1:=rt_text.len s
 obtain ⟨a1,ea1⟩:=gn ((dText s).1)
 obtain ⟨s1,es1⟩:=gn ((dText s).2)
 rw [ea1] at k1
 rw [es1] at R1 l1
 have K1':=K1.set (.agg [.str a1,.str [],.int .i64 0,.int .i64 0,.int .i64 0,.slice 0 [] .full])
 have R1':=R1.setB (Y:=.box (.agg [.str a1,.str [],.int .i64 0,.int .i64 0,.int .i64 0,.slice 0 [] .full])) hid
 obtain ⟨w1,z1⟩:=K1.at
 obtain ⟨w1',z1'⟩:=K1'.at
 have b1:=K1.bx
 have b1':=K1'.bx
 replace k1:=k1.trans (show _=some (.str a1,σ1) from rfl)
 obtain ⟨σ2,k2,K2,R2⟩:=H1.next K1' R1' (by omega) hid
 have l2:=rt_text.len s1
 obtain ⟨a2,ea2⟩:=gn ((dText s1).1)
 obtain ⟨s2,es2⟩:=gn ((dText s1).2)
 rw [ea2] at k2
 rw [es2] at R2 l2
 have K2':=K2.set (.agg [.str a1,.str a2,.int .i64 0,.int .i64 0,.int .i64 0,.slice 0 [] .full])
 have R2':=R2.setB (Y:=.box (.agg [.str a1,.str a2,.int .i64 0,.int .i64 0,.int .i64 0,.slice 0 [] .full])) hid
 obtain ⟨w2,z2⟩:=K2.at
 obtain ⟨w2',z2'⟩:=K2'.at
 have b2:=K2.bx
 have b2':=K2'.bx
 replace k2:=k2.trans (show _=some (.str a2,σ2) from rfl)
 obtain ⟨σ3,k3,K3,R3⟩:=H2.next K2' R2' (by omega) hid
 have l3:=rt_feet.len s2
 obtain ⟨a3,ea3⟩:=gn ((dFeet s2).1)
 obtain ⟨s3,es3⟩:=gn ((dFeet s2).2)
 rw [ea3] at k3
 rw [es3] at R3 l3
 have K3':=K3.set (.agg [.str a1,.str a2,.int .i64 a3.1,.int .i64 a3.2,.int .i64 0,.slice 0 [] .full])
 have R3':=R3.setB (Y:=.box (.agg [.str a1,.str a2,.int .i64 a3.1,.int .i64 a3.2,.int .i64 0,.slice 0 [] .full])) hid
 obtain ⟨w3,z3⟩:=K3.at
 obtain ⟨w3',z3'⟩:=K3'.at
 have b3:=K3.bx
 have b3':=K3'.bx
 replace k3:=k3.trans (show _=some (.agg [.int .i64 a3.1,.int .i64 a3.2],σ3) from rfl)
 obtain ⟨σ4,k4,K4,R4⟩:=H3.next K3' R3' (by omega) hid
 have l4:=rt_num.len s3
 obtain ⟨a4,ea4⟩:=gn ((dNum s3).1)
 obtain ⟨s4,es4⟩:=gn ((dNum s3).2)
 rw [ea4] at k4
 rw [es4] at R4 l4
 have K4':=K4.set (.agg [.str a1,.str a2,.int .i64 a3.1,.int .i64 a3.2,.int .i64 a4,.slice 0 [] .full])
 have R4':=R4.setB (Y:=.box (.agg [.str a1,.str a2,.int .i64 a3.1,.int .i64 a3.2,.int .i64 a4,.slice 0 [] .full])) hid
 obtain ⟨w4,z4⟩:=K4.at
 obtain ⟨w4',z4'⟩:=K4'.at
 have b4:=K4.bx
 have b4':=K4'.bx
 replace k4:=k4.trans (show _=some (.int .i64 a4,σ4) from rfl)
 obtain ⟨σ5,k5,K5,R5⟩:=H4.next K4' R4' (by omega) hid
 have l5:=rt_num.list.len s4
 obtain ⟨a5,ea5⟩:=gn (((dList dNum) s4).1)
 obtain ⟨s5,es5⟩:=gn (((dList dNum) s4).2)
 rw [ea5] at k5
 rw [es5] at R5 l5
 obtain ⟨p5,ep5⟩:=gn (i64s.emb a5)
 rw [ep5] at k5
 have sp5:PD.strip p5=p5:=by rw [← ep5];exact i64s.str a5
 have pp5:PD.plain p5=true:=by rw [← ep5];rfl
 have cp5:PD.cells p5=[p5]:=by rw [← ep5];rfl
 unfold PD.plain at pp5
 unfold PD.cells at cp5
 have K5':=K5.set (.agg [.str a1,.str a2,.int .i64 a3.1,.int .i64 a3.2,.int .i64 a4,p5])
 have R5':=R5.setB (Y:=.box (.agg [.str a1,.str a2,.int .i64 a3.1,.int .i64 a3.2,.int .i64 a4,p5])) hid
 obtain ⟨w5,z5⟩:=K5.at
 obtain ⟨w5',z5'⟩:=K5'.at
 have b5:=K5.bx
 have b5':=K5'.bx
 replace k5:=k5.trans (show _=some (p5,σ5) from rfl)
 have e:dRank s=(⟨a1,a2,a3.1,a3.2,a4,a5⟩,s5):=by
  unfold dRank
  simp only [ea1,es1,ea2,es2,ea3,es3,ea4,es4,ea5,es5]
 simp only [ptrA,lstA] at k1 k2 k3 k4 k5
 apply WpC.bodyL h0 Tryz.func73 rfl
 focus (simp [show Tryz.f73.ntmps=_ from rfl,List.replicate];rfl)
 have gx:=An @h1 (An @h2 (An @h3 (An @h4 (An @k1 (An @w1 (An @z1 (An @w1' (An @z1' (An @b1 (An @b1' (An @k2 (An @w2 (An @z2 (An @w2' (An @z2' (An @b2 (An @b2' (An @k3 (An @w3 (An @z3 (An @w3' (An @z3' (An @b3 (An @b3' (An @k4 (An @w4 (An @z4 (An @w4' (An @z4' (An @b4 (An @b4' (An @pp5 (An @cp5 (An @k5 (An @w5 (An @z5 (An @w5' (An @z5' (An @b5 (@b5'))))))))))))))))))))))))))))))))))))))))
 refine goA ?_
 clear gx
 have KK:=(K5').set (.agg [.str a1,.str a2,.int .i64 a3.1,.int .i64 a3.2,.int .i64 a4,p5])
 have RR:=R5'.setB (Y:=.box (.agg [.str a1,.str a2,.int .i64 a3.1,.int .i64 a3.2,.int .i64 a4,p5])) hid
 rw [List.set_set] at KK RR
 refine ⟨.agg [.str a1,.str a2,.int .i64 a3.1,.int .i64 a3.2,.int .i64 a4,p5],σ5.set τ.length (.box (.agg [.str a1,.str a2,.int .i64 a3.1,.int .i64 a3.2,.int .i64 a4,p5])),by simp [pfinish,w5],?_⟩
 unfold RdQ
 rw [e]
 refine ⟨?_,RR,Nat.le_of_lt KK.lt,fun j h1 h2=>KK.fr j h1 h2⟩
 simp only [PD.strip,PD.stripL,sp5]
 rw [← ep5]
 rfl
end Go.Kz

namespace Go.Kz
open Go Go.Proofs
set_option maxRecDepth 100000
set_option maxHeartbeats 40000000
variable {E E1:PExt} (hU:Uni E)
include hU
theorem w_draw (h0:E 175=none) (h1:E 100=some (gEf Tryz.prog E1 100)) (H1:Reads E1 100 dNum i64.emb):Reads E 175 dDraw Em.draw.emb:=by
 intro τ id s hr hl
 have hid:=hr.lt
 have K0:Kp τ (τ++[.box (.agg [.int .i64 0,.int .i64 0])]) id τ.length (.agg [.int .i64 0,.int .i64 0]):=Kp.new
 have R0:Rdr (τ++[.box (.agg [.int .i64 0,.int .i64 0])]) id s:=hr.more
 obtain ⟨w0,z0⟩:=K0.at
 obtain ⟨σ1,k1,K1,R1⟩:=H1.next K0 R0 (by omega) hid
 have l1:=rt_num.len s
 obtain ⟨a1,ea1⟩:=gn ((dNum s).1)
 obtain ⟨s1,es1⟩:=gn ((dNum s).2)
 rw [ea1] at k1
 rw [es1] at R1 l1
 have K1':=K1.set (.agg [.int .i64 a1,.int .i64 0])
 have R1':=R1.setB (Y:=.box (.agg [.int .i64 a1,.int .i64 0])) hid
 obtain ⟨w1,z1⟩:=K1.at
 obtain ⟨w1',z1'⟩:=K1'.at
 have b1:=K1.bx
 have b1':=K1'.bx
 replace k1:=k1.trans (show _=some (.int .i64 a1,σ1) from rfl)
 obtain ⟨σ2,k2,K2,R2⟩:=H1.next K1' R1' (by omega) hid
 have l2:=rt_num.len s1
 obtain ⟨a2,ea2⟩:=gn ((dNum s1).1)
 obtain ⟨s2,es2⟩:=gn ((dNum s1).2)
 rw [ea2] at k2
 rw [es2] at R2 l2
 have K2':=K2.set (.agg [.int .i64 a1,.int .i64 a2])
 have R2':=R2.setB (Y:=.box (.agg [.int .i64 a1,.int .i64 a2])) hid
 obtain ⟨w2,z2⟩:=K2.at
 obtain ⟨w2',z2'⟩:=K2'.at
 have b2:=K2.bx
 have b2':=K2'.bx
 replace k2:=k2.trans (show _=some (.int .i64 a2,σ2) from rfl)
 have e:dDraw s=(⟨a1,a2⟩,s2):=by
  unfold dDraw
  simp only [ea1,es1,ea2,es2]
 simp only [ptrA,lstA] at k1 k2
 apply WpC.bodyL h0 Tryz.func175 rfl
 focus (simp [show Tryz.f175.ntmps=_ from rfl,List.replicate];rfl)
 have gx:=An @h1 (An @k1 (An @w1 (An @z1 (An @w1' (An @z1' (An @b1 (An @b1' (An @k2 (An @w2 (An @z2 (An @w2' (An @z2' (An @b2 (@b2'))))))))))))))
 refine goA ?_
 clear gx
 have KK:=(K2').set (.agg [.int .i64 a1,.int .i64 a2])
 have RR:=R2'.setB (Y:=.box (.agg [.int .i64 a1,.int .i64 a2])) hid
 rw [List.set_set] at KK RR
 refine ⟨.agg [.int .i64 a1,.int .i64 a2],σ2.set τ.length (.box (.agg [.int .i64 a1,.int .i64 a2])),by simp [pfinish,w2],?_⟩
 unfold RdQ
 rw [e]
 refine ⟨?_,RR,Nat.le_of_lt KK.lt,fun j h1 h2=>KK.fr j h1 h2⟩
 simp only [PD.strip,PD.stripL]
 rfl
end Go.Kz

namespace Go.Kz
open Go Go.Proofs
set_option maxRecDepth 100000
set_option maxHeartbeats 40000000
theorem ns_draw (x:DrawD):pnewSlice Tryz.prog 110 1 [(0,Em.draw.emb x)]=some (.slice 2 [Em.draw.emb x] .full):=by
 kernel_rfl
variable {E E1 E2:PExt} (hU:Uni E)
include hU
theorem w_list_draw (h0:E 174=none) (h1:E 100=some (gEf Tryz.prog E1 100)) (H1:Reads E1 100 dNum i64.emb) (h2:E 175=some (gEf Tryz.prog E2 175)) (H2:Reads E2 175 dDraw Em.draw.emb):ReadsA E 174 (lstA 175) (dList dDraw) drawsE.emb:=by
 intro τ id s hr hl
 have hid:=hr.lt
 obtain ⟨τ1,k1,r1,l1,f1⟩:=H1.at hr hl
 have hd:dList dDraw s=dLoop dDraw (dNum s).1.toNat ⟨(dNum s).2.inp,(dNum s).2.bad||decide ((dNum s).1 < 0)⟩:=rfl
 have hln:=rt_num.len s
 obtain ⟨n,hn⟩:=gn ((dNum s).1)
 obtain ⟨s1,hs1⟩:=gn ((dNum s).2)
 rw [hn] at k1 hd
 rw [hs1] at r1 hd hln
 replace k1:=k1.trans (show _=some (.int .i64 n,τ1) from rfl)
 simp only [ptrA] at k1
 obtain ⟨inp,bad⟩:=s1
 obtain ⟨z,hz,hb⟩:=r1
 simp only at hz hb hd hln
 obtain ⟨hlt,hg⟩:=List.getElem?_eq_some_iff.1 hb
 obtain ⟨N,hN⟩:=gn (n.toNat)
 rw [hN] at hd
 have R2:=Rdr.put (bad:=bad||decide (n < 0)) hlt inp hz
 obtain ⟨s2,hs2⟩:=gn (BSt.mk inp (bad||decide (n < 0)))
 rw [hs2] at R2 hd
 have hi2:s2.inp=inp:=by rw [← hs2]
 obtain ⟨xs0,hxs0⟩:=gn (u8s inp)
 rw [hxs0] at hb hg R2
 obtain ⟨τ2,hτ2⟩:=gn (τ1.set id (.box (.agg [.slice z xs0 .any,.bool (bad||decide (n < 0))])))
 rw [hτ2] at R2
 have l2:τ.length≤τ2.length:=by rw [← hτ2,List.length_set];exact l1
 have f2:∀ j,j < τ.length→j≠id→τ2[j]?=τ[j]?:=fun j h1 h2=>by rw [← hτ2,List.getElem?_set_ne (Ne.symm h2)];exact f1 j h1 h2
 obtain ⟨bn,hbn⟩:=gn ((bad||decide (n < 0)))
 rw [hbn] at hτ2
 have hsp:∀ x:DrawD,PD.strip (Em.draw.emb x)=Em.draw.emb x:=fun x=>Em.draw.str x
 have hns:=ns_draw
 obtain ⟨fin,hfin⟩:=gn (dLoop dDraw N s2)
 rw [hfin] at hd
 unfold RdQ
 rw [hd]
 clear hd
 simp only [lstA]
 apply WpC.bodyL h0 Tryz.func174 rfl
 focus (simp [show Tryz.f174.ntmps=_ from rfl,List.replicate];rfl)
 have hc3:bad=true∨(bad=false∧n < 0)∨(bad=false∧¬ n < 0):=by
  cases bad
  ·exact .inr (by by_cases c:n < 0;exact .inl ⟨rfl,c⟩;exact .inr ⟨rfl,c⟩)
  ·exact .inl rfl
 have hL0:s2.inp.length≤s.inp.length:=by rw [hi2];exact hln
 clear hr hi2 hs2 hln hz hxs0
 rcases hc3 with rfl | ⟨rfl,c2⟩ | ⟨rfl,c2⟩
 rw [show bn=true by rw [← hbn];simp] at hτ2
 have gx:=An @h1 (An @k1 (An @hb (An @hg (@hτ2))))
 refine goA ?_
 clear gx
 rotate_left
 rw [show bn=true by rw [← hbn];simp [c2]] at hτ2
 have gx:=An @h1 (An @k1 (An @hb (An @hg (An @hτ2 (@c2)))))
 refine goA ?_
 clear gx
 rotate_left
 rw [show bn=false by rw [← hbn];simp [c2]] at hτ2
 have gx:=An @h1 (An @k1 (An @hb (An @hg (An @hτ2 (@c2)))))
 refine goA ?_
 clear gx
 all_goals (
 clear hb hg hτ2 hbn k1 f1 l1
 refine Wp.loopI (fun m fr σ=>∃ (i:Nat) (xs:List DrawD) (tok:Tok) (st:BSt) (σ1:List SObj),∃ gg:Nat→PD,(i+m=N∧xs.length=i∧Rdr σ1 id st∧RowAt σ1 tok 115 2 i∧(∀ q,tok=.own q→τ.length≤q)∧τ.length≤σ1.length∧(∀ j,j < τ.length→j≠id→σ1[j]?=τ[j]?)∧8*i≤s.inp.length+8∧(st.bad=false→st.inp.length+8*i≤s.inp.length)∧st.inp.length≤s.inp.length∧fin=(xs++(dLoop dDraw (N - i) st).1,(dLoop dDraw (N - i) st).2))∧fr=[.ptr id 0,.mfunc 175 [.ptr id 0],gg 2,gg 3,gg 4,.int .i64 n,.slice (sz 2 xs) (xs.map Em.draw.emb) tok,.int .i64 i,gg 8,gg 9,gg 10,gg 11,gg 12,gg 13,gg 14,gg 15,gg 16,gg 17,gg 18,gg 19,gg 20,gg 21,gg 22,gg 23,gg 24,gg 25,gg 26,gg 27,gg 28,gg 29,gg 30,gg 31,gg 32,gg 33,gg 34,gg 35,gg 36,gg 37,gg 38]∧σ=σ1) ?_ (N) (by refine ⟨0,[],.full,s2,τ2,?_⟩;exact exF (⟨by omega,rfl,R2,.inl ⟨rfl,rfl⟩,(fun q h=>by cases h),l2,f2,by omega,(fun _=>by omega),hL0,(by rw [Nat.sub_zero,hfin];rfl)⟩) (by (first | rfl | (simp [];repeat (first | rfl | (apply And.intro))) | (simp [];done))) (by (first | rfl | (simp [];repeat (first | rfl | (apply And.intro))) | (simp [];done))))
 rintro m fr σ ⟨i,xs,tok,st,σ1,gg,hI,rfl,rfl⟩
 obtain ⟨hm,hxl,hR,hrow,hown,hlo,hfr,hb8,hbd,hLe,hfi⟩:=hI
 obtain ⟨z,hz,hb⟩:=hR
 obtain ⟨hlt,hg⟩:=List.getElem?_eq_some_iff.1 hb
 by_cases hi:i < N
 ·have q1:(i:Int) < n:=by omega
  cases hst:st.bad with
  | true=>
    rw [hst] at hb hg
    have hR0:Rdr σ id st:=⟨z,hz,by rw [hst];exact hb⟩
    rw [dLoop_bad _ _ hst,List.append_nil] at hfi
    obtain ⟨ys,hys⟩:=gn (u8s st.inp)
    rw [hys] at hb hg
    have hfs:=strip_sl2 Em.draw 2 (sz 2 xs) xs (by unfold sz;by_cases h:xs=[];exact .inl h;exact .inr (if_neg (fun e=>h (List.eq_nil_of_length_eq_zero e)))) tok
    have gx:=An @q1 (An @hb (@hg))
    refine goA ?_
    clear gx
    exact ⟨_,_,rfl,by rw [hfi];exact hfs,by rw [hfi];exact hR0,hlo,hfr⟩
  | false=>
    rw [hst] at hb hg
    have hR0:Rdr σ id st:=⟨z,hz,by rw [hst];exact hb⟩
    obtain ⟨σ7,k7,R7,l7,f7⟩:=H2.at hR0 (by omega)
    have hu:=rt_draw.use st
    have hle2:=rt_draw.len st
    have hdl:dLoop dDraw (N - i) st=((dDraw st).1::(dLoop dDraw (N - (i+1)) (dDraw st).2).1,(dLoop dDraw (N - (i+1)) (dDraw st).2).2):=by
     rw [show N - i=(N - (i+1))+1 by omega]
     simp [dLoop,hst]
    rw [hdl] at hfi
    obtain ⟨x,hx⟩:=gn ((dDraw st).1)
    obtain ⟨st2,hst2⟩:=gn ((dDraw st).2)
    rw [hx] at k7 hfi
    rw [hst2] at R7 hfi hu hle2
    have hs1:=hsp x
    have hn1:pnewSlice Tryz.prog 110 1 (List.map (fun q=>(q.1,q.2.strip)) [((0:Nat),Em.draw.emb x)])=some (.slice 2 [Em.draw.emb x] .full):=by
     simp only [List.map_cons,List.map_nil,hs1]
     exact hns x
    have hmap:(xs++[x]).map Em.draw.emb=xs.map Em.draw.emb++[Em.draw.emb x]:=by simp
    obtain ⟨ex,hex⟩:=gn (Em.draw.emb x)
    rw [hex] at k7 hs1 hn1 hmap
    simp only [ptrA] at k7
    have hr7:RowAt σ7 tok 115 2 (xs.map Em.draw.emb).length:=by
     rw [List.length_map,hxl]
     exact hrow.keep fun q o e h=>by
      rw [f7 q (List.getElem?_eq_some_iff.1 h).1 (by have:=hown q e;omega)]
      exact h
    obtain ⟨tok',σ8,ap,ra,kp,ow⟩:=pappend_row (P:=Tryz.prog) (t:=110) (e:=115) (k:=2) (b:=16) (s:=sz 2 xs) (p:=ex) (tk:=.any) Tryz.underlying110 (by kernel_rfl) (by unfold sz;by_cases h:xs=[];exact .inl (by rw [h];rfl);exact .inr (if_neg (fun e=>h (List.eq_nil_of_length_eq_zero e)))) hr7 (by rw [List.length_map];omega) (by rw [List.length_map];omega)
    obtain ⟨ys,hys⟩:=gn (u8s st.inp)
    rw [hys] at hb hg
    have hsz:sz 2 (xs++[x])=2:=sz_ne (by simp)
    have hlt7:σ7.length≤σ8.length:=by
     rcases Nat.lt_or_ge σ8.length σ7.length with h | h
     ·exfalso
      obtain ⟨o,ho⟩:∃ o,σ7[σ7.length - 1]?=some o:=⟨_,List.getElem?_eq_getElem (by omega)⟩
      by_cases e:tok=.own (σ7.length - 1)
      ·rcases ra with ⟨h1,_⟩ | ⟨_,q,h1,h2⟩
       ·omega
       ·have h3:=(List.getElem?_eq_some_iff.1 h2).1
        rcases ow q h1 with h4 | h4
        ·rw [e] at h4;cases h4;omega
        ·omega
      ·have h3:=(List.getElem?_eq_some_iff.1 (kp _ _ e ho)).1
       omega
     ·exact h
    have hkeep8:∀ j,j < σ7.length→tok≠.own j→σ8[j]?=σ7[j]?:=fun j h1 h2=>by rw [kp j _ h2 (List.getElem?_eq_getElem h1),List.getElem?_eq_getElem h1]
    have hid7:tok≠.own id:=fun e=>by
     have:=hown id e
     omega
    have hlow:∀ j,j < τ.length→tok≠.own j:=fun j hj e=>by
     have:=hown j e
     omega
    have hown2:∀ q,tok'=.own q→τ.length≤q:=fun q e=>by
     rcases ow q e with h | h
     ·exact hown q h
     ·omega
    have hR2:Rdr σ8 id st2:=R7.keep (hkeep8 id R7.lt hid7)
    have hra2:RowAt σ8 tok' 115 2 (i+1):=by rw [List.length_map,hxl] at ra;exact ra
    have hfr2:∀ j,j < τ.length→j≠id→σ8[j]?=τ[j]?:=fun j h1 h2=>by rw [hkeep8 j (by omega) (hlow j h1),f7 j (by omega) h2];exact hfr j h1 h2
    have hb82:8*(i+1)≤s.inp.length+8:=by have:=hbd hst;omega
    have hbd2:st2.bad=false→st2.inp.length+8*(i+1)≤s.inp.length:=fun h=>by have:=hu h;have:=hbd hst;omega
    have hfi2:fin=((xs++[x])++(dLoop dDraw (N - (i+1)) st2).1,(dLoop dDraw (N - (i+1)) st2).2):=by rw [hfi];simp
    have gx:=An @q1 (An @hb (@hg))
    refine goA ?_
    clear gx
    first | refine Wp.seq ?_ | skip
    apply Wp.regionS
    repeat (first
     | (refine By.i ?_;(focus assumption)) | (refine Fr.i ?_;simp only [pput,List.set_cons_zero,List.set_cons_succ];try rfl)
     | (refine By.i ?_;(focus (simp (disch:=first | omega | (simp;done) | (simp;omega)) [wrap_i64,wrap_u64,h2,k7,hs1,ap];first | done | rfl | exact ⟨rfl,rfl⟩)))
     | (refine By.i ?_;simp (disch:=first | omega | (simp;done) | (simp;omega)) [wrap_i64,wrap_u64,h2,k7,hs1,ap];refine ⟨(by (try simp only [List.length_append,List.length_cons,List.length_nil,maxLen]);omega),rfl⟩)
     | (refine Wt.i ?_;first | rfl | (focus (simp [h2,k7,hs1,ap];done)))
     | (refine Ns.i ?_;(try simp only [List.append_nil,List.nil_append,List.cons_append,List.append_assoc,List.length_append,List.length_cons,List.length_nil,Nat.zero_add,Nat.reduceAdd]);rfl) | rfl
     | (apply SL.pass;(focus (refine Wt.i ?_;rfl))) | (apply SL.mcall;rotate_left;(focus rfl);rotate_right) | (apply SL.convertR;(focus rfl)) | apply SL.move | apply SL.assign | apply SL.load | apply SL.isnilE | apply SL.isnilN
     | apply SL.make | apply SL.binOp | apply SL.append | apply SL.copy | apply SL.builtin | apply SL.fieldAddr | apply SL.indexAddr | apply SL.field | apply SL.extract | apply SL.fcall | apply SL.pick | apply SL.store | apply SL.unOp
     | apply SL.convert | apply SL.index | apply SL.slice | apply SL.build | apply SL.nilCheck | apply SL.buildSlice | apply SL.box | apply SL.alloc | apply SL.makeFunc)
    apply SQ.nil
    have gx:=An @q1 (An @hb (@hg))
    refine goA ?_
    clear gx
    refine LoopI.normal (m - 1) (by omega) (by refine ⟨i+1,xs++[x],tok',st2,σ8,?_⟩;exact exF (⟨by omega,by simp [hxl],hR2,hra2,hown2,by omega,hfr2,hb82,hbd2,by omega,hfi2⟩) (by (first | rfl | (simp [hmap,hsz];repeat (first | rfl | (apply And.intro))) | (simp [hmap,hsz];done))) (by (first | rfl | (simp [hmap,hsz];repeat (first | rfl | (apply And.intro))) | (simp [hmap,hsz];done))))
 ·have q1:¬ (i:Int) < n:=by omega
  have hR0:Rdr σ id st:=⟨z,hz,hb⟩
  rw [show N - i=0 by omega] at hfi
  simp only [dLoop,List.append_nil] at hfi
  have hfs:=strip_sl2 Em.draw 2 (sz 2 xs) xs (by unfold sz;by_cases h:xs=[];exact .inl h;exact .inr (if_neg (fun e=>h (List.eq_nil_of_length_eq_zero e)))) tok
  have gx:=@q1
  refine goA ?_
  clear gx
  exact ⟨_,_,rfl,by rw [hfi];exact hfs,by rw [hfi];exact hR0,hlo,hfr⟩)
end Go.Kz

namespace Go.Kz
open Go Go.Proofs
set_option maxRecDepth 100000
set_option maxHeartbeats 40000000
variable {E E1 E2:PExt} (hU:Uni E)
include hU
theorem w_seg (h0:E 143=none) (h1:E 100=some (gEf Tryz.prog E1 100)) (H1:Reads E1 100 dNum i64.emb) (h2:E 174=some (gEf Tryz.prog E2 174)) (H2:ReadsA E2 174 (lstA 175) (dList dDraw) drawsE.emb):Reads E 143 dSeg Em.seg.emb:=by
 intro τ id s hr hl
 have hid:=hr.lt
 have K0:Kp τ (τ++[.box (.agg [.int .i64 0,.int .i64 0,.slice 0 [] .full])]) id τ.length (.agg [.int .i64 0,.int .i64 0,.slice 0 [] .full]):=Kp.new
 have R0:Rdr (τ++[.box (.agg [.int .i64 0,.int .i64 0,.slice 0 [] .full])]) id s:=hr.more
 obtain ⟨w0,z0⟩:=K0.at
 obtain ⟨σ1,k1,K1,R1⟩:=H1.next K0 R0 (by omega) hid
 have l1:=rt_num.len s
 obtain ⟨a1,ea1⟩:=gn ((dNum s).1)
 obtain ⟨s1,es1⟩:=gn ((dNum s).2)
 rw [ea1] at k1
 rw [es1] at R1 l1
 have K1':=K1.set (.agg [.int .i64 a1,.int .i64 0,.slice 0 [] .full])
 have R1':=R1.setB (Y:=.box (.agg [.int .i64 a1,.int .i64 0,.slice 0 [] .full])) hid
 obtain ⟨w1,z1⟩:=K1.at
 obtain ⟨w1',z1'⟩:=K1'.at
 have b1:=K1.bx
 have b1':=K1'.bx
 replace k1:=k1.trans (show _=some (.int .i64 a1,σ1) from rfl)
 obtain ⟨σ2,k2,K2,R2⟩:=H1.next K1' R1' (by omega) hid
 have l2:=rt_num.len s1
 obtain ⟨a2,ea2⟩:=gn ((dNum s1).1)
 obtain ⟨s2,es2⟩:=gn ((dNum s1).2)
 rw [ea2] at k2
 rw [es2] at R2 l2
 have K2':=K2.set (.agg [.int .i64 a1,.int .i64 a2,.slice 0 [] .full])
 have R2':=R2.setB (Y:=.box (.agg [.int .i64 a1,.int .i64 a2,.slice 0 [] .full])) hid
 obtain ⟨w2,z2⟩:=K2.at
 obtain ⟨w2',z2'⟩:=K2'.at
 have b2:=K2.bx
 have b2':=K2'.bx
 replace k2:=k2.trans (show _=some (.int .i64 a2,σ2) from rfl)
 obtain ⟨σ3,k3,K3,R3⟩:=H2.next K2' R2' (by omega) hid
 have l3:=rt_draw.list.len s2
 obtain ⟨a3,ea3⟩:=gn (((dList dDraw) s2).1)
 obtain ⟨s3,es3⟩:=gn (((dList dDraw) s2).2)
 rw [ea3] at k3
 rw [es3] at R3 l3
 obtain ⟨p3,ep3⟩:=gn (drawsE.emb a3)
 rw [ep3] at k3
 have sp3:PD.strip p3=p3:=by rw [← ep3];exact drawsE.str a3
 have pp3:PD.plain p3=true:=by rw [← ep3];rfl
 have cp3:PD.cells p3=[p3]:=by rw [← ep3];rfl
 unfold PD.plain at pp3
 unfold PD.cells at cp3
 have K3':=K3.set (.agg [.int .i64 a1,.int .i64 a2,p3])
 have R3':=R3.setB (Y:=.box (.agg [.int .i64 a1,.int .i64 a2,p3])) hid
 obtain ⟨w3,z3⟩:=K3.at
 obtain ⟨w3',z3'⟩:=K3'.at
 have b3:=K3.bx
 have b3':=K3'.bx
 replace k3:=k3.trans (show _=some (p3,σ3) from rfl)
 have e:dSeg s=(⟨a1,a2,a3⟩,s3):=by
  unfold dSeg
  simp only [ea1,es1,ea2,es2,ea3,es3]
 simp only [ptrA,lstA] at k1 k2 k3
 apply WpC.bodyL h0 Tryz.func143 rfl
 focus (simp [show Tryz.f143.ntmps=_ from rfl,List.replicate];rfl)
 have gx:=An @h1 (An @h2 (An @k1 (An @w1 (An @z1 (An @w1' (An @z1' (An @b1 (An @b1' (An @k2 (An @w2 (An @z2 (An @w2' (An @z2' (An @b2 (An @b2' (An @pp3 (An @cp3 (An @k3 (An @w3 (An @z3 (An @w3' (An @z3' (An @b3 (@b3'))))))))))))))))))))))))
 refine goA ?_
 clear gx
 have KK:=(K3').set (.agg [.int .i64 a1,.int .i64 a2,p3])
 have RR:=R3'.setB (Y:=.box (.agg [.int .i64 a1,.int .i64 a2,p3])) hid
 rw [List.set_set] at KK RR
 refine ⟨.agg [.int .i64 a1,.int .i64 a2,p3],σ3.set τ.length (.box (.agg [.int .i64 a1,.int .i64 a2,p3])),by simp [pfinish,w3],?_⟩
 unfold RdQ
 rw [e]
 refine ⟨?_,RR,Nat.le_of_lt KK.lt,fun j h1 h2=>KK.fr j h1 h2⟩
 simp only [PD.strip,PD.stripL,sp3]
 rw [← ep3]
 rfl
end Go.Kz

namespace Go.Kz
open Go Go.Proofs
set_option maxRecDepth 100000
set_option maxHeartbeats 40000000
theorem ns_seg (x:SegD):pnewSlice Tryz.prog 72 1 [(0,Em.seg.emb x)]=some (.slice 3 [Em.seg.emb x] .full):=by
 kernel_rfl
variable {E E1 E2:PExt} (hU:Uni E)
include hU
theorem w_list_seg (h0:E 142=none) (h1:E 100=some (gEf Tryz.prog E1 100)) (H1:Reads E1 100 dNum i64.emb) (h2:E 143=some (gEf Tryz.prog E2 143)) (H2:Reads E2 143 dSeg Em.seg.emb):ReadsA E 142 (lstA 143) (dList dSeg) segsE.emb:=by
 intro τ id s hr hl
 have hid:=hr.lt
 obtain ⟨τ1,k1,r1,l1,f1⟩:=H1.at hr hl
 have hd:dList dSeg s=dLoop dSeg (dNum s).1.toNat ⟨(dNum s).2.inp,(dNum s).2.bad||decide ((dNum s).1 < 0)⟩:=rfl
 have hln:=rt_num.len s
 obtain ⟨n,hn⟩:=gn ((dNum s).1)
 obtain ⟨s1,hs1⟩:=gn ((dNum s).2)
 rw [hn] at k1 hd
 rw [hs1] at r1 hd hln
 replace k1:=k1.trans (show _=some (.int .i64 n,τ1) from rfl)
 simp only [ptrA] at k1
 obtain ⟨inp,bad⟩:=s1
 obtain ⟨z,hz,hb⟩:=r1
 simp only at hz hb hd hln
 obtain ⟨hlt,hg⟩:=List.getElem?_eq_some_iff.1 hb
 obtain ⟨N,hN⟩:=gn (n.toNat)
 rw [hN] at hd
 have R2:=Rdr.put (bad:=bad||decide (n < 0)) hlt inp hz
 obtain ⟨s2,hs2⟩:=gn (BSt.mk inp (bad||decide (n < 0)))
 rw [hs2] at R2 hd
 have hi2:s2.inp=inp:=by rw [← hs2]
 obtain ⟨xs0,hxs0⟩:=gn (u8s inp)
 rw [hxs0] at hb hg R2
 obtain ⟨τ2,hτ2⟩:=gn (τ1.set id (.box (.agg [.slice z xs0 .any,.bool (bad||decide (n < 0))])))
 rw [hτ2] at R2
 have l2:τ.length≤τ2.length:=by rw [← hτ2,List.length_set];exact l1
 have f2:∀ j,j < τ.length→j≠id→τ2[j]?=τ[j]?:=fun j h1 h2=>by rw [← hτ2,List.getElem?_set_ne (Ne.symm h2)];exact f1 j h1 h2
 obtain ⟨bn,hbn⟩:=gn ((bad||decide (n < 0)))
 rw [hbn] at hτ2
 have hsp:∀ x:SegD,PD.strip (Em.seg.emb x)=Em.seg.emb x:=fun x=>Em.seg.str x
 have hns:=ns_seg
 obtain ⟨fin,hfin⟩:=gn (dLoop dSeg N s2)
 rw [hfin] at hd
 unfold RdQ
 rw [hd]
 clear hd
 simp only [lstA]
 apply WpC.bodyL h0 Tryz.func142 rfl
 focus (simp [show Tryz.f142.ntmps=_ from rfl,List.replicate];rfl)
 have hc3:bad=true∨(bad=false∧n < 0)∨(bad=false∧¬ n < 0):=by
  cases bad
  ·exact .inr (by by_cases c:n < 0;exact .inl ⟨rfl,c⟩;exact .inr ⟨rfl,c⟩)
  ·exact .inl rfl
 have hL0:s2.inp.length≤s.inp.length:=by rw [hi2];exact hln
 clear hr hi2 hs2 hln hz hxs0
 rcases hc3 with rfl | ⟨rfl,c2⟩ | ⟨rfl,c2⟩
 rw [show bn=true by rw [← hbn];simp] at hτ2
 have gx:=An @h1 (An @k1 (An @hb (An @hg (@hτ2))))
 refine goA ?_
 clear gx
 rotate_left
 rw [show bn=true by rw [← hbn];simp [c2]] at hτ2
 have gx:=An @h1 (An @k1 (An @hb (An @hg (An @hτ2 (@c2)))))
 refine goA ?_
 clear gx
 rotate_left
 rw [show bn=false by rw [← hbn];simp [c2]] at hτ2
 have gx:=An @h1 (An @k1 (An @hb (An @hg (An @hτ2 (@c2)))))
 refine goA ?_
 clear gx
 all_goals (
 clear hb hg hτ2 hbn k1 f1 l1
 refine Wp.loopI (fun m fr σ=>∃ (i:Nat) (xs:List SegD) (tok:Tok) (st:BSt) (σ1:List SObj),∃ gg:Nat→PD,(i+m=N∧xs.length=i∧Rdr σ1 id st∧RowAt σ1 tok 112 3 i∧(∀ q,tok=.own q→τ.length≤q)∧τ.length≤σ1.length∧(∀ j,j < τ.length→j≠id→σ1[j]?=τ[j]?)∧8*i≤s.inp.length+8∧(st.bad=false→st.inp.length+8*i≤s.inp.length)∧st.inp.length≤s.inp.length∧fin=(xs++(dLoop dSeg (N - i) st).1,(dLoop dSeg (N - i) st).2))∧fr=[.ptr id 0,.mfunc 143 [.ptr id 0],gg 2,gg 3,gg 4,.int .i64 n,.slice (sz 3 xs) (xs.map Em.seg.emb) tok,.int .i64 i,gg 8,gg 9,gg 10,gg 11,gg 12,gg 13,gg 14,gg 15,gg 16,gg 17,gg 18,gg 19,gg 20,gg 21,gg 22,gg 23,gg 24,gg 25,gg 26,gg 27,gg 28,gg 29,gg 30,gg 31,gg 32,gg 33,gg 34,gg 35,gg 36,gg 37,gg 38]∧σ=σ1) ?_ (N) (by refine ⟨0,[],.full,s2,τ2,?_⟩;exact exF (⟨by omega,rfl,R2,.inl ⟨rfl,rfl⟩,(fun q h=>by cases h),l2,f2,by omega,(fun _=>by omega),hL0,(by rw [Nat.sub_zero,hfin];rfl)⟩) (by (first | rfl | (simp [];repeat (first | rfl | (apply And.intro))) | (simp [];done))) (by (first | rfl | (simp [];repeat (first | rfl | (apply And.intro))) | (simp [];done))))
 rintro m fr σ ⟨i,xs,tok,st,σ1,gg,hI,rfl,rfl⟩
 obtain ⟨hm,hxl,hR,hrow,hown,hlo,hfr,hb8,hbd,hLe,hfi⟩:=hI
 obtain ⟨z,hz,hb⟩:=hR
 obtain ⟨hlt,hg⟩:=List.getElem?_eq_some_iff.1 hb
 by_cases hi:i < N
 ·have q1:(i:Int) < n:=by omega
  cases hst:st.bad with
  | true=>
    rw [hst] at hb hg
    have hR0:Rdr σ id st:=⟨z,hz,by rw [hst];exact hb⟩
    rw [dLoop_bad _ _ hst,List.append_nil] at hfi
    obtain ⟨ys,hys⟩:=gn (u8s st.inp)
    rw [hys] at hb hg
    have hfs:=strip_sl2 Em.seg 3 (sz 3 xs) xs (by unfold sz;by_cases h:xs=[];exact .inl h;exact .inr (if_neg (fun e=>h (List.eq_nil_of_length_eq_zero e)))) tok
    have gx:=An @q1 (An @hb (@hg))
    refine goA ?_
    clear gx
    exact ⟨_,_,rfl,by rw [hfi];exact hfs,by rw [hfi];exact hR0,hlo,hfr⟩
  | false=>
    rw [hst] at hb hg
    have hR0:Rdr σ id st:=⟨z,hz,by rw [hst];exact hb⟩
    obtain ⟨σ7,k7,R7,l7,f7⟩:=H2.at hR0 (by omega)
    have hu:=rt_seg.use st
    have hle2:=rt_seg.len st
    have hdl:dLoop dSeg (N - i) st=((dSeg st).1::(dLoop dSeg (N - (i+1)) (dSeg st).2).1,(dLoop dSeg (N - (i+1)) (dSeg st).2).2):=by
     rw [show N - i=(N - (i+1))+1 by omega]
     simp [dLoop,hst]
    rw [hdl] at hfi
    obtain ⟨x,hx⟩:=gn ((dSeg st).1)
    obtain ⟨st2,hst2⟩:=gn ((dSeg st).2)
    rw [hx] at k7 hfi
    rw [hst2] at R7 hfi hu hle2
    have hs1:=hsp x
    have hn1:pnewSlice Tryz.prog 72 1 (List.map (fun q=>(q.1,q.2.strip)) [((0:Nat),Em.seg.emb x)])=some (.slice 3 [Em.seg.emb x] .full):=by
     simp only [List.map_cons,List.map_nil,hs1]
     exact hns x
    have hmap:(xs++[x]).map Em.seg.emb=xs.map Em.seg.emb++[Em.seg.emb x]:=by simp
    obtain ⟨ex,hex⟩:=gn (Em.seg.emb x)
    rw [hex] at k7 hs1 hn1 hmap
    simp only [ptrA] at k7
    have hr7:RowAt σ7 tok 112 3 (xs.map Em.seg.emb).length:=by
     rw [List.length_map,hxl]
     exact hrow.keep fun q o e h=>by
      rw [f7 q (List.getElem?_eq_some_iff.1 h).1 (by have:=hown q e;omega)]
      exact h
    obtain ⟨tok',σ8,ap,ra,kp,ow⟩:=pappend_row (P:=Tryz.prog) (t:=72) (e:=112) (k:=3) (b:=40) (s:=sz 3 xs) (p:=ex) (tk:=.any) Tryz.underlying72 (by kernel_rfl) (by unfold sz;by_cases h:xs=[];exact .inl (by rw [h];rfl);exact .inr (if_neg (fun e=>h (List.eq_nil_of_length_eq_zero e)))) hr7 (by rw [List.length_map];omega) (by rw [List.length_map];omega)
    obtain ⟨ys,hys⟩:=gn (u8s st.inp)
    rw [hys] at hb hg
    have hsz:sz 3 (xs++[x])=3:=sz_ne (by simp)
    have hlt7:σ7.length≤σ8.length:=by
     rcases Nat.lt_or_ge σ8.length σ7.length with h | h
     ·exfalso
      obtain ⟨o,ho⟩:∃ o,σ7[σ7.length - 1]?=some o:=⟨_,List.getElem?_eq_getElem (by omega)⟩
      by_cases e:tok=.own (σ7.length - 1)
      ·rcases ra with ⟨h1,_⟩ | ⟨_,q,h1,h2⟩
       ·omega
       ·have h3:=(List.getElem?_eq_some_iff.1 h2).1
        rcases ow q h1 with h4 | h4
        ·rw [e] at h4;cases h4;omega
        ·omega
      ·have h3:=(List.getElem?_eq_some_iff.1 (kp _ _ e ho)).1
       omega
     ·exact h
    have hkeep8:∀ j,j < σ7.length→tok≠.own j→σ8[j]?=σ7[j]?:=fun j h1 h2=>by rw [kp j _ h2 (List.getElem?_eq_getElem h1),List.getElem?_eq_getElem h1]
    have hid7:tok≠.own id:=fun e=>by
     have:=hown id e
     omega
    have hlow:∀ j,j < τ.length→tok≠.own j:=fun j hj e=>by
     have:=hown j e
     omega
    have hown2:∀ q,tok'=.own q→τ.length≤q:=fun q e=>by
     rcases ow q e with h | h
     ·exact hown q h
     ·omega
    have hR2:Rdr σ8 id st2:=R7.keep (hkeep8 id R7.lt hid7)
    have hra2:RowAt σ8 tok' 112 3 (i+1):=by rw [List.length_map,hxl] at ra;exact ra
    have hfr2:∀ j,j < τ.length→j≠id→σ8[j]?=τ[j]?:=fun j h1 h2=>by rw [hkeep8 j (by omega) (hlow j h1),f7 j (by omega) h2];exact hfr j h1 h2
    have hb82:8*(i+1)≤s.inp.length+8:=by have:=hbd hst;omega
    have hbd2:st2.bad=false→st2.inp.length+8*(i+1)≤s.inp.length:=fun h=>by have:=hu h;have:=hbd hst;omega
    have hfi2:fin=((xs++[x])++(dLoop dSeg (N - (i+1)) st2).1,(dLoop dSeg (N - (i+1)) st2).2):=by rw [hfi];simp
    have gx:=An @q1 (An @hb (@hg))
    refine goA ?_
    clear gx
    first | refine Wp.seq ?_ | skip
    apply Wp.regionS
    repeat (first
     | (refine By.i ?_;(focus assumption)) | (refine Fr.i ?_;simp only [pput,List.set_cons_zero,List.set_cons_succ];try rfl)
     | (refine By.i ?_;(focus (simp (disch:=first | omega | (simp;done) | (simp;omega)) [wrap_i64,wrap_u64,h2,k7,hs1,ap];first | done | rfl | exact ⟨rfl,rfl⟩)))
     | (refine By.i ?_;simp (disch:=first | omega | (simp;done) | (simp;omega)) [wrap_i64,wrap_u64,h2,k7,hs1,ap];refine ⟨(by (try simp only [List.length_append,List.length_cons,List.length_nil,maxLen]);omega),rfl⟩)
     | (refine Wt.i ?_;first | rfl | (focus (simp [h2,k7,hs1,ap];done)))
     | (refine Ns.i ?_;(try simp only [List.append_nil,List.nil_append,List.cons_append,List.append_assoc,List.length_append,List.length_cons,List.length_nil,Nat.zero_add,Nat.reduceAdd]);rfl) | rfl
     | (apply SL.pass;(focus (refine Wt.i ?_;rfl))) | (apply SL.mcall;rotate_left;(focus rfl);rotate_right) | (apply SL.convertR;(focus rfl)) | apply SL.move | apply SL.assign | apply SL.load | apply SL.isnilE | apply SL.isnilN
     | apply SL.make | apply SL.binOp | apply SL.append | apply SL.copy | apply SL.builtin | apply SL.fieldAddr | apply SL.indexAddr | apply SL.field | apply SL.extract | apply SL.fcall | apply SL.pick | apply SL.store | apply SL.unOp
     | apply SL.convert | apply SL.index | apply SL.slice | apply SL.build | apply SL.nilCheck | apply SL.buildSlice | apply SL.box | apply SL.alloc | apply SL.makeFunc)
    apply SQ.nil
    have gx:=An @q1 (An @hb (@hg))
    refine goA ?_
    clear gx
    refine LoopI.normal (m - 1) (by omega) (by refine ⟨i+1,xs++[x],tok',st2,σ8,?_⟩;exact exF (⟨by omega,by simp [hxl],hR2,hra2,hown2,by omega,hfr2,hb82,hbd2,by omega,hfi2⟩) (by (first | rfl | (simp [hmap,hsz];repeat (first | rfl | (apply And.intro))) | (simp [hmap,hsz];done))) (by (first | rfl | (simp [hmap,hsz];repeat (first | rfl | (apply And.intro))) | (simp [hmap,hsz];done))))
 ·have q1:¬ (i:Int) < n:=by omega
  have hR0:Rdr σ id st:=⟨z,hz,hb⟩
  rw [show N - i=0 by omega] at hfi
  simp only [dLoop,List.append_nil] at hfi
  have hfs:=strip_sl2 Em.seg 3 (sz 3 xs) xs (by unfold sz;by_cases h:xs=[];exact .inl h;exact .inr (if_neg (fun e=>h (List.eq_nil_of_length_eq_zero e)))) tok
  have gx:=@q1
  refine goA ?_
  clear gx
  exact ⟨_,_,rfl,by rw [hfi];exact hfs,by rw [hfi];exact hR0,hlo,hfr⟩)
end Go.Kz
