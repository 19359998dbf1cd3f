/-
  Part D4 of the way: an interpreter over pure data, its soundness, walks through functions.
-/
import Derived.Test.YtefkonhamghgfaaGreatDoorD1
set_option linter.all false

namespace Go.Kz
open Go Go.Proofs
set_option maxRecDepth 100000
set_option maxHeartbeats 40000000
variable {E E1 E2 E3:PExt} (hU:Uni E)
include hU
theorem w_stop (h0:E 105=none) (h1:E 71=some (gEf Tryz.prog E1 71)) (H1:Reads E1 71 dText PD.str) (h2:E 101=some (gEf Tryz.prog E2 101)) (H2:Reads E2 101 dFeet Em.fra.emb) (h3:E 142=some (gEf Tryz.prog E3 142)) (H3:ReadsA E3 142 (lstA 143) (dList dSeg) segsE.emb):Reads E 105 dStop Em.stop.emb:=by
 intro τ id s hr hl
 have hid:=hr.lt
 have K0:Kp τ (τ++[.box (.agg [.str [],.int .i64 0,.int .i64 0,.slice 0 [] .full])]) id τ.length (.agg [.str [],.int .i64 0,.int .i64 0,.slice 0 [] .full]):=Kp.new
 have R0:Rdr (τ++[.box (.agg [.str [],.int .i64 0,.int .i64 0,.slice 0 [] .full])]) id s:=hr.more
 obtain ⟨w0,z0⟩:=K0.at
 obtain ⟨σ1,k1,K1,R1⟩:=H1.next K0 R0 (by omega) hid
 have l1:=rt_text.len s
 obtain ⟨a1,ea1⟩:=gn ((dText s).1)
 obtain ⟨s1,es1⟩:=gn ((dText s).2)
 rw [ea1] at k1
 rw [es1] at R1 l1
 have K1':=K1.set (.agg [.str a1,.int .i64 0,.int .i64 0,.slice 0 [] .full])
 have R1':=R1.setB (Y:=.box (.agg [.str a1,.int .i64 0,.int .i64 0,.slice 0 [] .full])) hid
 obtain ⟨w1,z1⟩:=K1.at
 obtain ⟨w1',z1'⟩:=K1'.at
 have b1:=K1.bx
 have b1':=K1'.bx
 replace k1:=k1.trans (show _=some (.str a1,σ1) from rfl)
 obtain ⟨σ2,k2,K2,R2⟩:=H2.next K1' R1' (by omega) hid
 have l2:=rt_feet.len s1
 obtain ⟨a2,ea2⟩:=gn ((dFeet s1).1)
 obtain ⟨s2,es2⟩:=gn ((dFeet s1).2)
 rw [ea2] at k2
 rw [es2] at R2 l2
 have K2':=K2.set (.agg [.str a1,.int .i64 a2.1,.int .i64 a2.2,.slice 0 [] .full])
 have R2':=R2.setB (Y:=.box (.agg [.str a1,.int .i64 a2.1,.int .i64 a2.2,.slice 0 [] .full])) hid
 obtain ⟨w2,z2⟩:=K2.at
 obtain ⟨w2',z2'⟩:=K2'.at
 have b2:=K2.bx
 have b2':=K2'.bx
 replace k2:=k2.trans (show _=some (.agg [.int .i64 a2.1,.int .i64 a2.2],σ2) from rfl)
 obtain ⟨σ3,k3,K3,R3⟩:=H3.next K2' R2' (by omega) hid
 have l3:=rt_seg.list.len s2
 obtain ⟨a3,ea3⟩:=gn (((dList dSeg) s2).1)
 obtain ⟨s3,es3⟩:=gn (((dList dSeg) s2).2)
 rw [ea3] at k3
 rw [es3] at R3 l3
 obtain ⟨p3,ep3⟩:=gn (segsE.emb a3)
 rw [ep3] at k3
 have sp3:PD.strip p3=p3:=by rw [← ep3];exact segsE.str a3
 have pp3:PD.plain p3=true:=by rw [← ep3];rfl
 have cp3:PD.cells p3=[p3]:=by rw [← ep3];rfl
 unfold PD.plain at pp3
 unfold PD.cells at cp3
 have K3':=K3.set (.agg [.str a1,.int .i64 a2.1,.int .i64 a2.2,p3])
 have R3':=R3.setB (Y:=.box (.agg [.str a1,.int .i64 a2.1,.int .i64 a2.2,p3])) hid
 obtain ⟨w3,z3⟩:=K3.at
 obtain ⟨w3',z3'⟩:=K3'.at
 have b3:=K3.bx
 have b3':=K3'.bx
 replace k3:=k3.trans (show _=some (p3,σ3) from rfl)
 have e:dStop s=(⟨a1,a2.1,a2.2,a3⟩,s3):=by
  unfold dStop
  simp only [ea1,es1,ea2,es2,ea3,es3]
 simp only [ptrA,lstA] at k1 k2 k3
 apply WpC.bodyL h0 Tryz.func105 rfl
 focus (simp [show Tryz.f105.ntmps=_ from rfl,List.replicate];rfl)
 have gx:=An @h1 (An @h2 (An @h3 (An @k1 (An @w1 (An @z1 (An @w1' (An @z1' (An @b1 (An @b1' (An @k2 (An @w2 (An @z2 (An @w2' (An @z2' (An @b2 (An @b2' (An @pp3 (An @cp3 (An @k3 (An @w3 (An @z3 (An @w3' (An @z3' (An @b3 (@b3')))))))))))))))))))))))))
 refine goA ?_
 clear gx
 have KK:=(K3').set (.agg [.str a1,.int .i64 a2.1,.int .i64 a2.2,p3])
 have RR:=R3'.setB (Y:=.box (.agg [.str a1,.int .i64 a2.1,.int .i64 a2.2,p3])) hid
 rw [List.set_set] at KK RR
 refine ⟨.agg [.str a1,.int .i64 a2.1,.int .i64 a2.2,p3],σ3.set τ.length (.box (.agg [.str a1,.int .i64 a2.1,.int .i64 a2.2,p3])),by simp [pfinish,w3],?_⟩
 unfold RdQ
 rw [e]
 refine ⟨?_,RR,Nat.le_of_lt KK.lt,fun j h1 h2=>KK.fr j h1 h2⟩
 simp only [PD.strip,PD.stripL,sp3]
 rw [← ep3]
 rfl
end Go.Kz

namespace Go.Kz
open Go Go.Proofs
set_option maxRecDepth 100000
set_option maxHeartbeats 40000000
theorem ns_stop (x:StopD):pnewSlice Tryz.prog 69 1 [(0,Em.stop.emb x)]=some (.slice 4 [Em.stop.emb x] .full):=by
 kernel_rfl
variable {E E1 E2:PExt} (hU:Uni E)
include hU
theorem w_list_stop (h0:E 104=none) (h1:E 100=some (gEf Tryz.prog E1 100)) (H1:Reads E1 100 dNum i64.emb) (h2:E 105=some (gEf Tryz.prog E2 105)) (H2:Reads E2 105 dStop Em.stop.emb):ReadsA E 104 (lstA 105) (dList dStop) stopsE.emb:=by
 intro τ id s hr hl
 have hid:=hr.lt
 obtain ⟨τ1,k1,r1,l1,f1⟩:=H1.at hr hl
 have hd:dList dStop s=dLoop dStop (dNum s).1.toNat ⟨(dNum s).2.inp,(dNum s).2.bad||decide ((dNum s).1 < 0)⟩:=rfl
 have hln:=rt_num.len s
 obtain ⟨n,hn⟩:=gn ((dNum s).1)
 obtain ⟨s1,hs1⟩:=gn ((dNum s).2)
 rw [hn] at k1 hd
 rw [hs1] at r1 hd hln
 replace k1:=k1.trans (show _=some (.int .i64 n,τ1) from rfl)
 simp only [ptrA] at k1
 obtain ⟨inp,bad⟩:=s1
 obtain ⟨z,hz,hb⟩:=r1
 simp only at hz hb hd hln
 obtain ⟨hlt,hg⟩:=List.getElem?_eq_some_iff.1 hb
 obtain ⟨N,hN⟩:=gn (n.toNat)
 rw [hN] at hd
 have R2:=Rdr.put (bad:=bad||decide (n < 0)) hlt inp hz
 obtain ⟨s2,hs2⟩:=gn (BSt.mk inp (bad||decide (n < 0)))
 rw [hs2] at R2 hd
 have hi2:s2.inp=inp:=by rw [← hs2]
 obtain ⟨xs0,hxs0⟩:=gn (u8s inp)
 rw [hxs0] at hb hg R2
 obtain ⟨τ2,hτ2⟩:=gn (τ1.set id (.box (.agg [.slice z xs0 .any,.bool (bad||decide (n < 0))])))
 rw [hτ2] at R2
 have l2:τ.length≤τ2.length:=by rw [← hτ2,List.length_set];exact l1
 have f2:∀ j,j < τ.length→j≠id→τ2[j]?=τ[j]?:=fun j h1 h2=>by rw [← hτ2,List.getElem?_set_ne (Ne.symm h2)];exact f1 j h1 h2
 obtain ⟨bn,hbn⟩:=gn ((bad||decide (n < 0)))
 rw [hbn] at hτ2
 have hsp:∀ x:StopD,PD.strip (Em.stop.emb x)=Em.stop.emb x:=fun x=>Em.stop.str x
 have hns:=ns_stop
 obtain ⟨fin,hfin⟩:=gn (dLoop dStop N s2)
 rw [hfin] at hd
 unfold RdQ
 rw [hd]
 clear hd
 simp only [lstA]
 apply WpC.bodyL h0 Tryz.func104 rfl
 focus (simp [show Tryz.f104.ntmps=_ from rfl,List.replicate];rfl)
 have hc3:bad=true∨(bad=false∧n < 0)∨(bad=false∧¬ n < 0):=by
  cases bad
  ·exact .inr (by by_cases c:n < 0;exact .inl ⟨rfl,c⟩;exact .inr ⟨rfl,c⟩)
  ·exact .inl rfl
 have hL0:s2.inp.length≤s.inp.length:=by rw [hi2];exact hln
 clear hr hi2 hs2 hln hz hxs0
 rcases hc3 with rfl | ⟨rfl,c2⟩ | ⟨rfl,c2⟩
 rw [show bn=true by rw [← hbn];simp] at hτ2
 have gx:=An @h1 (An @k1 (An @hb (An @hg (@hτ2))))
 refine goA ?_
 clear gx
 rotate_left
 rw [show bn=true by rw [← hbn];simp [c2]] at hτ2
 have gx:=An @h1 (An @k1 (An @hb (An @hg (An @hτ2 (@c2)))))
 refine goA ?_
 clear gx
 rotate_left
 rw [show bn=false by rw [← hbn];simp [c2]] at hτ2
 have gx:=An @h1 (An @k1 (An @hb (An @hg (An @hτ2 (@c2)))))
 refine goA ?_
 clear gx
 all_goals (
 clear hb hg hτ2 hbn k1 f1 l1
 refine Wp.loopI (fun m fr σ=>∃ (i:Nat) (xs:List StopD) (tok:Tok) (st:BSt) (σ1:List SObj),∃ gg:Nat→PD,(i+m=N∧xs.length=i∧Rdr σ1 id st∧RowAt σ1 tok 74 4 i∧(∀ q,tok=.own q→τ.length≤q)∧τ.length≤σ1.length∧(∀ j,j < τ.length→j≠id→σ1[j]?=τ[j]?)∧8*i≤s.inp.length+8∧(st.bad=false→st.inp.length+8*i≤s.inp.length)∧st.inp.length≤s.inp.length∧fin=(xs++(dLoop dStop (N - i) st).1,(dLoop dStop (N - i) st).2))∧fr=[.ptr id 0,.mfunc 105 [.ptr id 0],gg 2,gg 3,gg 4,.int .i64 n,.slice (sz 4 xs) (xs.map Em.stop.emb) tok,.int .i64 i,gg 8,gg 9,gg 10,gg 11,gg 12,gg 13,gg 14,gg 15,gg 16,gg 17,gg 18,gg 19,gg 20,gg 21,gg 22,gg 23,gg 24,gg 25,gg 26,gg 27,gg 28,gg 29,gg 30,gg 31,gg 32,gg 33,gg 34,gg 35,gg 36,gg 37,gg 38]∧σ=σ1) ?_ (N) (by refine ⟨0,[],.full,s2,τ2,?_⟩;exact exF (⟨by omega,rfl,R2,.inl ⟨rfl,rfl⟩,(fun q h=>by cases h),l2,f2,by omega,(fun _=>by omega),hL0,(by rw [Nat.sub_zero,hfin];rfl)⟩) (by (first | rfl | (simp [];repeat (first | rfl | (apply And.intro))) | (simp [];done))) (by (first | rfl | (simp [];repeat (first | rfl | (apply And.intro))) | (simp [];done))))
 rintro m fr σ ⟨i,xs,tok,st,σ1,gg,hI,rfl,rfl⟩
 obtain ⟨hm,hxl,hR,hrow,hown,hlo,hfr,hb8,hbd,hLe,hfi⟩:=hI
 obtain ⟨z,hz,hb⟩:=hR
 obtain ⟨hlt,hg⟩:=List.getElem?_eq_some_iff.1 hb
 by_cases hi:i < N
 ·have q1:(i:Int) < n:=by omega
  cases hst:st.bad with
  | true=>
    rw [hst] at hb hg
    have hR0:Rdr σ id st:=⟨z,hz,by rw [hst];exact hb⟩
    rw [dLoop_bad _ _ hst,List.append_nil] at hfi
    obtain ⟨ys,hys⟩:=gn (u8s st.inp)
    rw [hys] at hb hg
    have hfs:=strip_sl2 Em.stop 4 (sz 4 xs) xs (by unfold sz;by_cases h:xs=[];exact .inl h;exact .inr (if_neg (fun e=>h (List.eq_nil_of_length_eq_zero e)))) tok
    have gx:=An @q1 (An @hb (@hg))
    refine goA ?_
    clear gx
    exact ⟨_,_,rfl,by rw [hfi];exact hfs,by rw [hfi];exact hR0,hlo,hfr⟩
  | false=>
    rw [hst] at hb hg
    have hR0:Rdr σ id st:=⟨z,hz,by rw [hst];exact hb⟩
    obtain ⟨σ7,k7,R7,l7,f7⟩:=H2.at hR0 (by omega)
    have hu:=rt_stop.use st
    have hle2:=rt_stop.len st
    have hdl:dLoop dStop (N - i) st=((dStop st).1::(dLoop dStop (N - (i+1)) (dStop st).2).1,(dLoop dStop (N - (i+1)) (dStop st).2).2):=by
     rw [show N - i=(N - (i+1))+1 by omega]
     simp [dLoop,hst]
    rw [hdl] at hfi
    obtain ⟨x,hx⟩:=gn ((dStop st).1)
    obtain ⟨st2,hst2⟩:=gn ((dStop st).2)
    rw [hx] at k7 hfi
    rw [hst2] at R7 hfi hu hle2
    have hs1:=hsp x
    have hn1:pnewSlice Tryz.prog 69 1 (List.map (fun q=>(q.1,q.2.strip)) [((0:Nat),Em.stop.emb x)])=some (.slice 4 [Em.stop.emb x] .full):=by
     simp only [List.map_cons,List.map_nil,hs1]
     exact hns x
    have hmap:(xs++[x]).map Em.stop.emb=xs.map Em.stop.emb++[Em.stop.emb x]:=by simp
    obtain ⟨ex,hex⟩:=gn (Em.stop.emb x)
    rw [hex] at k7 hs1 hn1 hmap
    simp only [ptrA] at k7
    have hr7:RowAt σ7 tok 74 4 (xs.map Em.stop.emb).length:=by
     rw [List.length_map,hxl]
     exact hrow.keep fun q o e h=>by
      rw [f7 q (List.getElem?_eq_some_iff.1 h).1 (by have:=hown q e;omega)]
      exact h
    obtain ⟨tok',σ8,ap,ra,kp,ow⟩:=pappend_row (P:=Tryz.prog) (t:=69) (e:=74) (k:=4) (b:=56) (s:=sz 4 xs) (p:=ex) (tk:=.any) Tryz.underlying69 (by kernel_rfl) (by unfold sz;by_cases h:xs=[];exact .inl (by rw [h];rfl);exact .inr (if_neg (fun e=>h (List.eq_nil_of_length_eq_zero e)))) hr7 (by rw [List.length_map];omega) (by rw [List.length_map];omega)
    obtain ⟨ys,hys⟩:=gn (u8s st.inp)
    rw [hys] at hb hg
    have hsz:sz 4 (xs++[x])=4:=sz_ne (by simp)
    have hlt7:σ7.length≤σ8.length:=by
     rcases Nat.lt_or_ge σ8.length σ7.length with h | h
     ·exfalso
      obtain ⟨o,ho⟩:∃ o,σ7[σ7.length - 1]?=some o:=⟨_,List.getElem?_eq_getElem (by omega)⟩
      by_cases e:tok=.own (σ7.length - 1)
      ·rcases ra with ⟨h1,_⟩ | ⟨_,q,h1,h2⟩
       ·omega
       ·have h3:=(List.getElem?_eq_some_iff.1 h2).1
        rcases ow q h1 with h4 | h4
        ·rw [e] at h4;cases h4;omega
        ·omega
      ·have h3:=(List.getElem?_eq_some_iff.1 (kp _ _ e ho)).1
       omega
     ·exact h
    have hkeep8:∀ j,j < σ7.length→tok≠.own j→σ8[j]?=σ7[j]?:=fun j h1 h2=>by rw [kp j _ h2 (List.getElem?_eq_getElem h1),List.getElem?_eq_getElem h1]
    have hid7:tok≠.own id:=fun e=>by
     have:=hown id e
     omega
    have hlow:∀ j,j < τ.length→tok≠.own j:=fun j hj e=>by
     have:=hown j e
     omega
    have hown2:∀ q,tok'=.own q→τ.length≤q:=fun q e=>by
     rcases ow q e with h | h
     ·exact hown q h
     ·omega
    have hR2:Rdr σ8 id st2:=R7.keep (hkeep8 id R7.lt hid7)
    have hra2:RowAt σ8 tok' 74 4 (i+1):=by rw [List.length_map,hxl] at ra;exact ra
    have hfr2:∀ j,j < τ.length→j≠id→σ8[j]?=τ[j]?:=fun j h1 h2=>by rw [hkeep8 j (by omega) (hlow j h1),f7 j (by omega) h2];exact hfr j h1 h2
    have hb82:8*(i+1)≤s.inp.length+8:=by have:=hbd hst;omega
    have hbd2:st2.bad=false→st2.inp.length+8*(i+1)≤s.inp.length:=fun h=>by have:=hu h;have:=hbd hst;omega
    have hfi2:fin=((xs++[x])++(dLoop dStop (N - (i+1)) st2).1,(dLoop dStop (N - (i+1)) st2).2):=by rw [hfi];simp
    have gx:=An @q1 (An @hb (@hg))
    refine goA ?_
    clear gx
    first | refine Wp.seq ?_ | skip
    apply Wp.regionS
    repeat (first
     | (refine By.i ?_;(focus assumption)) | (refine Fr.i ?_;simp only [pput,List.set_cons_zero,List.set_cons_succ];try rfl)
     | (refine By.i ?_;(focus (simp (disch:=first | omega | (simp;done) | (simp;omega)) [wrap_i64,wrap_u64,h2,k7,hs1,ap];first | done | rfl | exact ⟨rfl,rfl⟩)))
     | (refine By.i ?_;simp (disch:=first | omega | (simp;done) | (simp;omega)) [wrap_i64,wrap_u64,h2,k7,hs1,ap];refine ⟨(by (try simp only [List.length_append,List.length_cons,List.length_nil,maxLen]);omega),rfl⟩)
     | (refine Wt.i ?_;first | rfl | (focus (simp [h2,k7,hs1,ap];done)))
     | (refine Ns.i ?_;(try simp only [List.append_nil,List.nil_append,List.cons_append,List.append_assoc,List.length_append,List.length_cons,List.length_nil,Nat.zero_add,Nat.reduceAdd]);rfl) | rfl
     | (apply SL.pass;(focus (refine Wt.i ?_;rfl))) | (apply SL.mcall;rotate_left;(focus rfl);rotate_right) | (apply SL.convertR;(focus rfl)) | apply SL.move | apply SL.assign | apply SL.load | apply SL.isnilE | apply SL.isnilN
     | apply SL.make | apply SL.binOp | apply SL.append | apply SL.copy | apply SL.builtin | apply SL.fieldAddr | apply SL.indexAddr | apply SL.field | apply SL.extract | apply SL.fcall | apply SL.pick | apply SL.store | apply SL.unOp
     | apply SL.convert | apply SL.index | apply SL.slice | apply SL.build | apply SL.nilCheck | apply SL.buildSlice | apply SL.box | apply SL.alloc | apply SL.makeFunc)
    apply SQ.nil
    have gx:=An @q1 (An @hb (@hg))
    refine goA ?_
    clear gx
    refine LoopI.normal (m - 1) (by omega) (by refine ⟨i+1,xs++[x],tok',st2,σ8,?_⟩;exact exF (⟨by omega,by simp [hxl],hR2,hra2,hown2,by omega,hfr2,hb82,hbd2,by omega,hfi2⟩) (by (first | rfl | (simp [hmap,hsz];repeat (first | rfl | (apply And.intro))) | (simp [hmap,hsz];done))) (by (first | rfl | (simp [hmap,hsz];repeat (first | rfl | (apply And.intro))) | (simp [hmap,hsz];done))))
 ·have q1:¬ (i:Int) < n:=by omega
  have hR0:Rdr σ id st:=⟨z,hz,hb⟩
  rw [show N - i=0 by omega] at hfi
  simp only [dLoop,List.append_nil] at hfi
  have hfs:=strip_sl2 Em.stop 4 (sz 4 xs) xs (by unfold sz;by_cases h:xs=[];exact .inl h;exact .inr (if_neg (fun e=>h (List.eq_nil_of_length_eq_zero e)))) tok
  have gx:=@q1
  refine goA ?_
  clear gx
  exact ⟨_,_,rfl,by rw [hfi];exact hfs,by rw [hfi];exact hR0,hlo,hfr⟩)
end Go.Kz

namespace Go.Kz
open Go Go.Proofs
set_option maxRecDepth 100000
set_option maxHeartbeats 40000000
variable {E E1 E2 E3 E4:PExt} (hU:Uni E)
include hU
theorem w_div (h0:E 75=none) (h1:E 71=some (gEf Tryz.prog E1 71)) (H1:Reads E1 71 dText PD.str) (h2:E 103=some (gEf Tryz.prog E2 103)) (H2:Reads E2 103 dTruth PD.bool) (h3:E 100=some (gEf Tryz.prog E3 100)) (H3:Reads E3 100 dNum i64.emb) (h4:E 104=some (gEf Tryz.prog E4 104)) (H4:ReadsA E4 104 (lstA 105) (dList dStop) stopsE.emb):Reads E 75 dDiv Em.div.emb:=by
 intro τ id s hr hl
 have hid:=hr.lt
 have K0:Kp τ (τ++[.box (.agg [.str [],.bool false,.int .i64 0,.int .i64 0,.slice 0 [] .full])]) id τ.length (.agg [.str [],.bool false,.int .i64 0,.int .i64 0,.slice 0 [] .full]):=Kp.new
 have R0:Rdr (τ++[.box (.agg [.str [],.bool false,.int .i64 0,.int .i64 0,.slice 0 [] .full])]) id s:=hr.more
 obtain ⟨w0,z0⟩:=K0.at
 obtain ⟨σ1,k1,K1,R1⟩:=H1.next K0 R0 (by omega) hid
 have l1:=rt_text.len s
 obtain ⟨a1,ea1⟩:=gn ((dText s).1)
 obtain ⟨s1,es1⟩:=gn ((dText s).2)
 rw [ea1] at k1
 rw [es1] at R1 l1
 have K1':=K1.set (.agg [.str a1,.bool false,.int .i64 0,.int .i64 0,.slice 0 [] .full])
 have R1':=R1.setB (Y:=.box (.agg [.str a1,.bool false,.int .i64 0,.int .i64 0,.slice 0 [] .full])) hid
 obtain ⟨w1,z1⟩:=K1.at
 obtain ⟨w1',z1'⟩:=K1'.at
 have b1:=K1.bx
 have b1':=K1'.bx
 replace k1:=k1.trans (show _=some (.str a1,σ1) from rfl)
 obtain ⟨σ2,k2,K2,R2⟩:=H2.next K1' R1' (by omega) hid
 have l2:=rt_truth.len s1
 obtain ⟨a2,ea2⟩:=gn ((dTruth s1).1)
 obtain ⟨s2,es2⟩:=gn ((dTruth s1).2)
 rw [ea2] at k2
 rw [es2] at R2 l2
 have K2':=K2.set (.agg [.str a1,.bool a2,.int .i64 0,.int .i64 0,.slice 0 [] .full])
 have R2':=R2.setB (Y:=.box (.agg [.str a1,.bool a2,.int .i64 0,.int .i64 0,.slice 0 [] .full])) hid
 obtain ⟨w2,z2⟩:=K2.at
 obtain ⟨w2',z2'⟩:=K2'.at
 have b2:=K2.bx
 have b2':=K2'.bx
 replace k2:=k2.trans (show _=some (.bool a2,σ2) from rfl)
 obtain ⟨σ3,k3,K3,R3⟩:=H3.next K2' R2' (by omega) hid
 have l3:=rt_num.len s2
 obtain ⟨a3,ea3⟩:=gn ((dNum s2).1)
 obtain ⟨s3,es3⟩:=gn ((dNum s2).2)
 rw [ea3] at k3
 rw [es3] at R3 l3
 have K3':=K3.set (.agg [.str a1,.bool a2,.int .i64 a3,.int .i64 0,.slice 0 [] .full])
 have R3':=R3.setB (Y:=.box (.agg [.str a1,.bool a2,.int .i64 a3,.int .i64 0,.slice 0 [] .full])) hid
 obtain ⟨w3,z3⟩:=K3.at
 obtain ⟨w3',z3'⟩:=K3'.at
 have b3:=K3.bx
 have b3':=K3'.bx
 replace k3:=k3.trans (show _=some (.int .i64 a3,σ3) from rfl)
 obtain ⟨σ4,k4,K4,R4⟩:=H3.next K3' R3' (by omega) hid
 have l4:=rt_num.len s3
 obtain ⟨a4,ea4⟩:=gn ((dNum s3).1)
 obtain ⟨s4,es4⟩:=gn ((dNum s3).2)
 rw [ea4] at k4
 rw [es4] at R4 l4
 have K4':=K4.set (.agg [.str a1,.bool a2,.int .i64 a3,.int .i64 a4,.slice 0 [] .full])
 have R4':=R4.setB (Y:=.box (.agg [.str a1,.bool a2,.int .i64 a3,.int .i64 a4,.slice 0 [] .full])) hid
 obtain ⟨w4,z4⟩:=K4.at
 obtain ⟨w4',z4'⟩:=K4'.at
 have b4:=K4.bx
 have b4':=K4'.bx
 replace k4:=k4.trans (show _=some (.int .i64 a4,σ4) from rfl)
 obtain ⟨σ5,k5,K5,R5⟩:=H4.next K4' R4' (by omega) hid
 have l5:=rt_stop.list.len s4
 obtain ⟨a5,ea5⟩:=gn (((dList dStop) s4).1)
 obtain ⟨s5,es5⟩:=gn (((dList dStop) s4).2)
 rw [ea5] at k5
 rw [es5] at R5 l5
 obtain ⟨p5,ep5⟩:=gn (stopsE.emb a5)
 rw [ep5] at k5
 have sp5:PD.strip p5=p5:=by rw [← ep5];exact stopsE.str a5
 have pp5:PD.plain p5=true:=by rw [← ep5];rfl
 have cp5:PD.cells p5=[p5]:=by rw [← ep5];rfl
 unfold PD.plain at pp5
 unfold PD.cells at cp5
 have K5':=K5.set (.agg [.str a1,.bool a2,.int .i64 a3,.int .i64 a4,p5])
 have R5':=R5.setB (Y:=.box (.agg [.str a1,.bool a2,.int .i64 a3,.int .i64 a4,p5])) hid
 obtain ⟨w5,z5⟩:=K5.at
 obtain ⟨w5',z5'⟩:=K5'.at
 have b5:=K5.bx
 have b5':=K5'.bx
 replace k5:=k5.trans (show _=some (p5,σ5) from rfl)
 have e:dDiv s=(⟨a1,a2,a3,a4,a5⟩,s5):=by
  unfold dDiv
  simp only [ea1,es1,ea2,es2,ea3,es3,ea4,es4,ea5,es5]
 simp only [ptrA,lstA] at k1 k2 k3 k4 k5
 apply WpC.bodyL h0 Tryz.func75 rfl
 focus (simp [show Tryz.f75.ntmps=_ from rfl,List.replicate];rfl)
 have gx:=An @h1 (An @h2 (An @h3 (An @h4 (An @k1 (An @w1 (An @z1 (An @w1' (An @z1' (An @b1 (An @b1' (An @k2 (An @w2 (An @z2 (An @w2' (An @z2' (An @b2 (An @b2' (An @k3 (An @w3 (An @z3 (An @w3' (An @z3' (An @b3 (An @b3' (An @k4 (An @w4 (An @z4 (An @w4' (An @z4' (An @b4 (An @b4' (An @pp5 (An @cp5 (An @k5 (An @w5 (An @z5 (An @w5' (An @z5' (An @b5 (@b5'))))))))))))))))))))))))))))))))))))))))
 refine goA ?_
 clear gx
 have KK:=(K5').set (.agg [.str a1,.bool a2,.int .i64 a3,.int .i64 a4,p5])
 have RR:=R5'.setB (Y:=.box (.agg [.str a1,.bool a2,.int .i64 a3,.int .i64 a4,p5])) hid
 rw [List.set_set] at KK RR
 refine ⟨.agg [.str a1,.bool a2,.int .i64 a3,.int .i64 a4,p5],σ5.set τ.length (.box (.agg [.str a1,.bool a2,.int .i64 a3,.int .i64 a4,p5])),by simp [pfinish,w5],?_⟩
 unfold RdQ
 rw [e]
 refine ⟨?_,RR,Nat.le_of_lt KK.lt,fun j h1 h2=>KK.fr j h1 h2⟩
 simp only [PD.strip,PD.stripL,sp5]
 rw [← ep5]
 rfl
end Go.Kz

namespace Go.Kz
open Go Go.Proofs
set_option maxRecDepth 100000
set_option maxHeartbeats 40000000
theorem ns_div (x:DivD):pnewSlice Tryz.prog 33 1 [(0,Em.div.emb x)]=some (.slice 5 [Em.div.emb x] .full):=by
 kernel_rfl
variable {E E1 E2:PExt} (hU:Uni E)
include hU
theorem w_list_div (h0:E 74=none) (h1:E 100=some (gEf Tryz.prog E1 100)) (H1:Reads E1 100 dNum i64.emb) (h2:E 75=some (gEf Tryz.prog E2 75)) (H2:Reads E2 75 dDiv Em.div.emb):ReadsA E 74 (lstA 75) (dList dDiv) divsE.emb:=by
 intro τ id s hr hl
 have hid:=hr.lt
 obtain ⟨τ1,k1,r1,l1,f1⟩:=H1.at hr hl
 have hd:dList dDiv s=dLoop dDiv (dNum s).1.toNat ⟨(dNum s).2.inp,(dNum s).2.bad||decide ((dNum s).1 < 0)⟩:=rfl
 have hln:=rt_num.len s
 obtain ⟨n,hn⟩:=gn ((dNum s).1)
 obtain ⟨s1,hs1⟩:=gn ((dNum s).2)
 rw [hn] at k1 hd
 rw [hs1] at r1 hd hln
 replace k1:=k1.trans (show _=some (.int .i64 n,τ1) from rfl)
 simp only [ptrA] at k1
 obtain ⟨inp,bad⟩:=s1
 obtain ⟨z,hz,hb⟩:=r1
 simp only at hz hb hd hln
 obtain ⟨hlt,hg⟩:=List.getElem?_eq_some_iff.1 hb
 obtain ⟨N,hN⟩:=gn (n.toNat)
 rw [hN] at hd
 have R2:=Rdr.put (bad:=bad||decide (n < 0)) hlt inp hz
 obtain ⟨s2,hs2⟩:=gn (BSt.mk inp (bad||decide (n < 0)))
 rw [hs2] at R2 hd
 have hi2:s2.inp=inp:=by rw [← hs2]
 obtain ⟨xs0,hxs0⟩:=gn (u8s inp)
 rw [hxs0] at hb hg R2
 obtain ⟨τ2,hτ2⟩:=gn (τ1.set id (.box (.agg [.slice z xs0 .any,.bool (bad||decide (n < 0))])))
 rw [hτ2] at R2
 have l2:τ.length≤τ2.length:=by rw [← hτ2,List.length_set];exact l1
 have f2:∀ j,j < τ.length→j≠id→τ2[j]?=τ[j]?:=fun j h1 h2=>by rw [← hτ2,List.getElem?_set_ne (Ne.symm h2)];exact f1 j h1 h2
 obtain ⟨bn,hbn⟩:=gn ((bad||decide (n < 0)))
 rw [hbn] at hτ2
 have hsp:∀ x:DivD,PD.strip (Em.div.emb x)=Em.div.emb x:=fun x=>Em.div.str x
 have hns:=ns_div
 obtain ⟨fin,hfin⟩:=gn (dLoop dDiv N s2)
 rw [hfin] at hd
 unfold RdQ
 rw [hd]
 clear hd
 simp only [lstA]
 apply WpC.bodyL h0 Tryz.func74 rfl
 focus (simp [show Tryz.f74.ntmps=_ from rfl,List.replicate];rfl)
 have hc3:bad=true∨(bad=false∧n < 0)∨(bad=false∧¬ n < 0):=by
  cases bad
  ·exact .inr (by by_cases c:n < 0;exact .inl ⟨rfl,c⟩;exact .inr ⟨rfl,c⟩)
  ·exact .inl rfl
 have hL0:s2.inp.length≤s.inp.length:=by rw [hi2];exact hln
 clear hr hi2 hs2 hln hz hxs0
 rcases hc3 with rfl | ⟨rfl,c2⟩ | ⟨rfl,c2⟩
 rw [show bn=true by rw [← hbn];simp] at hτ2
 have gx:=An @h1 (An @k1 (An @hb (An @hg (@hτ2))))
 refine goA ?_
 clear gx
 rotate_left
 rw [show bn=true by rw [← hbn];simp [c2]] at hτ2
 have gx:=An @h1 (An @k1 (An @hb (An @hg (An @hτ2 (@c2)))))
 refine goA ?_
 clear gx
 rotate_left
 rw [show bn=false by rw [← hbn];simp [c2]] at hτ2
 have gx:=An @h1 (An @k1 (An @hb (An @hg (An @hτ2 (@c2)))))
 refine goA ?_
 clear gx
 all_goals (
 clear hb hg hτ2 hbn k1 f1 l1
 refine Wp.loopI (fun m fr σ=>∃ (i:Nat) (xs:List DivD) (tok:Tok) (st:BSt) (σ1:List SObj),∃ gg:Nat→PD,(i+m=N∧xs.length=i∧Rdr σ1 id st∧RowAt σ1 tok 71 5 i∧(∀ q,tok=.own q→τ.length≤q)∧τ.length≤σ1.length∧(∀ j,j < τ.length→j≠id→σ1[j]?=τ[j]?)∧8*i≤s.inp.length+8∧(st.bad=false→st.inp.length+8*i≤s.inp.length)∧st.inp.length≤s.inp.length∧fin=(xs++(dLoop dDiv (N - i) st).1,(dLoop dDiv (N - i) st).2))∧fr=[.ptr id 0,.mfunc 75 [.ptr id 0],gg 2,gg 3,gg 4,.int .i64 n,.slice (sz 5 xs) (xs.map Em.div.emb) tok,.int .i64 i,gg 8,gg 9,gg 10,gg 11,gg 12,gg 13,gg 14,gg 15,gg 16,gg 17,gg 18,gg 19,gg 20,gg 21,gg 22,gg 23,gg 24,gg 25,gg 26,gg 27,gg 28,gg 29,gg 30,gg 31,gg 32,gg 33,gg 34,gg 35,gg 36,gg 37,gg 38]∧σ=σ1) ?_ (N) (by refine ⟨0,[],.full,s2,τ2,?_⟩;exact exF (⟨by omega,rfl,R2,.inl ⟨rfl,rfl⟩,(fun q h=>by cases h),l2,f2,by omega,(fun _=>by omega),hL0,(by rw [Nat.sub_zero,hfin];rfl)⟩) (by (first | rfl | (simp [];repeat (first | rfl | (apply And.intro))) | (simp [];done))) (by (first | rfl | (simp [];repeat (first | rfl | (apply And.intro))) | (simp [];done))))
 rintro m fr σ ⟨i,xs,tok,st,σ1,gg,hI,rfl,rfl⟩
 obtain ⟨hm,hxl,hR,hrow,hown,hlo,hfr,hb8,hbd,hLe,hfi⟩:=hI
 obtain ⟨z,hz,hb⟩:=hR
 obtain ⟨hlt,hg⟩:=List.getElem?_eq_some_iff.1 hb
 by_cases hi:i < N
 ·have q1:(i:Int) < n:=by omega
  cases hst:st.bad with
  | true=>
    rw [hst] at hb hg
    have hR0:Rdr σ id st:=⟨z,hz,by rw [hst];exact hb⟩
    rw [dLoop_bad _ _ hst,List.append_nil] at hfi
    obtain ⟨ys,hys⟩:=gn (u8s st.inp)
    rw [hys] at hb hg
    have hfs:=strip_sl2 Em.div 5 (sz 5 xs) xs (by unfold sz;by_cases h:xs=[];exact .inl h;exact .inr (if_neg (fun e=>h (List.eq_nil_of_length_eq_zero e)))) tok
    have gx:=An @q1 (An @hb (@hg))
    refine goA ?_
    clear gx
    exact ⟨_,_,rfl,by rw [hfi];exact hfs,by rw [hfi];exact hR0,hlo,hfr⟩
  | false=>
    rw [hst] at hb hg
    have hR0:Rdr σ id st:=⟨z,hz,by rw [hst];exact hb⟩
    obtain ⟨σ7,k7,R7,l7,f7⟩:=H2.at hR0 (by omega)
    have hu:=rt_div.use st
    have hle2:=rt_div.len st
    have hdl:dLoop dDiv (N - i) st=((dDiv st).1::(dLoop dDiv (N - (i+1)) (dDiv st).2).1,(dLoop dDiv (N - (i+1)) (dDiv st).2).2):=by
     rw [show N - i=(N - (i+1))+1 by omega]
     simp [dLoop,hst]
    rw [hdl] at hfi
    obtain ⟨x,hx⟩:=gn ((dDiv st).1)
    obtain ⟨st2,hst2⟩:=gn ((dDiv st).2)
    rw [hx] at k7 hfi
    rw [hst2] at R7 hfi hu hle2
    have hs1:=hsp x
    have hn1:pnewSlice Tryz.prog 33 1 (List.map (fun q=>(q.1,q.2.strip)) [((0:Nat),Em.div.emb x)])=some (.slice 5 [Em.div.emb x] .full):=by
     simp only [List.map_cons,List.map_nil,hs1]
     exact hns x
    have hmap:(xs++[x]).map Em.div.emb=xs.map Em.div.emb++[Em.div.emb x]:=by simp
    obtain ⟨ex,hex⟩:=gn (Em.div.emb x)
    rw [hex] at k7 hs1 hn1 hmap
    simp only [ptrA] at k7
    have hr7:RowAt σ7 tok 71 5 (xs.map Em.div.emb).length:=by
     rw [List.length_map,hxl]
     exact hrow.keep fun q o e h=>by
      rw [f7 q (List.getElem?_eq_some_iff.1 h).1 (by have:=hown q e;omega)]
      exact h
    obtain ⟨tok',σ8,ap,ra,kp,ow⟩:=pappend_row (P:=Tryz.prog) (t:=33) (e:=71) (k:=5) (b:=64) (s:=sz 5 xs) (p:=ex) (tk:=.any) Tryz.underlying33 (by kernel_rfl) (by unfold sz;by_cases h:xs=[];exact .inl (by rw [h];rfl);exact .inr (if_neg (fun e=>h (List.eq_nil_of_length_eq_zero e)))) hr7 (by rw [List.length_map];omega) (by rw [List.length_map];omega)
    obtain ⟨ys,hys⟩:=gn (u8s st.inp)
    rw [hys] at hb hg
    have hsz:sz 5 (xs++[x])=5:=sz_ne (by simp)
    have hlt7:σ7.length≤σ8.length:=by
     rcases Nat.lt_or_ge σ8.length σ7.length with h | h
     ·exfalso
      obtain ⟨o,ho⟩:∃ o,σ7[σ7.length - 1]?=some o:=⟨_,List.getElem?_eq_getElem (by omega)⟩
      by_cases e:tok=.own (σ7.length - 1)
      ·rcases ra with ⟨h1,_⟩ | ⟨_,q,h1,h2⟩
       ·omega
       ·have h3:=(List.getElem?_eq_some_iff.1 h2).1
        rcases ow q h1 with h4 | h4
        ·rw [e] at h4;cases h4;omega
        ·omega
      ·have h3:=(List.getElem?_eq_some_iff.1 (kp _ _ e ho)).1
       omega
     ·exact h
    have hkeep8:∀ j,j < σ7.length→tok≠.own j→σ8[j]?=σ7[j]?:=fun j h1 h2=>by rw [kp j _ h2 (List.getElem?_eq_getElem h1),List.getElem?_eq_getElem h1]
    have hid7:tok≠.own id:=fun e=>by
     have:=hown id e
     omega
    have hlow:∀ j,j < τ.length→tok≠.own j:=fun j hj e=>by
     have:=hown j e
     omega
    have hown2:∀ q,tok'=.own q→τ.length≤q:=fun q e=>by
     rcases ow q e with h | h
     ·exact hown q h
     ·omega
    have hR2:Rdr σ8 id st2:=R7.keep (hkeep8 id R7.lt hid7)
    have hra2:RowAt σ8 tok' 71 5 (i+1):=by rw [List.length_map,hxl] at ra;exact ra
    have hfr2:∀ j,j < τ.length→j≠id→σ8[j]?=τ[j]?:=fun j h1 h2=>by rw [hkeep8 j (by omega) (hlow j h1),f7 j (by omega) h2];exact hfr j h1 h2
    have hb82:8*(i+1)≤s.inp.length+8:=by have:=hbd hst;omega
    have hbd2:st2.bad=false→st2.inp.length+8*(i+1)≤s.inp.length:=fun h=>by have:=hu h;have:=hbd hst;omega
    have hfi2:fin=((xs++[x])++(dLoop dDiv (N - (i+1)) st2).1,(dLoop dDiv (N - (i+1)) st2).2):=by rw [hfi];simp
    have gx:=An @q1 (An @hb (@hg))
    refine goA ?_
    clear gx
    first | refine Wp.seq ?_ | skip
    apply Wp.regionS
    repeat (first
     | (refine By.i ?_;(focus assumption)) | (refine Fr.i ?_;simp only [pput,List.set_cons_zero,List.set_cons_succ];try rfl)
     | (refine By.i ?_;(focus (simp (disch:=first | omega | (simp;done) | (simp;omega)) [wrap_i64,wrap_u64,h2,k7,hs1,ap];first | done | rfl | exact ⟨rfl,rfl⟩)))
     | (refine By.i ?_;simp (disch:=first | omega | (simp;done) | (simp;omega)) [wrap_i64,wrap_u64,h2,k7,hs1,ap];refine ⟨(by (try simp only [List.length_append,List.length_cons,List.length_nil,maxLen]);omega),rfl⟩)
     | (refine Wt.i ?_;first | rfl | (focus (simp [h2,k7,hs1,ap];done)))
     | (refine Ns.i ?_;(try simp only [List.append_nil,List.nil_append,List.cons_append,List.append_assoc,List.length_append,List.length_cons,List.length_nil,Nat.zero_add,Nat.reduceAdd]);rfl) | rfl
     | (apply SL.pass;(focus (refine Wt.i ?_;rfl))) | (apply SL.mcall;rotate_left;(focus rfl);rotate_right) | (apply SL.convertR;(focus rfl)) | apply SL.move | apply SL.assign | apply SL.load | apply SL.isnilE | apply SL.isnilN
     | apply SL.make | apply SL.binOp | apply SL.append | apply SL.copy | apply SL.builtin | apply SL.fieldAddr | apply SL.indexAddr | apply SL.field | apply SL.extract | apply SL.fcall | apply SL.pick | apply SL.store | apply SL.unOp
     | apply SL.convert | apply SL.index | apply SL.slice | apply SL.build | apply SL.nilCheck | apply SL.buildSlice | apply SL.box | apply SL.alloc | apply SL.makeFunc)
    apply SQ.nil
    have gx:=An @q1 (An @hb (@hg))
    refine goA ?_
    clear gx
    refine LoopI.normal (m - 1) (by omega) (by refine ⟨i+1,xs++[x],tok',st2,σ8,?_⟩;exact exF (⟨by omega,by simp [hxl],hR2,hra2,hown2,by omega,hfr2,hb82,hbd2,by omega,hfi2⟩) (by (first | rfl | (simp [hmap,hsz];repeat (first | rfl | (apply And.intro))) | (simp [hmap,hsz];done))) (by (first | rfl | (simp [hmap,hsz];repeat (first | rfl | (apply And.intro))) | (simp [hmap,hsz];done))))
 ·have q1:¬ (i:Int) < n:=by omega
  have hR0:Rdr σ id st:=⟨z,hz,hb⟩
  rw [show N - i=0 by omega] at hfi
  simp only [dLoop,List.append_nil] at hfi
  have hfs:=strip_sl2 Em.div 5 (sz 5 xs) xs (by unfold sz;by_cases h:xs=[];exact .inl h;exact .inr (if_neg (fun e=>h (List.eq_nil_of_length_eq_zero e)))) tok
  have gx:=@q1
  refine goA ?_
  clear gx
  exact ⟨_,_,rfl,by rw [hfi];exact hfs,by rw [hfi];exact hR0,hlo,hfr⟩)
end Go.Kz

namespace Go.Kz
open Go Go.Proofs
set_option maxRecDepth 100000
set_option maxHeartbeats 40000000
variable {E E1 E2 E3:PExt} (hU:Uni E)
include hU
theorem w_coup (h0:E 77=none) (h1:E 71=some (gEf Tryz.prog E1 71)) (H1:Reads E1 71 dText PD.str) (h2:E 100=some (gEf Tryz.prog E2 100)) (H2:Reads E2 100 dNum i64.emb) (h3:E 103=some (gEf Tryz.prog E3 103)) (H3:Reads E3 103 dTruth PD.bool):Reads E 77 dCoup Em.coup.emb:=by
 intro τ id s hr hl
 have hid:=hr.lt
 have K0:Kp τ (τ++[.box (.agg [.str [],.int .i64 0,.int .i64 0,.int .i64 0,.bool false])]) id τ.length (.agg [.str [],.int .i64 0,.int .i64 0,.int .i64 0,.bool false]):=Kp.new
 have R0:Rdr (τ++[.box (.agg [.str [],.int .i64 0,.int .i64 0,.int .i64 0,.bool false])]) id s:=hr.more
 obtain ⟨w0,z0⟩:=K0.at
 obtain ⟨σ1,k1,K1,R1⟩:=H1.next K0 R0 (by omega) hid
 have l1:=rt_text.len s
 obtain ⟨a1,ea1⟩:=gn ((dText s).1)
 obtain ⟨s1,es1⟩:=gn ((dText s).2)
 rw [ea1] at k1
 rw [es1] at R1 l1
 have K1':=K1.set (.agg [.str a1,.int .i64 0,.int .i64 0,.int .i64 0,.bool false])
 have R1':=R1.setB (Y:=.box (.agg [.str a1,.int .i64 0,.int .i64 0,.int .i64 0,.bool false])) hid
 obtain ⟨w1,z1⟩:=K1.at
 obtain ⟨w1',z1'⟩:=K1'.at
 have b1:=K1.bx
 have b1':=K1'.bx
 replace k1:=k1.trans (show _=some (.str a1,σ1) from rfl)
 obtain ⟨σ2,k2,K2,R2⟩:=H2.next K1' R1' (by omega) hid
 have l2:=rt_num.len s1
 obtain ⟨a2,ea2⟩:=gn ((dNum s1).1)
 obtain ⟨s2,es2⟩:=gn ((dNum s1).2)
 rw [ea2] at k2
 rw [es2] at R2 l2
 have K2':=K2.set (.agg [.str a1,.int .i64 a2,.int .i64 0,.int .i64 0,.bool false])
 have R2':=R2.setB (Y:=.box (.agg [.str a1,.int .i64 a2,.int .i64 0,.int .i64 0,.bool false])) hid
 obtain ⟨w2,z2⟩:=K2.at
 obtain ⟨w2',z2'⟩:=K2'.at
 have b2:=K2.bx
 have b2':=K2'.bx
 replace k2:=k2.trans (show _=some (.int .i64 a2,σ2) from rfl)
 obtain ⟨σ3,k3,K3,R3⟩:=H2.next K2' R2' (by omega) hid
 have l3:=rt_num.len s2
 obtain ⟨a3,ea3⟩:=gn ((dNum s2).1)
 obtain ⟨s3,es3⟩:=gn ((dNum s2).2)
 rw [ea3] at k3
 rw [es3] at R3 l3
 have K3':=K3.set (.agg [.str a1,.int .i64 a2,.int .i64 a3,.int .i64 0,.bool false])
 have R3':=R3.setB (Y:=.box (.agg [.str a1,.int .i64 a2,.int .i64 a3,.int .i64 0,.bool false])) hid
 obtain ⟨w3,z3⟩:=K3.at
 obtain ⟨w3',z3'⟩:=K3'.at
 have b3:=K3.bx
 have b3':=K3'.bx
 replace k3:=k3.trans (show _=some (.int .i64 a3,σ3) from rfl)
 obtain ⟨σ4,k4,K4,R4⟩:=H2.next K3' R3' (by omega) hid
 have l4:=rt_num.len s3
 obtain ⟨a4,ea4⟩:=gn ((dNum s3).1)
 obtain ⟨s4,es4⟩:=gn ((dNum s3).2)
 rw [ea4] at k4
 rw [es4] at R4 l4
 have K4':=K4.set (.agg [.str a1,.int .i64 a2,.int .i64 a3,.int .i64 a4,.bool false])
 have R4':=R4.setB (Y:=.box (.agg [.str a1,.int .i64 a2,.int .i64 a3,.int .i64 a4,.bool false])) hid
 obtain ⟨w4,z4⟩:=K4.at
 obtain ⟨w4',z4'⟩:=K4'.at
 have b4:=K4.bx
 have b4':=K4'.bx
 replace k4:=k4.trans (show _=some (.int .i64 a4,σ4) from rfl)
 obtain ⟨σ5,k5,K5,R5⟩:=H3.next K4' R4' (by omega) hid
 have l5:=rt_truth.len s4
 obtain ⟨a5,ea5⟩:=gn ((dTruth s4).1)
 obtain ⟨s5,es5⟩:=gn ((dTruth s4).2)
 rw [ea5] at k5
 rw [es5] at R5 l5
 have K5':=K5.set (.agg [.str a1,.int .i64 a2,.int .i64 a3,.int .i64 a4,.bool a5])
 have R5':=R5.setB (Y:=.box (.agg [.str a1,.int .i64 a2,.int .i64 a3,.int .i64 a4,.bool a5])) hid
 obtain ⟨w5,z5⟩:=K5.at
 obtain ⟨w5',z5'⟩:=K5'.at
 have b5:=K5.bx
 have b5':=K5'.bx
 replace k5:=k5.trans (show _=some (.bool a5,σ5) from rfl)
 have e:dCoup s=(⟨a1,a2,a3,a4,a5⟩,s5):=by
  unfold dCoup
  simp only [ea1,es1,ea2,es2,ea3,es3,ea4,es4,ea5,es5]
 simp only [ptrA,lstA] at k1 k2 k3 k4 k5
 apply WpC.bodyL h0 Tryz.func77 rfl
 focus (simp [show Tryz.f77.ntmps=_ from rfl,List.replicate];rfl)
 have gx:=An @h1 (An @h2 (An @h3 (An @k1 (An @w1 (An @z1 (An @w1' (An @z1' (An @b1 (An @b1' (An @k2 (An @w2 (An @z2 (An @w2' (An @z2' (An @b2 (An @b2' (An @k3 (An @w3 (An @z3 (An @w3' (An @z3' (An @b3 (An @b3' (An @k4 (An @w4 (An @z4 (An @w4' (An @z4' (An @b4 (An @b4' (An @k5 (An @w5 (An @z5 (An @w5' (An @z5' (An @b5 (@b5')))))))))))))))))))))))))))))))))))))
 refine goA ?_
 clear gx
 have KK:=(K5').set (.agg [.str a1,.int .i64 a2,.int .i64 a3,.int .i64 a4,.bool a5])
 have RR:=R5'.setB (Y:=.box (.agg [.str a1,.int .i64 a2,.int .i64 a3,.int .i64 a4,.bool a5])) hid
 rw [List.set_set] at KK RR
 refine ⟨.agg [.str a1,.int .i64 a2,.int .i64 a3,.int .i64 a4,.bool a5],σ5.set τ.length (.box (.agg [.str a1,.int .i64 a2,.int .i64 a3,.int .i64 a4,.bool a5])),by simp [pfinish,w5],?_⟩
 unfold RdQ
 rw [e]
 refine ⟨?_,RR,Nat.le_of_lt KK.lt,fun j h1 h2=>KK.fr j h1 h2⟩
 simp only [PD.strip,PD.stripL]
 rfl
end Go.Kz

namespace Go.Kz
open Go Go.Proofs
set_option maxRecDepth 100000
set_option maxHeartbeats 40000000
theorem ns_coup (x:CoupD):pnewSlice Tryz.prog 34 1 [(0,Em.coup.emb x)]=some (.slice 5 [Em.coup.emb x] .full):=by
 kernel_rfl
variable {E E1 E2:PExt} (hU:Uni E)
include hU
theorem w_list_coup (h0:E 76=none) (h1:E 100=some (gEf Tryz.prog E1 100)) (H1:Reads E1 100 dNum i64.emb) (h2:E 77=some (gEf Tryz.prog E2 77)) (H2:Reads E2 77 dCoup Em.coup.emb):ReadsA E 76 (lstA 77) (dList dCoup) coupsE.emb:=by
 intro τ id s hr hl
 have hid:=hr.lt
 obtain ⟨τ1,k1,r1,l1,f1⟩:=H1.at hr hl
 have hd:dList dCoup s=dLoop dCoup (dNum s).1.toNat ⟨(dNum s).2.inp,(dNum s).2.bad||decide ((dNum s).1 < 0)⟩:=rfl
 have hln:=rt_num.len s
 obtain ⟨n,hn⟩:=gn ((dNum s).1)
 obtain ⟨s1,hs1⟩:=gn ((dNum s).2)
 rw [hn] at k1 hd
 rw [hs1] at r1 hd hln
 replace k1:=k1.trans (show _=some (.int .i64 n,τ1) from rfl)
 simp only [ptrA] at k1
 obtain ⟨inp,bad⟩:=s1
 obtain ⟨z,hz,hb⟩:=r1
 simp only at hz hb hd hln
 obtain ⟨hlt,hg⟩:=List.getElem?_eq_some_iff.1 hb
 obtain ⟨N,hN⟩:=gn (n.toNat)
 rw [hN] at hd
 have R2:=Rdr.put (bad:=bad||decide (n < 0)) hlt inp hz
 obtain ⟨s2,hs2⟩:=gn (BSt.mk inp (bad||decide (n < 0)))
 rw [hs2] at R2 hd
 have hi2:s2.inp=inp:=by rw [← hs2]
 obtain ⟨xs0,hxs0⟩:=gn (u8s inp)
 rw [hxs0] at hb hg R2
 obtain ⟨τ2,hτ2⟩:=gn (τ1.set id (.box (.agg [.slice z xs0 .any,.bool (bad||decide (n < 0))])))
 rw [hτ2] at R2
 have l2:τ.length≤τ2.length:=by rw [← hτ2,List.length_set];exact l1
 have f2:∀ j,j < τ.length→j≠id→τ2[j]?=τ[j]?:=fun j h1 h2=>by rw [← hτ2,List.getElem?_set_ne (Ne.symm h2)];exact f1 j h1 h2
 obtain ⟨bn,hbn⟩:=gn ((bad||decide (n < 0)))
 rw [hbn] at hτ2
 have hsp:∀ x:CoupD,PD.strip (Em.coup.emb x)=Em.coup.emb x:=fun x=>Em.coup.str x
 have hns:=ns_coup
 obtain ⟨fin,hfin⟩:=gn (dLoop dCoup N s2)
 rw [hfin] at hd
 unfold RdQ
 rw [hd]
 clear hd
 simp only [lstA]
 apply WpC.bodyL h0 Tryz.func76 rfl
 focus (simp [show Tryz.f76.ntmps=_ from rfl,List.replicate];rfl)
 have hc3:bad=true∨(bad=false∧n < 0)∨(bad=false∧¬ n < 0):=by
  cases bad
  ·exact .inr (by by_cases c:n < 0;exact .inl ⟨rfl,c⟩;exact .inr ⟨rfl,c⟩)
  ·exact .inl rfl
 have hL0:s2.inp.length≤s.inp.length:=by rw [hi2];exact hln
 clear hr hi2 hs2 hln hz hxs0
 rcases hc3 with rfl | ⟨rfl,c2⟩ | ⟨rfl,c2⟩
 rw [show bn=true by rw [← hbn];simp] at hτ2
 have gx:=An @h1 (An @k1 (An @hb (An @hg (@hτ2))))
 refine goA ?_
 clear gx
 rotate_left
 rw [show bn=true by rw [← hbn];simp [c2]] at hτ2
 have gx:=An @h1 (An @k1 (An @hb (An @hg (An @hτ2 (@c2)))))
 refine goA ?_
 clear gx
 rotate_left
 rw [show bn=false by rw [← hbn];simp [c2]] at hτ2
 have gx:=An @h1 (An @k1 (An @hb (An @hg (An @hτ2 (@c2)))))
 refine goA ?_
 clear gx
 all_goals (
 clear hb hg hτ2 hbn k1 f1 l1
 refine Wp.loopI (fun m fr σ=>∃ (i:Nat) (xs:List CoupD) (tok:Tok) (st:BSt) (σ1:List SObj),∃ gg:Nat→PD,(i+m=N∧xs.length=i∧Rdr σ1 id st∧RowAt σ1 tok 76 5 i∧(∀ q,tok=.own q→τ.length≤q)∧τ.length≤σ1.length∧(∀ j,j < τ.length→j≠id→σ1[j]?=τ[j]?)∧8*i≤s.inp.length+8∧(st.bad=false→st.inp.length+8*i≤s.inp.length)∧st.inp.length≤s.inp.length∧fin=(xs++(dLoop dCoup (N - i) st).1,(dLoop dCoup (N - i) st).2))∧fr=[.ptr id 0,.mfunc 77 [.ptr id 0],gg 2,gg 3,gg 4,.int .i64 n,.slice (sz 5 xs) (xs.map Em.coup.emb) tok,.int .i64 i,gg 8,gg 9,gg 10,gg 11,gg 12,gg 13,gg 14,gg 15,gg 16,gg 17,gg 18,gg 19,gg 20,gg 21,gg 22,gg 23,gg 24,gg 25,gg 26,gg 27,gg 28,gg 29,gg 30,gg 31,gg 32,gg 33,gg 34,gg 35,gg 36,gg 37,gg 38]∧σ=σ1) ?_ (N) (by refine ⟨0,[],.full,s2,τ2,?_⟩;exact exF (⟨by omega,rfl,R2,.inl ⟨rfl,rfl⟩,(fun q h=>by cases h),l2,f2,by omega,(fun _=>by omega),hL0,(by rw [Nat.sub_zero,hfin];rfl)⟩) (by (first | rfl | (simp [];repeat (first | rfl | (apply And.intro))) | (simp [];done))) (by (first | rfl | (simp [];repeat (first | rfl | (apply And.intro))) | (simp [];done))))
 rintro m fr σ ⟨i,xs,tok,st,σ1,gg,hI,rfl,rfl⟩
 obtain ⟨hm,hxl,hR,hrow,hown,hlo,hfr,hb8,hbd,hLe,hfi⟩:=hI
 obtain ⟨z,hz,hb⟩:=hR
 obtain ⟨hlt,hg⟩:=List.getElem?_eq_some_iff.1 hb
 by_cases hi:i < N
 ·have q1:(i:Int) < n:=by omega
  cases hst:st.bad with
  | true=>
    rw [hst] at hb hg
    have hR0:Rdr σ id st:=⟨z,hz,by rw [hst];exact hb⟩
    rw [dLoop_bad _ _ hst,List.append_nil] at hfi
    obtain ⟨ys,hys⟩:=gn (u8s st.inp)
    rw [hys] at hb hg
    have hfs:=strip_sl2 Em.coup 5 (sz 5 xs) xs (by unfold sz;by_cases h:xs=[];exact .inl h;exact .inr (if_neg (fun e=>h (List.eq_nil_of_length_eq_zero e)))) tok
    have gx:=An @q1 (An @hb (@hg))
    refine goA ?_
    clear gx
    exact ⟨_,_,rfl,by rw [hfi];exact hfs,by rw [hfi];exact hR0,hlo,hfr⟩
  | false=>
    rw [hst] at hb hg
    have hR0:Rdr σ id st:=⟨z,hz,by rw [hst];exact hb⟩
    obtain ⟨σ7,k7,R7,l7,f7⟩:=H2.at hR0 (by omega)
    have hu:=rt_coup.use st
    have hle2:=rt_coup.len st
    have hdl:dLoop dCoup (N - i) st=((dCoup st).1::(dLoop dCoup (N - (i+1)) (dCoup st).2).1,(dLoop dCoup (N - (i+1)) (dCoup st).2).2):=by
     rw [show N - i=(N - (i+1))+1 by omega]
     simp [dLoop,hst]
    rw [hdl] at hfi
    obtain ⟨x,hx⟩:=gn ((dCoup st).1)
    obtain ⟨st2,hst2⟩:=gn ((dCoup st).2)
    rw [hx] at k7 hfi
    rw [hst2] at R7 hfi hu hle2
    have hs1:=hsp x
    have hn1:pnewSlice Tryz.prog 34 1 (List.map (fun q=>(q.1,q.2.strip)) [((0:Nat),Em.coup.emb x)])=some (.slice 5 [Em.coup.emb x] .full):=by
     simp only [List.map_cons,List.map_nil,hs1]
     exact hns x
    have hmap:(xs++[x]).map Em.coup.emb=xs.map Em.coup.emb++[Em.coup.emb x]:=by simp
    obtain ⟨ex,hex⟩:=gn (Em.coup.emb x)
    rw [hex] at k7 hs1 hn1 hmap
    simp only [ptrA] at k7
    have hr7:RowAt σ7 tok 76 5 (xs.map Em.coup.emb).length:=by
     rw [List.length_map,hxl]
     exact hrow.keep fun q o e h=>by
      rw [f7 q (List.getElem?_eq_some_iff.1 h).1 (by have:=hown q e;omega)]
      exact h
    obtain ⟨tok',σ8,ap,ra,kp,ow⟩:=pappend_row (P:=Tryz.prog) (t:=34) (e:=76) (k:=5) (b:=48) (s:=sz 5 xs) (p:=ex) (tk:=.any) Tryz.underlying34 (by kernel_rfl) (by unfold sz;by_cases h:xs=[];exact .inl (by rw [h];rfl);exact .inr (if_neg (fun e=>h (List.eq_nil_of_length_eq_zero e)))) hr7 (by rw [List.length_map];omega) (by rw [List.length_map];omega)
    obtain ⟨ys,hys⟩:=gn (u8s st.inp)
    rw [hys] at hb hg
    have hsz:sz 5 (xs++[x])=5:=sz_ne (by simp)
    have hlt7:σ7.length≤σ8.length:=by
     rcases Nat.lt_or_ge σ8.length σ7.length with h | h
     ·exfalso
      obtain ⟨o,ho⟩:∃ o,σ7[σ7.length - 1]?=some o:=⟨_,List.getElem?_eq_getElem (by omega)⟩
      by_cases e:tok=.own (σ7.length - 1)
      ·rcases ra with ⟨h1,_⟩ | ⟨_,q,h1,h2⟩
       ·omega
       ·have h3:=(List.getElem?_eq_some_iff.1 h2).1
        rcases ow q h1 with h4 | h4
        ·rw [e] at h4;cases h4;omega
        ·omega
      ·have h3:=(List.getElem?_eq_some_iff.1 (kp _ _ e ho)).1
       omega
     ·exact h
    have hkeep8:∀ j,j < σ7.length→tok≠.own j→σ8[j]?=σ7[j]?:=fun j h1 h2=>by rw [kp j _ h2 (List.getElem?_eq_getElem h1),List.getElem?_eq_getElem h1]
    have hid7:tok≠.own id:=fun e=>by
     have:=hown id e
     omega
    have hlow:∀ j,j < τ.length→tok≠.own j:=fun j hj e=>by
     have:=hown j e
     omega
    have hown2:∀ q,tok'=.own q→τ.length≤q:=fun q e=>by
     rcases ow q e with h | h
     ·exact hown q h
     ·omega
    have hR2:Rdr σ8 id st2:=R7.keep (hkeep8 id R7.lt hid7)
    have hra2:RowAt σ8 tok' 76 5 (i+1):=by rw [List.length_map,hxl] at ra;exact ra
    have hfr2:∀ j,j < τ.length→j≠id→σ8[j]?=τ[j]?:=fun j h1 h2=>by rw [hkeep8 j (by omega) (hlow j h1),f7 j (by omega) h2];exact hfr j h1 h2
    have hb82:8*(i+1)≤s.inp.length+8:=by have:=hbd hst;omega
    have hbd2:st2.bad=false→st2.inp.length+8*(i+1)≤s.inp.length:=fun h=>by have:=hu h;have:=hbd hst;omega
    have hfi2:fin=((xs++[x])++(dLoop dCoup (N - (i+1)) st2).1,(dLoop dCoup (N - (i+1)) st2).2):=by rw [hfi];simp
    have gx:=An @q1 (An @hb (@hg))
    refine goA ?_
    clear gx
    first | refine Wp.seq ?_ | skip
    apply Wp.regionS
    repeat (first
     | (refine By.i ?_;(focus assumption)) | (refine Fr.i ?_;simp only [pput,List.set_cons_zero,List.set_cons_succ];try rfl)
     | (refine By.i ?_;(focus (simp (disch:=first | omega | (simp;done) | (simp;omega)) [wrap_i64,wrap_u64,h2,k7,hs1,ap];first | done | rfl | exact ⟨rfl,rfl⟩)))
     | (refine By.i ?_;simp (disch:=first | omega | (simp;done) | (simp;omega)) [wrap_i64,wrap_u64,h2,k7,hs1,ap];refine ⟨(by (try simp only [List.length_append,List.length_cons,List.length_nil,maxLen]);omega),rfl⟩)
     | (refine Wt.i ?_;first | rfl | (focus (simp [h2,k7,hs1,ap];done)))
     | (refine Ns.i ?_;(try simp only [List.append_nil,List.nil_append,List.cons_append,List.append_assoc,List.length_append,List.length_cons,List.length_nil,Nat.zero_add,Nat.reduceAdd]);rfl) | rfl
     | (apply SL.pass;(focus (refine Wt.i ?_;rfl))) | (apply SL.mcall;rotate_left;(focus rfl);rotate_right) | (apply SL.convertR;(focus rfl)) | apply SL.move | apply SL.assign | apply SL.load | apply SL.isnilE | apply SL.isnilN
     | apply SL.make | apply SL.binOp | apply SL.append | apply SL.copy | apply SL.builtin | apply SL.fieldAddr | apply SL.indexAddr | apply SL.field | apply SL.extract | apply SL.fcall | apply SL.pick | apply SL.store | apply SL.unOp
     | apply SL.convert | apply SL.index | apply SL.slice | apply SL.build | apply SL.nilCheck | apply SL.buildSlice | apply SL.box | apply SL.alloc | apply SL.makeFunc)
    apply SQ.nil
    have gx:=An @q1 (An @hb (@hg))
    refine goA ?_
    clear gx
    refine LoopI.normal (m - 1) (by omega) (by refine ⟨i+1,xs++[x],tok',st2,σ8,?_⟩;exact exF (⟨by omega,by simp [hxl],hR2,hra2,hown2,by omega,hfr2,hb82,hbd2,by omega,hfi2⟩) (by (first | rfl | (simp [hmap,hsz];repeat (first | rfl | (apply And.intro))) | (simp [hmap,hsz];done))) (by (first | rfl | (simp [hmap,hsz];repeat (first | rfl | (apply And.intro))) | (simp [hmap,hsz];done))))
 ·have q1:¬ (i:Int) < n:=by omega
  have hR0:Rdr σ id st:=⟨z,hz,hb⟩
  rw [show N - i=0 by omega] at hfi
  simp only [dLoop,List.append_nil] at hfi
  have hfs:=strip_sl2 Em.coup 5 (sz 5 xs) xs (by unfold sz;by_cases h:xs=[];exact .inl h;exact .inr (if_neg (fun e=>h (List.eq_nil_of_length_eq_zero e)))) tok
  have gx:=@q1
  refine goA ?_
  clear gx
  exact ⟨_,_,rfl,by rw [hfi];exact hfs,by rw [hfi];exact hR0,hlo,hfr⟩)
end Go.Kz
