/-
  Part D2 of the way: an interpreter over pure data, its soundness, walks through functions.
-/
import Derived.Test.YtefkonhamghgfaaGreatDoorD1
import Derived.Test.YtefkonhamghgfaaGreatDoorP7
set_option linter.all false

namespace Go.Kz
open Go Go.Proofs
set_option maxRecDepth 100000
set_option maxHeartbeats 4000000
noncomputable def gStopD:=entry (gf1 Em.stop bytE fun s=>gif ((eStop s).length≤1000000) (some (eStop s)))
theorem eStop_ne (s:StopD):eStop s≠[]:=fun e=>by
 have:=congrArg List.length e
 simp only [eStop,eText,List.length_append,b8_length,List.length_nil] at this
 omega
theorem gStopD_of (fl:Nat) {s:StopD} (h:(eStop s).length≤1000000) {p:PD} (hp:p.strip=Em.stop.emb s) (σ:List SObj):gStopD fl [p] σ=some (.slice 1 (u8s (eStop s)) .any,σ):=by
 have e1:Em.stop.dec p=some s:=Em.dec_some hp
 unfold gStopD entry gf1
 simp only [e1,gif_pos h,emb_byt1 (eStop_ne s)]
variable {E:PExt} (hU:Uni E)
include hU
theorem r_divB (h0:E 30=none) (h1:E 27=some gWordD) (h2:E 65=some gNumsD) (h4:E 66=some gTruD) (h3:E 58=some (gBy 5 gCat)) (h5:E 67=some gStopD)
  (r:DivD) (hT:(eDiv r).length≤1000000):RunB Tryz.prog E 5 30 [Em.div.emb r] (eDiv r):=by
 refine RunB.of ?_
 obtain ⟨nm,pe,lo,hg,gs⟩:=r
 have hn:nm.length≤1000000:=by
  simp only [eDiv,eText,List.length_append] at hT
  omega
 simp only [emb_div,emb_list]
 obtain ⟨pre,hpre⟩:=gn (eText nm++(eTruth pe++[lo,hg,(gs.length:Int)].flatMap b8))
 have hsp:eDiv ⟨nm,pe,lo,hg,gs⟩=pre++gs.flatMap eStop:=by rw [← hpre];simp [eDiv,eList]
 rw [hsp] at hT ⊢
 apply WpC.bodyL h0 Tryz.func30 rfl
 focus (simp [show Tryz.f30.ntmps=_ from rfl,List.replicate];rfl)
 clear hU
 have gx:=True.intro
 refine goA ?_
 clear gx
 have k1:=pcallN_of (fl:=0) (σ:=[.box (.agg [.str nm,.bool pe,.int .i64 lo,.int .i64 hg,.slice (sz 4 gs) (gs.map Em.stop.emb) .any])]) h1 (fun fl=>gWordD_emb fl hn _)
 have k2:=pcallN_of (fl:=0) (σ:=[.box (.agg [.str nm,.bool pe,.int .i64 lo,.int .i64 hg,.slice (sz 4 gs) (gs.map Em.stop.emb) .any])]) h4 (fun fl=>gTruD_emb fl pe _)
 have k3:=pcallN_of (fl:=0) (σ:=[.box (.agg [.str nm,.bool pe,.int .i64 lo,.int .i64 hg,.slice (sz 4 gs) (gs.map Em.stop.emb) .any])]) (args:=[.slice 1 [.int .i64 lo,.int .i64 hg,.int .i64 gs.length] .full]) h2 (fun fl=>gNumsD_emb fl (l:=[lo,hg,gs.length]) (by simp) (by rfl) _)
 have hE:([eText nm,eTruth pe,[lo,hg,(gs.length:Int)].flatMap b8]:List (List UInt8)).flatten=pre:=by
  simp [← hpre]
 have hlen:([eText nm,eTruth pe,[lo,hg,(gs.length:Int)].flatMap b8]:List (List UInt8)).flatten.length≤100000000:=by
  simp only [List.flatten_cons,List.flatten_nil,List.length_append,flat_b8,eText,eTruth,b8_length,List.length_cons,List.length_nil]
  omega
 have hnE:([eText nm,eTruth pe,[lo,hg,(gs.length:Int)].flatMap b8]:List (List UInt8)).flatten≠[]:=fun e=>by
  have:=congrArg List.length e
  simp only [List.flatten_cons,List.flatten_nil,List.length_append,eText,b8_length,List.length_nil] at this
  omega
 have k9:=pcallN_of (fl:=0) (σ:=[.box (.agg [.str nm,.bool pe,.int .i64 lo,.int .i64 hg,.slice (sz 4 gs) (gs.map Em.stop.emb) .any])]) h3 (fun fl=>gCat_emb fl (l:=[eText nm,eTruth pe,[lo,hg,(gs.length:Int)].flatMap b8]) (by simp) hnE hlen (by simp) _)
 rw [hE] at k9 hnE hlen
 have hn:=ns_byt3 (eText nm) (eTruth pe) ([lo,hg,(gs.length:Int)].flatMap b8)
 simp only [List.map_cons,List.map_nil] at k9
 have es1:=bytE.str (eText nm)
 obtain ⟨p1,hp1⟩:=gn (bytE.emb (eText nm))
 have es2:=bytE.str (eTruth pe)
 obtain ⟨p2,hp2⟩:=gn (bytE.emb (eTruth pe))
 have es3:=bytE.str ([lo,hg,(gs.length:Int)].flatMap b8)
 obtain ⟨p3,hp3⟩:=gn (bytE.emb ([lo,hg,(gs.length:Int)].flatMap b8))
 rw [hp1,hp2,hp3] at k9 hn
 rw [hp1] at es1 k1
 rw [hp2] at es2 k2
 rw [hp3] at es3 k3
 have hn1:pnewSlice Tryz.prog 129 3 (List.map (fun q=>(q.1,q.2.strip)) [((0:Nat),p1),((1:Nat),p2),((2:Nat),p3)])=some (.slice 1 [p1,p2,p3] .full):=by
  simp only [List.map_cons,List.map_nil,es1,es2,es3]
  exact hn
 simp only [List.append_nil,List.cons_append,List.nil_append,List.length_cons,List.length_nil,Nat.zero_add] at k1 k2 k3 k9
 refine Wp.seq (Wp.drawV (by decide +kernel) ?_)
 repeat (first
  | (refine By.i ?_;(focus assumption)) | (refine Fr.i ?_;simp only [pput,List.set_cons_zero,List.set_cons_succ];try rfl)
  | (refine By.i ?_;(focus (simp (disch:=first | omega | (simp;done) | (simp;omega)) [wrap_i64,wrap_u64,k1,k2,k3,k9,es1,es2,es3,hn1,hn];first | done | rfl | exact ⟨rfl,rfl⟩)))
  | (refine By.i ?_;simp (disch:=first | omega | (simp;done) | (simp;omega)) [wrap_i64,wrap_u64,k1,k2,k3,k9,es1,es2,es3,hn1,hn];refine ⟨(by (try simp only [List.length_append,List.length_cons,List.length_nil,maxLen]);omega),rfl⟩)
  | (refine Wt.i ?_;first | rfl | (focus (simp [k1,k2,k3,k9,es1,es2,es3,hn1,hn];done)))
  | (refine Ns.i ?_;(try simp only [List.append_nil,List.nil_append,List.cons_append,List.append_assoc,List.length_append,List.length_cons,List.length_nil,Nat.zero_add,Nat.reduceAdd]);rfl) | rfl
  | (apply SL.pass;(focus (refine Wt.i ?_;rfl))) | (apply SL.mcall;rotate_left;(focus rfl);rotate_right) | (apply SL.convertR;(focus rfl)) | apply SL.move | apply SL.assign | apply SL.load | apply SL.isnilE | apply SL.isnilN
  | apply SL.make | apply SL.binOp | apply SL.append | apply SL.copy | apply SL.builtin | apply SL.fieldAddr | apply SL.indexAddr | apply SL.field | apply SL.extract | apply SL.fcall | apply SL.pick | apply SL.store | apply SL.unOp
  | apply SL.convert | apply SL.index | apply SL.slice | apply SL.build | apply SL.nilCheck | apply SL.buildSlice | apply SL.box | apply SL.alloc | apply SL.makeFunc)
 apply SQ.nil
 obtain ⟨σ0,hσ0⟩:=gn ([SObj.box (.agg [.str nm,.bool pe,.int .i64 lo,.int .i64 hg,.slice (sz 4 gs) (gs.map Em.stop.emb) .any]),.row 5 1 0 (u8s pre)])
 have ho0:OutAt σ0 (.rref 1 0 0 pre.length 1) pre:=by rw [← hσ0];exact .inr ⟨hnE,1,0,rfl,rfl⟩
 have hTl:pre.length+(gs.flatMap eStop).length≤1000000:=by rw [List.length_append] at hT;exact hT
 have ht:trow 30 38=true:=by decide
 have gx:=True.intro
 refine goA ?_
 clear gx
 rw [hσ0]
 obtain ⟨tot,htot⟩:=gn (gs.length)
 have htb:=flat_ge (f:=eStop) (fun x=>List.length_pos_iff.2 (eStop_ne x)) gs
 rw [htot]
 refine Wp.loopI (fun m fr σ=>∃ (i:Nat) (p:PD) (σ1:List SObj),∃ gg:Nat→PD,(i+m=tot∧OutAt σ1 p (pre++(gs.take i).flatMap eStop))∧fr=[gg 0,gg 1,gg 2,p,gg 4,gg 5,gg 6,gg 7,gg 8,gg 9,gg 10,gg 11,gg 12,gg 13,gg 14,gg 15,gg 16,gg 17,gg 18,gg 19,gg 20,gg 21,gg 22,gg 23,gg 24,gg 25,.slice (sz 4 gs) (gs.map Em.stop.emb) .any,.int .i64 tot,.int .i64 i,gg 29,gg 30,gg 31,gg 32,gg 33,gg 34,gg 35,gg 36,gg 37]∧σ=σ1) ?_ (tot) ⟨0,_,σ0,exF (⟨by omega,(by simpa using ho0)⟩) (by (first | rfl | (simp [];repeat (first | rfl | (apply And.intro))) | (simp [];done))) (by (first | rfl | (simp [];repeat (first | rfl | (apply And.intro))) | (simp [];done)))⟩
 rintro m fr σ ⟨i,p,σ1,gg,hI,rfl,rfl⟩
 obtain ⟨hm,ho⟩:=hI
 by_cases hi:i < tot
 ·have q1:(i:Int) < tot:=by omega
  have hil:i < gs.length:=by omega
  have hz:sz 4 gs=4:=sz_ne (fun e=>by rw [e] at hil;simp at hil)
  have hpn:=pre_next eStop gs i hil
  have hpl:=pre_le eStop gs (i+1)
  obtain ⟨⟨sn,sa,sb,sg⟩,hx⟩:∃ x,gs[i]=x:=⟨_,rfl⟩
  rw [hx] at hpn
  rw [hpn] at hpl
  simp only [List.length_append] at hpl
  obtain ⟨ys,hys⟩:=gn (eStop ⟨sn,sa,sb,sg⟩)
  have hG:=fun σ=>gStopD_of 0 (s:=⟨sn,sa,sb,sg⟩) (by omega) (p:=.agg [.str sn,.int .i64 sa,.int .i64 sb,.slice (sz 3 sg) (sg.map Em.seg.emb) .any]) (Em.stop.str ⟨sn,sa,sb,sg⟩) σ
  rw [hys] at hpn hpl hG
  obtain ⟨p',σ',ap,ho',hlen',hkp,hid⟩:=out_app ht (ys:=ys) (z:=1) (tok:=.any) (ho.more [.box (.agg [.str sn,.int .i64 sa,.int .i64 sb,.slice (sz 3 sg) (sg.map Em.seg.emb) .any])]) (.inr rfl) (by rw [List.length_append,List.length_append];omega)
  rw [List.append_assoc,← hpn] at ho'
  have es:∀ X Y,(σ++[SObj.box X]).set σ.length (.box Y)=σ++[.box Y]:=fun X Y=>by simp
  have hb1:∀ X:SObj,(σ++[X])[σ.length]?=some X:=fun X=>by simp
  have gx:=An @q1 (An @hx (An @hil (An @hz (An @h5 (An @hG (An @ht (An @ap (An @hb1 (@es)))))))))
  refine goA ?_
  clear gx
  refine LoopI.normal (m - 1) (by omega) (by refine ⟨i+1,p',σ',?_⟩;exact exF (⟨by omega,ho'⟩) (by (first | rfl | (simp [hx];repeat (first | rfl | (apply And.intro))) | (simp [hx];done))) (by (first | rfl | (simp [hx];repeat (first | rfl | (apply And.intro))) | (simp [hx];done))))
 ·have q1:¬ (i:Int) < tot:=by omega
  have ei:i=tot:=by omega
  rw [ei,← htot,List.take_length] at ho
  have gx:=@q1
  refine goA ?_
  clear gx
  exact ⟨_,_,rfl,ho⟩
end Go.Kz

namespace Go.Kz
open Go Go.Proofs
set_option maxRecDepth 100000
set_option maxHeartbeats 4000000
def gWd:List PD→Option (List UInt8)
 | [.str s]=>if s.length≤1000000 then some (eText s) else none
 | _=>none
theorem gBy_word (fl:Nat) {s:List UInt8} (h:s.length≤1000000) (σ:List SObj):gBy 5 gWd fl [.str s] σ=some (.rref σ.length 0 0 (eText s).length 1,σ++[.row 5 1 0 (u8s (eText s))]):=by
 simp only [gBy,List.map_cons,List.map_nil,PD.strip,gWd,if_pos h,byRow,if_neg (eText_ne s)]
 rfl
noncomputable def gRankD:=entry (gf1 Em.rank bytE fun s=>gif ((eRank s).length≤1000000) (some (eRank s)))
theorem eRank_ne (s:RankD):eRank s≠[]:=fun e=>by
 have:=congrArg List.length e
 simp only [eRank,eText,List.length_append,b8_length,List.length_nil] at this
 omega
theorem gRankD_of (fl:Nat) {s:RankD} (h:(eRank s).length≤1000000) {p:PD} (hp:p.strip=Em.rank.emb s) (σ:List SObj):gRankD fl [p] σ=some (.slice 1 (u8s (eRank s)) .any,σ):=by
 have e1:Em.rank.dec p=some s:=Em.dec_some hp
 unfold gRankD entry gf1
 simp only [e1,gif_pos h,emb_byt1 (eRank_ne s)]
noncomputable def gDivD:=entry (gf1 Em.div bytE fun s=>gif ((eDiv s).length≤1000000) (some (eDiv s)))
theorem eDiv_ne (s:DivD):eDiv s≠[]:=fun e=>by
 have:=congrArg List.length e
 simp only [eDiv,eText,List.length_append,b8_length,List.length_nil] at this
 omega
theorem gDivD_of (fl:Nat) {s:DivD} (h:(eDiv s).length≤1000000) {p:PD} (hp:p.strip=Em.div.emb s) (σ:List SObj):gDivD fl [p] σ=some (.slice 1 (u8s (eDiv s)) .any,σ):=by
 have e1:Em.div.dec p=some s:=Em.dec_some hp
 unfold gDivD entry gf1
 simp only [e1,gif_pos h,emb_byt1 (eDiv_ne s)]
noncomputable def gCoupD:=entry (gf1 Em.coup bytE fun s=>gif ((eCoup s).length≤1000000) (some (eCoup s)))
theorem eCoup_ne (s:CoupD):eCoup s≠[]:=fun e=>by
 have:=congrArg List.length e
 simp only [eCoup,eText,List.length_append,b8_length,List.length_nil] at this
 omega
theorem gCoupD_of (fl:Nat) {s:CoupD} (h:(eCoup s).length≤1000000) {p:PD} (hp:p.strip=Em.coup.emb s) (σ:List SObj):gCoupD fl [p] σ=some (.slice 1 (u8s (eCoup s)) .any,σ):=by
 have e1:Em.coup.dec p=some s:=Em.dec_some hp
 unfold gCoupD entry gf1
 simp only [e1,gif_pos h,emb_byt1 (eCoup_ne s)]
variable {E:PExt} (hU:Uni E)
include hU
theorem r_encB (h0:E 7=none) (h1:E 27=some (gBy 5 gWd)) (h2:E 28=some (gBy 5 gNum))
  (h3:E 29=some gRankD) (h4:E 30=some gDivD) (h5:E 31=some gCoupD)
  (r:OrganD) (hT:(eOrgan r).length≤1000000):RunB Tryz.prog E 5 7 [Em.organ.emb r] (eOrgan r):=by
 refine RunB.of ?_
 obtain ⟨nm,rs,ds,cs⟩:=r
 have hn:nm.length≤1000000:=by
  simp only [eOrgan,eText,List.length_append] at hT
  omega
 have hsp:eOrgan ⟨nm,rs,ds,cs⟩=eText nm++b8 rs.length++rs.flatMap eRank++b8 ds.length++ds.flatMap eDiv++b8 cs.length++cs.flatMap eCoup:=by simp [eOrgan,eList]
 rw [hsp] at hT ⊢
 have hTl:=hT
 simp only [List.length_append,b8_length] at hTl
 simp only [emb_organ,emb_list]
 obtain ⟨fin,hfin⟩:=gn (eText nm++b8 rs.length++rs.flatMap eRank++b8 ds.length++ds.flatMap eDiv++b8 cs.length++cs.flatMap eCoup)
 rw [hfin]
 have ht:trow 30 67=true:=by decide
 have k1:=pcallN_of (fl:=0) (σ:=[.box (.agg [.str nm,.slice (sz 6 rs) (rs.map Em.rank.emb) .any,.slice (sz 5 ds) (ds.map Em.div.emb) .any,.slice (sz 5 cs) (cs.map Em.coup.emb) .any])]) h1 (fun fl=>gBy_word fl hn _)
 have k2:=pcallN_of (fl:=0) (σ:=[.box (.agg [.str nm,.slice (sz 6 rs) (rs.map Em.rank.emb) .any,.slice (sz 5 ds) (ds.map Em.div.emb) .any,.slice (sz 5 cs) (cs.map Em.coup.emb) .any]),.row 5 1 0 (u8s (eText nm))]) h2 (fun fl=>gBy_num fl (rs.length:Int) _)
 obtain ⟨px1,σx1,ax1,hx1,_,kx1,ix1⟩:=out_appR ht (ys:=b8 rs.length) (σ:=[.box (.agg [.str nm,.slice (sz 6 rs) (rs.map Em.rank.emb) .any,.slice (sz 5 ds) (ds.map Em.div.emb) .any,.slice (sz 5 cs) (cs.map Em.coup.emb) .any]),.row 5 1 0 (u8s (eText nm)),.row 5 1 0 (u8s (b8 rs.length))]) (p:=.rref 1 0 0 (eText nm).length 1) (.inr ⟨eText_ne nm,1,0,rfl,rfl⟩) (k:=2) (v:=0) rfl (by rw [List.length_append,b8_length];omega)
 rw [b8_length] at ax1
 have n0:¬ hasId (.rref 1 0 0 (eText nm).length 1) 0:=by
  rintro ⟨_,_,_,_,e⟩
  cases e
 have bx1:=kx1 0 _ n0 rfl
 have nx1:¬ hasId px1 0:=fun h=>(ix1 0 h).elim n0 (fun e=>by cases e)
 obtain ⟨w1,z1⟩:=List.getElem?_eq_some_iff.1 bx1
 simp only [List.append_nil,List.cons_append,List.nil_append,List.length_cons,List.length_nil,Nat.zero_add] at k1 k2
 obtain ⟨pre1,hpre1⟩:=gn (eText nm++b8 rs.length)
 have hlp1:=congrArg List.length hpre1
 rw [List.length_append,b8_length] at hlp1
 rw [hpre1] at hx1
 apply WpC.bodyL h0 Tryz.func7 rfl
 focus (simp [show Tryz.f7.ntmps=_ from rfl,List.replicate];rfl)
 clear hU
 have gx:=True.intro
 refine goA ?_
 clear gx
 refine Wp.seq (Wp.drawV (by decide +kernel) ?_)
 repeat (first
  | (refine By.i ?_;(focus assumption)) | (refine Fr.i ?_;simp only [pput,List.set_cons_zero,List.set_cons_succ];try rfl)
  | (refine By.i ?_;(focus (simp (disch:=first | omega | (simp;done) | (simp;omega)) [wrap_i64,wrap_u64,k1,k2,ht,ax1];first | done | rfl | exact ⟨rfl,rfl⟩)))
  | (refine By.i ?_;simp (disch:=first | omega | (simp;done) | (simp;omega)) [wrap_i64,wrap_u64,k1,k2,ht,ax1];refine ⟨(by (try simp only [List.length_append,List.length_cons,List.length_nil,maxLen]);omega),rfl⟩)
  | (refine Wt.i ?_;first | rfl | (focus (simp [k1,k2,ht,ax1];done)))
  | (refine Ns.i ?_;(try simp only [List.append_nil,List.nil_append,List.cons_append,List.append_assoc,List.length_append,List.length_cons,List.length_nil,Nat.zero_add,Nat.reduceAdd]);rfl) | rfl
  | (apply SL.pass;(focus (refine Wt.i ?_;rfl))) | (apply SL.mcall;rotate_left;(focus rfl);rotate_right) | (apply SL.convertR;(focus rfl)) | apply SL.move | apply SL.assign | apply SL.load | apply SL.isnilE | apply SL.isnilN
  | apply SL.make | apply SL.binOp | apply SL.append | apply SL.copy | apply SL.builtin | apply SL.fieldAddr | apply SL.indexAddr | apply SL.field | apply SL.extract | apply SL.fcall | apply SL.pick | apply SL.store | apply SL.unOp
  | apply SL.convert | apply SL.index | apply SL.slice | apply SL.build | apply SL.nilCheck | apply SL.buildSlice | apply SL.box | apply SL.alloc | apply SL.makeFunc)
 apply SQ.nil
 have gx:=An @bx1 (An @w1 (@z1))
 refine goA ?_
 clear gx
 obtain ⟨tot,htot⟩:=gn (rs.length)
 have htb:=flat_ge (f:=eRank) (fun x=>List.length_pos_iff.2 (eRank_ne x)) rs
 rw [htot]
 refine Wp.loopI (fun m fr σ=>∃ (i:Nat) (p:PD) (σ1:List SObj),∃ gg:Nat→PD,(i+m=tot∧OutAt σ1 p (pre1++(rs.take i).flatMap eRank)∧σ1[0]?=some (.box (.agg [.str nm,.slice (sz 6 rs) (rs.map Em.rank.emb) .any,.slice (sz 5 ds) (ds.map Em.div.emb) .any,.slice (sz 5 cs) (cs.map Em.coup.emb) .any]))∧¬ hasId p 0)∧fr=gg 0::.ptr 0 0::gg 2::p::gg 4::gg 5::gg 6::gg 7::gg 8::gg 9::gg 10::gg 11::gg 12::gg 13::gg 14::gg 15::gg 16::gg 17::gg 18::.slice (sz 6 rs) (rs.map Em.rank.emb) .any::.int .i64 tot::.int .i64 i::gg 22::gg 23::gg 24::gg 25::gg 26::gg 27::gg 28::gg 29::gg 30::gg 31::gg 32::gg 33::gg 34::gg 35::gg 36::gg 37::gg 38::gg 39::gg 40::gg 41::gg 42::gg 43::gg 44::gg 45::gg 46::gg 47::gg 48::gg 49::gg 50::gg 51::gg 52::gg 53::gg 54::gg 55::gg 56::gg 57::gg 58::gg 59::gg 60::gg 61::gg 62::gg 63::gg 64::gg 65::gg 66::[]∧σ=σ1) ?_ (tot) ⟨0,_,σx1,exF (⟨by omega,(by simpa using hx1),bx1,nx1⟩) (by (first | rfl | (simp [];repeat (first | rfl | (apply And.intro))) | (simp [];done))) (by (first | rfl | (simp [];repeat (first | rfl | (apply And.intro))) | (simp [];done)))⟩
 rintro m fr σ ⟨i,p,σ1,gg,hI,rfl,rfl⟩
 obtain ⟨hm,ho,hbx,hnid⟩:=hI
 by_cases hi:i < tot
 ·have q1:(i:Int) < tot:=by omega
  have hil:i < rs.length:=by omega
  have hz:sz 6 rs=6:=sz_ne (fun e=>by rw [e] at hil;simp at hil)
  have hpn:=pre_next eRank rs i hil
  have hpl:=pre_le eRank rs (i+1)
  obtain ⟨⟨sn,st,sa,sb,sc,sw⟩,hx⟩:∃ x,rs[i]=x:=⟨_,rfl⟩
  rw [hx] at hpn
  rw [hpn] at hpl
  simp only [List.length_append] at hpl
  obtain ⟨ys,hys⟩:=gn (eRank ⟨sn,st,sa,sb,sc,sw⟩)
  have hG:=fun σ=>gRankD_of 0 (s:=⟨sn,st,sa,sb,sc,sw⟩) (by omega) (p:=.agg [.str sn,.str st,.int .i64 sa,.int .i64 sb,.int .i64 sc,.slice (sz 1 sw) (sw.map i64.emb) .any]) (Em.rank.str ⟨sn,st,sa,sb,sc,sw⟩) σ
  rw [hys] at hpn hpl hG
  have hl0:=(List.getElem?_eq_some_iff.1 hbx).1
  obtain ⟨p',σ',ap,ho',hlen',hkp,hid⟩:=out_app ht (ys:=ys) (z:=1) (tok:=.any) (ho.more [.box (.agg [.str sn,.str st,.int .i64 sa,.int .i64 sb,.int .i64 sc,.slice (sz 1 sw) (sw.map i64.emb) .any])]) (.inr rfl) (by rw [List.length_append,List.length_append];omega)
  rw [List.append_assoc,← hpn] at ho'
  have hb':=hkp 0 _ hnid (by rw [List.getElem?_append_left hl0];exact hbx)
  have hn':¬ hasId p' 0:=fun h=>(hid 0 h).elim hnid (fun e=>by rw [List.length_append] at e;omega)
  have es:∀ X Y,(σ++[SObj.box X]).set σ.length (.box Y)=σ++[.box Y]:=fun X Y=>by simp
  have hb1:∀ X:SObj,(σ++[X])[σ.length]?=some X:=fun X=>by simp
  have gx:=An @q1 (An @hx (An @hil (An @hz (An @h3 (An @hG (An @ht (An @ap (An @hb1 (@es)))))))))
  refine goA ?_
  clear gx
  refine LoopI.normal (m - 1) (by omega) (by refine ⟨i+1,p',σ',?_⟩;exact exF (⟨by omega,ho',hb',hn'⟩) (by (first | rfl | (simp [hx];repeat (first | rfl | (apply And.intro))) | (simp [hx];done))) (by (first | rfl | (simp [hx];repeat (first | rfl | (apply And.intro))) | (simp [hx];done))))
 have q1:¬ (i:Int) < tot:=by omega
 have ei:i=tot:=by omega
 rw [ei,← htot,List.take_length] at ho
 have hl0:=(List.getElem?_eq_some_iff.1 hbx).1
 obtain ⟨px2,σx2,ax2,hx2,_,kx2,ix2⟩:=out_appR ht (ys:=b8 ds.length) (ho.more [.row 5 1 0 (u8s (b8 ds.length))]) (List.getElem?_concat_length) (by rw [List.length_append,List.length_append,b8_length];omega)
 rw [b8_length] at ax2
 have bx2:=kx2 0 _ hnid (by rw [List.getElem?_append_left hl0];exact hbx)
 have nx2:¬ hasId px2 0:=fun h=>(ix2 0 h).elim hnid (fun e=>by rw [List.length_append] at e;omega)
 obtain ⟨w2,z2⟩:=List.getElem?_eq_some_iff.1 bx2
 obtain ⟨v0,y0⟩:=List.getElem?_eq_some_iff.1 hbx
 have hN:=fun τ=>gBy_num 0 (ds.length:Int) τ
 obtain ⟨pre2,hpre2⟩:=gn (pre1++rs.flatMap eRank++b8 ds.length)
 have hlp2:=congrArg List.length hpre2
 simp only [List.length_append,b8_length] at hlp2
 rw [hpre2] at hx2
 have gx:=An @q1 (An @h2 (An @hN (An @ht (An @ax2 (An @hbx (An @v0 (An @y0 (An @bx2 (An @w2 (@z2))))))))))
 refine goA ?_
 clear gx
 obtain ⟨tot,htot⟩:=gn (ds.length)
 have htb:=flat_ge (f:=eDiv) (fun x=>List.length_pos_iff.2 (eDiv_ne x)) ds
 rw [htot]
 refine Wp.loopI (fun m fr σ=>∃ (i:Nat) (p:PD) (σ1:List SObj),∃ gg:Nat→PD,(i+m=tot∧OutAt σ1 p (pre2++(ds.take i).flatMap eDiv)∧σ1[0]?=some (.box (.agg [.str nm,.slice (sz 6 rs) (rs.map Em.rank.emb) .any,.slice (sz 5 ds) (ds.map Em.div.emb) .any,.slice (sz 5 cs) (cs.map Em.coup.emb) .any]))∧¬ hasId p 0)∧fr=gg 0::.ptr 0 0::gg 2::p::gg 4::gg 5::gg 6::gg 7::gg 8::gg 9::gg 10::gg 11::gg 12::gg 13::gg 14::gg 15::gg 16::gg 17::gg 18::gg 19::gg 20::gg 21::gg 22::gg 23::gg 24::gg 25::gg 26::gg 27::gg 28::gg 29::gg 30::gg 31::gg 32::gg 33::gg 34::gg 35::gg 36::.slice (sz 5 ds) (ds.map Em.div.emb) .any::.int .i64 tot::.int .i64 i::gg 40::gg 41::gg 42::gg 43::gg 44::gg 45::gg 46::gg 47::gg 48::gg 49::gg 50::gg 51::gg 52::gg 53::gg 54::gg 55::gg 56::gg 57::gg 58::gg 59::gg 60::gg 61::gg 62::gg 63::gg 64::gg 65::gg 66::[]∧σ=σ1) ?_ (tot) ⟨0,_,σx2,exF (⟨by omega,(by simpa using hx2),bx2,nx2⟩) (by (first | rfl | (simp [];repeat (first | rfl | (apply And.intro))) | (simp [];done))) (by (first | rfl | (simp [];repeat (first | rfl | (apply And.intro))) | (simp [];done)))⟩
 rintro m fr σ ⟨i,p,σ1,gg,hI,rfl,rfl⟩
 obtain ⟨hm,ho,hbx,hnid⟩:=hI
 by_cases hi:i < tot
 ·have q1:(i:Int) < tot:=by omega
  have hil:i < ds.length:=by omega
  have hz:sz 5 ds=5:=sz_ne (fun e=>by rw [e] at hil;simp at hil)
  have hpn:=pre_next eDiv ds i hil
  have hpl:=pre_le eDiv ds (i+1)
  obtain ⟨⟨sn,sp,sa,sb,sw⟩,hx⟩:∃ x,ds[i]=x:=⟨_,rfl⟩
  rw [hx] at hpn
  rw [hpn] at hpl
  simp only [List.length_append] at hpl
  obtain ⟨ys,hys⟩:=gn (eDiv ⟨sn,sp,sa,sb,sw⟩)
  have hG:=fun σ=>gDivD_of 0 (s:=⟨sn,sp,sa,sb,sw⟩) (by omega) (p:=.agg [.str sn,.bool sp,.int .i64 sa,.int .i64 sb,.slice (sz 4 sw) (sw.map Em.stop.emb) .any]) (Em.div.str ⟨sn,sp,sa,sb,sw⟩) σ
  rw [hys] at hpn hpl hG
  have hl0:=(List.getElem?_eq_some_iff.1 hbx).1
  obtain ⟨p',σ',ap,ho',hlen',hkp,hid⟩:=out_app ht (ys:=ys) (z:=1) (tok:=.any) (ho.more [.box (.agg [.str sn,.bool sp,.int .i64 sa,.int .i64 sb,.slice (sz 4 sw) (sw.map Em.stop.emb) .any])]) (.inr rfl) (by rw [List.length_append,List.length_append];omega)
  rw [List.append_assoc,← hpn] at ho'
  have hb':=hkp 0 _ hnid (by rw [List.getElem?_append_left hl0];exact hbx)
  have hn':¬ hasId p' 0:=fun h=>(hid 0 h).elim hnid (fun e=>by rw [List.length_append] at e;omega)
  have es:∀ X Y,(σ++[SObj.box X]).set σ.length (.box Y)=σ++[.box Y]:=fun X Y=>by simp
  have hb1:∀ X:SObj,(σ++[X])[σ.length]?=some X:=fun X=>by simp
  have gx:=An @q1 (An @hx (An @hil (An @hz (An @h4 (An @hG (An @ht (An @ap (An @hb1 (@es)))))))))
  refine goA ?_
  clear gx
  refine LoopI.normal (m - 1) (by omega) (by refine ⟨i+1,p',σ',?_⟩;exact exF (⟨by omega,ho',hb',hn'⟩) (by (first | rfl | (simp [hx];repeat (first | rfl | (apply And.intro))) | (simp [hx];done))) (by (first | rfl | (simp [hx];repeat (first | rfl | (apply And.intro))) | (simp [hx];done))))
 have q1:¬ (i:Int) < tot:=by omega
 have ei:i=tot:=by omega
 rw [ei,← htot,List.take_length] at ho
 have hl0:=(List.getElem?_eq_some_iff.1 hbx).1
 obtain ⟨px3,σx3,ax3,hx3,_,kx3,ix3⟩:=out_appR ht (ys:=b8 cs.length) (ho.more [.row 5 1 0 (u8s (b8 cs.length))]) (List.getElem?_concat_length) (by rw [List.length_append,List.length_append,b8_length];omega)
 rw [b8_length] at ax3
 have bx3:=kx3 0 _ hnid (by rw [List.getElem?_append_left hl0];exact hbx)
 have nx3:¬ hasId px3 0:=fun h=>(ix3 0 h).elim hnid (fun e=>by rw [List.length_append] at e;omega)
 obtain ⟨w3,z3⟩:=List.getElem?_eq_some_iff.1 bx3
 obtain ⟨v0,y0⟩:=List.getElem?_eq_some_iff.1 hbx
 have hN:=fun τ=>gBy_num 0 (cs.length:Int) τ
 obtain ⟨pre3,hpre3⟩:=gn (pre2++ds.flatMap eDiv++b8 cs.length)
 have hlp3:=congrArg List.length hpre3
 simp only [List.length_append,b8_length] at hlp3
 rw [hpre3] at hx3
 have gx:=An @q1 (An @h2 (An @hN (An @ht (An @ax3 (An @hbx (An @v0 (An @y0 (An @bx3 (An @w3 (@z3))))))))))
 refine goA ?_
 clear gx
 obtain ⟨tot,htot⟩:=gn (cs.length)
 have htb:=flat_ge (f:=eCoup) (fun x=>List.length_pos_iff.2 (eCoup_ne x)) cs
 rw [htot]
 refine Wp.loopI (fun m fr σ=>∃ (i:Nat) (p:PD) (σ1:List SObj),∃ gg:Nat→PD,(i+m=tot∧OutAt σ1 p (pre3++(cs.take i).flatMap eCoup)∧σ1[0]?=some (.box (.agg [.str nm,.slice (sz 6 rs) (rs.map Em.rank.emb) .any,.slice (sz 5 ds) (ds.map Em.div.emb) .any,.slice (sz 5 cs) (cs.map Em.coup.emb) .any]))∧¬ hasId p 0)∧fr=gg 0::.ptr 0 0::gg 2::p::gg 4::gg 5::gg 6::gg 7::gg 8::gg 9::gg 10::gg 11::gg 12::gg 13::gg 14::gg 15::gg 16::gg 17::gg 18::gg 19::gg 20::gg 21::gg 22::gg 23::gg 24::gg 25::gg 26::gg 27::gg 28::gg 29::gg 30::gg 31::gg 32::gg 33::gg 34::gg 35::gg 36::gg 37::gg 38::gg 39::gg 40::gg 41::gg 42::gg 43::gg 44::gg 45::gg 46::gg 47::gg 48::gg 49::gg 50::gg 51::gg 52::gg 53::gg 54::.slice (sz 5 cs) (cs.map Em.coup.emb) .any::.int .i64 tot::.int .i64 i::gg 58::gg 59::gg 60::gg 61::gg 62::gg 63::gg 64::gg 65::gg 66::[]∧σ=σ1) ?_ (tot) ⟨0,_,σx3,exF (⟨by omega,(by simpa using hx3),bx3,nx3⟩) (by (first | rfl | (simp [];repeat (first | rfl | (apply And.intro))) | (simp [];done))) (by (first | rfl | (simp [];repeat (first | rfl | (apply And.intro))) | (simp [];done)))⟩
 rintro m fr σ ⟨i,p,σ1,gg,hI,rfl,rfl⟩
 obtain ⟨hm,ho,hbx,hnid⟩:=hI
 by_cases hi:i < tot
 ·have q1:(i:Int) < tot:=by omega
  have hil:i < cs.length:=by omega
  have hz:sz 5 cs=5:=sz_ne (fun e=>by rw [e] at hil;simp at hil)
  have hpn:=pre_next eCoup cs i hil
  have hpl:=pre_le eCoup cs (i+1)
  obtain ⟨⟨sn,sa,sb,sc,sp⟩,hx⟩:∃ x,cs[i]=x:=⟨_,rfl⟩
  rw [hx] at hpn
  rw [hpn] at hpl
  simp only [List.length_append] at hpl
  obtain ⟨ys,hys⟩:=gn (eCoup ⟨sn,sa,sb,sc,sp⟩)
  have hG:=fun σ=>gCoupD_of 0 (s:=⟨sn,sa,sb,sc,sp⟩) (by omega) (p:=.agg [.str sn,.int .i64 sa,.int .i64 sb,.int .i64 sc,.bool sp]) (Em.coup.str ⟨sn,sa,sb,sc,sp⟩) σ
  rw [hys] at hpn hpl hG
  have hl0:=(List.getElem?_eq_some_iff.1 hbx).1
  obtain ⟨p',σ',ap,ho',hlen',hkp,hid⟩:=out_app ht (ys:=ys) (z:=1) (tok:=.any) (ho.more [.box (.agg [.str sn,.int .i64 sa,.int .i64 sb,.int .i64 sc,.bool sp])]) (.inr rfl) (by rw [List.length_append,List.length_append];omega)
  rw [List.append_assoc,← hpn] at ho'
  have hb':=hkp 0 _ hnid (by rw [List.getElem?_append_left hl0];exact hbx)
  have hn':¬ hasId p' 0:=fun h=>(hid 0 h).elim hnid (fun e=>by rw [List.length_append] at e;omega)
  have es:∀ X Y,(σ++[SObj.box X]).set σ.length (.box Y)=σ++[.box Y]:=fun X Y=>by simp
  have hb1:∀ X:SObj,(σ++[X])[σ.length]?=some X:=fun X=>by simp
  have gx:=An @q1 (An @hx (An @hil (An @hz (An @h5 (An @hG (An @ht (An @ap (An @hb1 (@es)))))))))
  refine goA ?_
  clear gx
  refine LoopI.normal (m - 1) (by omega) (by refine ⟨i+1,p',σ',?_⟩;exact exF (⟨by omega,ho',hb',hn'⟩) (by (first | rfl | (simp [hx];repeat (first | rfl | (apply And.intro))) | (simp [hx];done))) (by (first | rfl | (simp [hx];repeat (first | rfl | (apply And.intro))) | (simp [hx];done))))
 have q1:¬ (i:Int) < tot:=by omega
 have ei:i=tot:=by omega
 rw [ei,← htot,List.take_length] at ho
 rw [← hpre3,← hpre2,← hpre1] at ho
 have gx:=@q1
 refine goA ?_
 clear gx
 exact ⟨_,_,rfl,by rw [← hfin];simpa using ho⟩
end Go.Kz

namespace Go.Kz
open Go Go.Proofs
set_option maxRecDepth 100000
set_option maxHeartbeats 40000000
variable {E E1 E2 E3 E4:PExt} (hU:Uni E)
include hU
theorem w_organ (h0:E 34=none) (h1:E 71=some (gEf Tryz.prog E1 71)) (H1:Reads E1 71 dText PD.str) (h2:E 72=some (gEf Tryz.prog E2 72)) (H2:ReadsA E2 72 (lstA 73) (dList dRank) ranks.emb) (h3:E 74=some (gEf Tryz.prog E3 74)) (H3:ReadsA E3 74 (lstA 75) (dList dDiv) divsE.emb) (h4:E 76=some (gEf Tryz.prog E4 76)) (H4:ReadsA E4 76 (lstA 77) (dList dCoup) coupsE.emb):Reads E 34 dOrgan Em.organ.emb:=by
 intro τ id s hr hl
 have hid:=hr.lt
 have K0:Kp τ (τ++[.box (.agg [.str [],.slice 0 [] .full,.slice 0 [] .full,.slice 0 [] .full])]) id τ.length (.agg [.str [],.slice 0 [] .full,.slice 0 [] .full,.slice 0 [] .full]):=Kp.new
 have R0:Rdr (τ++[.box (.agg [.str [],.slice 0 [] .full,.slice 0 [] .full,.slice 0 [] .full])]) id s:=hr.more
 obtain ⟨w0,z0⟩:=K0.at
 obtain ⟨σ1,k1,K1,R1⟩:=H1.next K0 R0 (by omega) hid
 have l1:=rt_text.len s
 obtain ⟨a1,ea1⟩:=gn ((dText s).1)
 obtain ⟨s1,es1⟩:=gn ((dText s).2)
 rw [ea1] at k1
 rw [es1] at R1 l1
 have K1':=K1.set (.agg [.str a1,.slice 0 [] .full,.slice 0 [] .full,.slice 0 [] .full])
 have R1':=R1.setB (Y:=.box (.agg [.str a1,.slice 0 [] .full,.slice 0 [] .full,.slice 0 [] .full])) hid
 obtain ⟨w1,z1⟩:=K1.at
 obtain ⟨w1',z1'⟩:=K1'.at
 have b1:=K1.bx
 have b1':=K1'.bx
 replace k1:=k1.trans (show _=some (.str a1,σ1) from rfl)
 obtain ⟨σ2,k2,K2,R2⟩:=H2.next K1' R1' (by omega) hid
 have l2:=rt_rank.list.len s1
 obtain ⟨a2,ea2⟩:=gn (((dList dRank) s1).1)
 obtain ⟨s2,es2⟩:=gn (((dList dRank) s1).2)
 rw [ea2] at k2
 rw [es2] at R2 l2
 obtain ⟨p2,ep2⟩:=gn (ranks.emb a2)
 rw [ep2] at k2
 have sp2:PD.strip p2=p2:=by rw [← ep2];exact ranks.str a2
 have pp2:PD.plain p2=true:=by rw [← ep2];rfl
 have cp2:PD.cells p2=[p2]:=by rw [← ep2];rfl
 unfold PD.plain at pp2
 unfold PD.cells at cp2
 have K2':=K2.set (.agg [.str a1,p2,.slice 0 [] .full,.slice 0 [] .full])
 have R2':=R2.setB (Y:=.box (.agg [.str a1,p2,.slice 0 [] .full,.slice 0 [] .full])) hid
 obtain ⟨w2,z2⟩:=K2.at
 obtain ⟨w2',z2'⟩:=K2'.at
 have b2:=K2.bx
 have b2':=K2'.bx
 replace k2:=k2.trans (show _=some (p2,σ2) from rfl)
 obtain ⟨σ3,k3,K3,R3⟩:=H3.next K2' R2' (by omega) hid
 have l3:=rt_div.list.len s2
 obtain ⟨a3,ea3⟩:=gn (((dList dDiv) s2).1)
 obtain ⟨s3,es3⟩:=gn (((dList dDiv) s2).2)
 rw [ea3] at k3
 rw [es3] at R3 l3
 obtain ⟨p3,ep3⟩:=gn (divsE.emb a3)
 rw [ep3] at k3
 have sp3:PD.strip p3=p3:=by rw [← ep3];exact divsE.str a3
 have pp3:PD.plain p3=true:=by rw [← ep3];rfl
 have cp3:PD.cells p3=[p3]:=by rw [← ep3];rfl
 unfold PD.plain at pp3
 unfold PD.cells at cp3
 have K3':=K3.set (.agg [.str a1,p2,p3,.slice 0 [] .full])
 have R3':=R3.setB (Y:=.box (.agg [.str a1,p2,p3,.slice 0 [] .full])) hid
 obtain ⟨w3,z3⟩:=K3.at
 obtain ⟨w3',z3'⟩:=K3'.at
 have b3:=K3.bx
 have b3':=K3'.bx
 replace k3:=k3.trans (show _=some (p3,σ3) from rfl)
 obtain ⟨σ4,k4,K4,R4⟩:=H4.next K3' R3' (by omega) hid
 have l4:=rt_coup.list.len s3
 obtain ⟨a4,ea4⟩:=gn (((dList dCoup) s3).1)
 obtain ⟨s4,es4⟩:=gn (((dList dCoup) s3).2)
 rw [ea4] at k4
 rw [es4] at R4 l4
 obtain ⟨p4,ep4⟩:=gn (coupsE.emb a4)
 rw [ep4] at k4
 have sp4:PD.strip p4=p4:=by rw [← ep4];exact coupsE.str a4
 have pp4:PD.plain p4=true:=by rw [← ep4];rfl
 have cp4:PD.cells p4=[p4]:=by rw [← ep4];rfl
 unfold PD.plain at pp4
 unfold PD.cells at cp4
 have K4':=K4.set (.agg [.str a1,p2,p3,p4])
 have R4':=R4.setB (Y:=.box (.agg [.str a1,p2,p3,p4])) hid
 obtain ⟨w4,z4⟩:=K4.at
 obtain ⟨w4',z4'⟩:=K4'.at
 have b4:=K4.bx
 have b4':=K4'.bx
 replace k4:=k4.trans (show _=some (p4,σ4) from rfl)
 have e:dOrgan s=(⟨a1,a2,a3,a4⟩,s4):=by
  unfold dOrgan
  simp only [ea1,es1,ea2,es2,ea3,es3,ea4,es4]
 simp only [ptrA,lstA] at k1 k2 k3 k4
 apply WpC.bodyL h0 Tryz.func34 rfl
 focus (simp [show Tryz.f34.ntmps=_ from rfl,List.replicate];rfl)
 have gx:=An @h1 (An @h2 (An @h3 (An @h4 (An @k1 (An @w1 (An @z1 (An @w1' (An @z1' (An @b1 (An @b1' (An @pp2 (An @cp2 (An @k2 (An @w2 (An @z2 (An @w2' (An @z2' (An @b2 (An @b2' (An @pp3 (An @cp3 (An @k3 (An @w3 (An @z3 (An @w3' (An @z3' (An @b3 (An @b3' (An @pp4 (An @cp4 (An @k4 (An @w4 (An @z4 (An @w4' (An @z4' (An @b4 (@b4')))))))))))))))))))))))))))))))))))))
 refine goA ?_
 clear gx
 have KK:=(K4').set (.agg [.str a1,p2,p3,p4])
 have RR:=R4'.setB (Y:=.box (.agg [.str a1,p2,p3,p4])) hid
 rw [List.set_set] at KK RR
 refine ⟨.agg [.str a1,p2,p3,p4],σ4.set τ.length (.box (.agg [.str a1,p2,p3,p4])),by simp [pfinish,w4],?_⟩
 unfold RdQ
 rw [e]
 refine ⟨?_,RR,Nat.le_of_lt KK.lt,fun j h1 h2=>KK.fr j h1 h2⟩
 simp only [PD.strip,PD.stripL,sp2,sp3,sp4]
 rw [← ep2,← ep3,← ep4]
 rfl
end Go.Kz

namespace Go.Kz
open Go Go.Proofs
set_option maxRecDepth 100000
set_option maxHeartbeats 4000000
noncomputable def gCk:Nat→List PD→List SObj→Option (PD×List SObj):=entry (gf1 Em.organ i64 fun o=>gif (okOr o) (some (organE o)))
theorem gCk_of {o:OrganD} (h:okOr o) (fl:Nat) (σ:List SObj):gCk fl [Em.organ.emb o] σ=some (.int .i64 (organE o),σ):=by
 have e1:=Em.dec_some (Em.organ.str o)
 unfold gCk entry gf1
 simp only [e1]
 rw [gif_pos h]
 rfl
def dWhole:Dec Bool:=fun s=>(!s.bad&&decide (s.inp.length=0),s)
variable {E E0 E1:PExt} (hU:Uni E)
include hU
theorem w_whole (h0:E 35=none):Reads E 35 dWhole PD.bool:=by
 intro τ id s hr hl
 have hr0:=hr
 obtain ⟨inp,bad⟩:=s
 obtain ⟨z,hz,hb⟩:=hr
 simp only at hz hb
 obtain ⟨hlt,hg⟩:=List.getElem?_eq_some_iff.1 hb
 have hle:=u8s_length inp
 obtain ⟨xs,hxs⟩:=gn (u8s inp)
 rw [hxs] at hb hg hle
 unfold RdQ dWhole
 simp only
 by_cases c1:bad=true
 ·subst c1
  apply WpC.bodyL h0 Tryz.func35 rfl
  focus (simp [show Tryz.f35.ntmps=_ from rfl,List.replicate];rfl)
  have gx:=An @hb (@hg)
  refine goA ?_
  clear gx
  exact ⟨_,_,rfl,rfl,hr0,Nat.le_refl _,fun j _ _=>rfl⟩
 have c1':bad=false:=by simpa using c1
 subst c1'
 by_cases c2:inp.length=0
 ·have c3:(xs.length:Int)=0:=by omega
  have e:decide (inp.length=0)=true:=by simp [c2]
  rw [e]
  apply WpC.bodyL h0 Tryz.func35 rfl
  focus (simp [show Tryz.f35.ntmps=_ from rfl,List.replicate];rfl)
  have gx:=An @hb (An @hg (@c3))
  refine goA ?_
  clear gx
  exact ⟨_,_,rfl,rfl,hr0,Nat.le_refl _,fun j _ _=>rfl⟩
 ·have c3:¬ (xs.length:Int)=0:=by omega
  have c4:¬ xs=[]:=fun h=>by rw [h] at c3;exact c3 rfl
  have e:decide (inp.length=0)=false:=by simp [c2]
  rw [e]
  apply WpC.bodyL h0 Tryz.func35 rfl
  focus (simp [show Tryz.f35.ntmps=_ from rfl,List.replicate];rfl)
  have gx:=An @hb (An @hg (An @c3 (@c4)))
  refine goA ?_
  clear gx
  exact ⟨_,_,rfl,rfl,hr0,Nat.le_refl _,fun j _ _=>rfl⟩
def decS (l:List UInt8):OrganD×Int:=if (dOrgan ⟨l,false⟩).2.bad=false∧(dOrgan ⟨l,false⟩).2.inp=[]∧organE (dOrgan ⟨l,false⟩).1=0 then ((dOrgan ⟨l,false⟩).1,0) else (⟨[],[],[],[]⟩,26)
theorem r_Decode (h0:E 9=none) (h1:E 34=some (gEf Tryz.prog E0 34)) (h2:E 35=some (gEf Tryz.prog E1 35)) (h3:E 10=some gCk)
  (H1:Reads E0 34 dOrgan Em.organ.emb) (H2:Reads E1 35 dWhole PD.bool) (l:List UInt8) (z:Nat) (hz:l=[]∨z=1) (hl:l.length≤1000000000)
  (hok:(dOrgan ⟨l,false⟩).2.bad=false→(dOrgan ⟨l,false⟩).2.inp=[]→okOr (dOrgan ⟨l,false⟩).1) :
  Run Tryz.prog E 9 [.slice z (u8s l) .any] ((Em.organ.tup2 i64).emb (decS l)):=by
 have R0:Rdr [.box (.agg [.str [],.slice 0 [] .full,.slice 0 [] .full,.slice 0 [] .full]),.box (.agg [.slice z (u8s l) .any,.bool false])] 1 ⟨l,false⟩:=⟨z,hz,rfl⟩
 obtain ⟨σ1,k1,R1,l1,f1⟩:=H1.at R0 hl
 have hln:=rt_organ.len ⟨l,false⟩
 obtain ⟨o,ho⟩:=gn ((dOrgan ⟨l,false⟩).1)
 obtain ⟨s1,hs1⟩:=gn ((dOrgan ⟨l,false⟩).2)
 unfold decS
 rw [ho,hs1] at hok
 rw [ho] at k1
 rw [hs1] at R1 hln
 rw [ho,hs1]
 simp only at hln
 have g0:=f1 0 (by simp) (by decide)
 simp only [List.getElem?_cons_zero] at g0
 obtain ⟨eo,heo⟩:=gn (Em.organ.emb o)
 simp only [ptrA] at k1
 obtain ⟨xs,hxs⟩:=gn (u8s l)
 rw [hxs] at k1
 rw [hxs]
 have R2:Rdr (σ1++[.box (Em.organ.emb o)]) 1 s1:=R1.more
 obtain ⟨σ2,k2,R3,l2,f2⟩:=H2.at R2 (by omega)
 have hdw:dWhole s1=(!s1.bad&&decide (s1.inp.length=0),s1):=rfl
 rw [hdw] at k2
 simp only [ptrA] at k2
 have g2:=f2 σ1.length (by simp) (by have:=R1.lt;omega)
 rw [List.getElem?_concat_length] at g2
 have g3:=f2 0 (by simp) (by decide)
 rw [List.getElem?_append_left (by have:=R1.lt;omega),g0] at g3
 obtain ⟨w2,z2⟩:=List.getElem?_eq_some_iff.1 g2
 obtain ⟨w3,z3⟩:=List.getElem?_eq_some_iff.1 g3
 have hbad:s1.bad=true∨(s1.bad=false∧s1.inp≠[])∨(s1.bad=false∧s1.inp=[]∧okOr o):=by
  cases hb:s1.bad
  ·by_cases hi:s1.inp=[]
   ·exact .inr (.inr ⟨rfl,hi,hok hb hi⟩)
   ·exact .inr (.inl ⟨rfl,hi⟩)
  ·exact .inl rfl
 clear hok
 rcases hbad with c1 | ⟨c1,c2⟩ | ⟨c1,c2,c3⟩
 ·rw [if_neg (by rw [c1];simp)]
  have ew:(!s1.bad&&decide (s1.inp.length=0))=false:=by rw [c1];rfl
  rw [ew] at k2
  obtain ⟨on,rs,ds,cs⟩:=o
  simp only [emb_organ,emb_list] at k1 k2 g2 z2
  apply Run.bodyL h0 Tryz.func9 rfl
  focus (simp [show Tryz.f9.ntmps=_ from rfl,List.replicate];rfl)
  have gx:=An @h1 (An @h2 (An @h3 (An @k1 (An @k2 (An @g2 (An @w2 (An @z2 (An @g3 (An @w3 (@z3))))))))))
  refine goA ?_
  clear gx
  refine ⟨.tup [.agg [.str [],.slice 0 [] .full,.slice 0 [] .full,.slice 0 [] .full],.int .i64 26],σ2.set 0 (.box (.agg [.str [],.slice 0 [] .full,.slice 0 [] .full,.slice 0 [] .full])),by simp [pfinish,w3],?_⟩
  rfl
 ·rw [if_neg (by simp [c2])]
  have ew:(!s1.bad&&decide (s1.inp.length=0))=false:=by simp [c2]
  rw [ew] at k2
  obtain ⟨on,rs,ds,cs⟩:=o
  simp only [emb_organ,emb_list] at k1 k2 g2 z2
  apply Run.bodyL h0 Tryz.func9 rfl
  focus (simp [show Tryz.f9.ntmps=_ from rfl,List.replicate];rfl)
  have gx:=An @h1 (An @h2 (An @h3 (An @k1 (An @k2 (An @g2 (An @w2 (An @z2 (An @g3 (An @w3 (@z3))))))))))
  refine goA ?_
  clear gx
  refine ⟨.tup [.agg [.str [],.slice 0 [] .full,.slice 0 [] .full,.slice 0 [] .full],.int .i64 26],σ2.set 0 (.box (.agg [.str [],.slice 0 [] .full,.slice 0 [] .full,.slice 0 [] .full])),by simp [pfinish,w3],?_⟩
  rfl
 ·have ew:(!s1.bad&&decide (s1.inp.length=0))=true:=by rw [c1,c2];rfl
  rw [ew] at k2
  have hC:=fun σ=>gCk_of c3 0 σ
  obtain ⟨on,rs,ds,cs⟩:=o
  simp only [emb_organ,emb_list] at k1 k2 g2 z2 hC
  by_cases c4:organE ⟨on,rs,ds,cs⟩=0
  ·rw [if_pos ⟨c1,c2,c4⟩]
   rw [c4] at hC
   apply Run.bodyL h0 Tryz.func9 rfl
   focus (simp [show Tryz.f9.ntmps=_ from rfl,List.replicate];rfl)
   have gx:=An @h1 (An @h2 (An @h3 (An @k1 (An @k2 (An @g2 (An @w2 (An @z2 (An @g3 (An @w3 (An @z3 (@hC)))))))))))
   refine goA ?_
   clear gx
   refine ⟨.tup [.agg [.str on,.slice (sz 6 rs) (rs.map Em.rank.emb) .any,.slice (sz 5 ds) (ds.map Em.div.emb) .any,.slice (sz 5 cs) (cs.map Em.coup.emb) .any],.int .i64 0],σ2.set 0 (.box (.agg [.str on,.slice (sz 6 rs) (rs.map Em.rank.emb) .any,.slice (sz 5 ds) (ds.map Em.div.emb) .any,.slice (sz 5 cs) (cs.map Em.coup.emb) .any])),by simp [pfinish,w3],?_⟩
   exact (Em.organ.tup2 i64).str (⟨on,rs,ds,cs⟩,0)
  ·rw [if_neg (fun h=>c4 h.2.2)]
   apply Run.bodyL h0 Tryz.func9 rfl
   focus (simp [show Tryz.f9.ntmps=_ from rfl,List.replicate];rfl)
   have gx:=An @h1 (An @h2 (An @h3 (An @k1 (An @k2 (An @g2 (An @w2 (An @z2 (An @g3 (An @w3 (An @z3 (An @hC (@c4))))))))))))
   refine goA ?_
   clear gx
   refine ⟨.tup [.agg [.str [],.slice 0 [] .full,.slice 0 [] .full,.slice 0 [] .full],.int .i64 26],σ2.set 0 (.box (.agg [.str [],.slice 0 [] .full,.slice 0 [] .full,.slice 0 [] .full])),by simp [pfinish,w3],?_⟩
   rfl
end Go.Kz

namespace Go.Kz
open Go Go.Proofs
set_option maxRecDepth 100000
set_option maxHeartbeats 4000000
theorem mem_flat {α:Type} {f:α→List UInt8} {l:List α} {x:α} (h:x∈l):(f x).length≤(l.flatMap f).length:=by
 obtain ⟨a,b,rfl⟩:=List.append_of_mem h
 rw [List.flatMap_append,List.flatMap_cons,List.length_append,List.length_append]
 omega
theorem eList_len {α:Type} (f:α→List UInt8) (l:List α):(eList f l).length=8+(l.flatMap f).length:=by
 unfold eList
 rw [List.length_append,b8_length]
theorem okOr_len {o:OrganD} (h:(eOrgan o).length≤100000):okOr o:=by
 obtain ⟨nm,rs,ds,cs⟩:=o
 simp only [eOrgan,eText,List.length_append,b8_length,eList_len] at h
 have hr:=flat_ge (f:=eRank) (fun x=>List.length_pos_iff.2 (eRank_ne x)) rs
 have hd:=flat_ge (f:=eDiv) (fun x=>List.length_pos_iff.2 (eDiv_ne x)) ds
 have hc:=flat_ge (f:=eCoup) (fun x=>List.length_pos_iff.2 (eCoup_ne x)) cs
 refine ⟨?_,⟨fun r hm=>?_,?_⟩,⟨?_,fun d hm=>?_⟩,?_,fun c hm=>?_⟩
 ·show nm.length≤100000
  omega
 ·have hl:=mem_flat (f:=eRank) hm
  have hw:r.wind.length≤(r.wind.flatMap b8).length:=by rw [flat_b8];omega
  simp only [eRank,eFeet,eText,List.length_append,b8_length,eList_len] at hl
  refine ⟨?_,?_,?_⟩
  ·show r.wind.length≤1000000
   omega
  ·show r.name.length≤100000
   omega
  ·show r.tone.length≤100000
   omega
 ·show rs.length≤1000000
  omega
 ·show ds.length≤1000000
  omega
 ·have hl:=mem_flat (f:=eDiv) hm
  simp only [eDiv,eText,List.length_append,b8_length,eList_len] at hl
  have hs:=flat_ge (f:=eStop) (fun x=>List.length_pos_iff.2 (eStop_ne x)) d.stops
  refine ⟨?_,?_,fun s hms=>?_⟩
  ·show d.name.length≤100000
   omega
  ·omega
  ·have hls:=mem_flat (f:=eStop) hms
   simp only [eStop,eFeet,eText,List.length_append,b8_length,eList_len] at hls
   have hg:=flat_ge (f:=eSeg) (fun x=>by simp only [eSeg,List.length_append,b8_length];omega) s.segs
   refine ⟨⟨?_,fun g hmg=>?_⟩,?_⟩
   ·omega
   ·have hlg:=mem_flat (f:=eSeg) hmg
    simp only [eSeg,List.length_append,b8_length,eList_len] at hlg
    have hw:=flat_ge (f:=eDraw) (fun x=>by simp only [eDraw,List.length_append,b8_length];omega) g.draws
    show g.draws.length≤1000000
    omega
   ·show s.name.length≤100000
    omega
 ·show cs.length≤1000000
  omega
 ·have hl:=mem_flat (f:=eCoup) hm
  simp only [eCoup,eText,List.length_append,b8_length] at hl
  show c.name.length≤100000
  omega
theorem dOrgan_whole {l:List UInt8} (h1:(dOrgan ⟨l,false⟩).2.bad=false) (h2:(dOrgan ⟨l,false⟩).2.inp=[]):eOrgan (dOrgan ⟨l,false⟩).1=l:=by
 have:=(rt_organ.bwd ⟨l,false⟩ h1).2
 rw [h2,List.append_nil] at this
 exact this.symm
theorem dOrgan_ok {l:List UInt8} (hl:l.length≤100000) (h1:(dOrgan ⟨l,false⟩).2.bad=false) (h2:(dOrgan ⟨l,false⟩).2.inp=[]):okOr (dOrgan ⟨l,false⟩).1:=
 okOr_len (by rw [dOrgan_whole h1 h2];exact hl)
theorem dec_right {l:List UInt8} (h:(decS l).2=0):organE (decS l).1=0∧eOrgan (decS l).1=l:=by
 unfold decS at h ⊢
 split at h
 ·rename_i hc
  rw [if_pos hc]
  exact ⟨hc.2.2,dOrgan_whole hc.1 hc.2.1⟩
 ·cases h
theorem dec_wrong {l:List UInt8} (h:(decS l).2≠0):(decS l).2=26∧(decS l).1=⟨[],[],[],[]⟩:=by
 unfold decS at h ⊢
 split at h
 ·exact absurd rfl h
 ·rename_i hc
  rw [if_neg hc]
  exact ⟨rfl,rfl⟩
theorem dec_enc {o:OrganD} (h1:okOg o) (h2:organE o=0):decS (eOrgan o)=(o,0):=by
 have:=rt_organ.fwd o [] h1
 rw [List.append_nil] at this
 unfold decS
 rw [this,if_pos ⟨rfl,rfl,h2⟩]
variable {E:PExt} (hU:Uni E)
include hU
theorem r_EqualB (h0:E 11=none) (l:List UInt8) (hn:l.length≤1000000) (z:Nat) (hz:l=[]∨z=1):Run Tryz.prog E 11 [.slice z (u8s l) .any,.slice z (u8s l) .any] (.bool true):=by
 obtain ⟨tot,htot⟩:=gn (l.length)
 have hul:=u8s_length l
 rw [htot] at hul
 apply Run.bodyL h0 Tryz.func11 rfl
 focus (simp [show Tryz.f11.ntmps=_ from rfl,List.replicate];rfl)
 have gx:=@hul
 refine goA ?_
 clear gx
 refine Wp.loopI (fun m fr σ=>∃ (k:Nat),∃ gg:Nat→PD,(k+m=tot)∧fr=[.slice z (u8s l) .any,.slice z (u8s l) .any,gg 2,gg 3,.bool false,gg 5,gg 6,gg 7,gg 8,gg 9,gg 10,.slice z (u8s l) .any,.int .i64 tot,.int .i64 k,gg 14,gg 15,gg 16,gg 17,gg 18,gg 19,gg 20,gg 21,gg 22,gg 23,gg 24,gg 25]∧σ=[]) ?_ (tot) (by refine ⟨0,?_⟩;exact exF (by omega) (by (first | rfl | (simp [hul];repeat (first | rfl | (apply And.intro))) | (simp [hul];done))) (by (first | rfl | (simp [hul];repeat (first | rfl | (apply And.intro))) | (simp [hul];done))))
 rintro m fr σ ⟨k,gg,hI,rfl,rfl⟩
 by_cases hk:k < tot
 ·have q1:(k:Int) < tot:=by omega
  have hkl:k < l.length:=by omega
  have hz1:z=1:=by
   rcases hz with h | h
   ·rw [h] at hkl;simp at hkl
   ·exact h
  subst hz1
  obtain ⟨x,hx⟩:=gn (l[k])
  have he:(u8s l)[k]?=some (.int .u8 x.toNat):=by
   unfold u8s
   rw [List.getElem?_map,List.getElem?_eq_getElem hkl,hx]
   rfl
  obtain ⟨w,hg⟩:=List.getElem?_eq_some_iff.1 he
  have gx:=An @q1 (An @w (An @hg (@hul)))
  refine goA ?_
  clear gx
  refine LoopI.normal (m - 1) (by omega) (by refine ⟨k+1,?_⟩;exact exF (by omega) (by (first | rfl | (simp [hul];repeat (first | rfl | (apply And.intro))) | (simp [hul];done))) (by (first | rfl | (simp [hul];repeat (first | rfl | (apply And.intro))) | (simp [hul];done))))
 ·have q1:¬ (k:Int) < tot:=by omega
  have gx:=@q1
  refine goA ?_
  clear gx
  exact ⟨_,_,rfl,rfl⟩
end Go.Kz

namespace Go.Kz
open Go Go.Proofs
set_option maxRecDepth 100000
set_option maxHeartbeats 4000000
theorem n64 {n:Int} (h1:-1000000≤n) (h2:n≤1000000):okN64 n:=⟨by omega,by omega⟩
theorem l64 {n:Nat} (h2:n≤1000000):okN64 n:=n64 (by omega) (by omega)
theorem flat_le {α:Type} {f:α→List UInt8} {K:Nat}:∀ {l:List α},(∀ x∈l,(f x).length≤K)→(l.flatMap f).length≤l.length*K
 | [],_=>by simp
 | x::r,h=>by
   have h1:=h x (List.mem_cons_self ..)
   have h2:=flat_le (l:=r) fun y hy=>h y (List.mem_cons_of_mem _ hy)
   rw [List.flatMap_cons,List.length_append,List.length_cons,Nat.succ_mul]
   omega
def near (n:Int):Prop:=-100000≤n∧n≤100000
theorem near.n64 {n:Int} (h:near n):okN64 n:=Kz.n64 (by have:=h.1;omega) (by have:=h.2;omega)
theorem seg_tight {lo hi a b:Int} (h1:near lo) (h2:near hi) (h3:near a) (h4:near b):okSg ⟨lo,hi,[⟨a,b⟩]⟩:=by
 refine ⟨h1.n64,h2.n64,l64 (by simp),fun x hx=>?_⟩
 simp only [List.mem_cons,List.not_mem_nil,or_false] at hx
 subst hx
 exact ⟨h3.n64,h4.n64⟩
theorem seg_tight2 {lo hi a b c d:Int} (h1:near lo) (h2:near hi) (h3:near a) (h4:near b) (h5:near c) (h6:near d):okSg ⟨lo,hi,[⟨a,b⟩,⟨c,d⟩]⟩:=by
 refine ⟨h1.n64,h2.n64,l64 (by simp),fun x hx=>?_⟩
 simp only [List.mem_cons,List.not_mem_nil,or_false] at hx
 rcases hx with rfl | rfl
 ·exact ⟨h3.n64,h4.n64⟩
 ·exact ⟨h5.n64,h6.n64⟩
theorem segs_tight {k n sh lo hi at_ m other:Int} (h1:0≤n∧n≤1000) (h2:-100≤sh∧sh≤100) (h3:0≤lo∧lo≤1000) (h4:0≤hi∧hi≤1000) (h5:0≤at_∧at_≤1000) (h6:0≤m∧m≤1000) (h7:-100≤other∧other≤100) :
  ∀ g∈segsS k n sh lo hi at_ m other,okSg g:=by
 have a1:near n:=⟨by omega,by omega⟩
 have a2:near sh:=⟨by omega,by omega⟩
 have a3:near lo:=⟨by omega,by omega⟩
 have a4:near hi:=⟨by omega,by omega⟩
 have a5:near at_:=⟨by omega,by omega⟩
 have a6:near m:=⟨by omega,by omega⟩
 have a7:near other:=⟨by omega,by omega⟩
 have a8:near (sh+7):=⟨by omega,by omega⟩
 have a9:near (sh - 12):=⟨by omega,by omega⟩
 have a10:near (at_ - 1):=⟨by omega,by omega⟩
 intro g hg
 unfold segsS at hg
 split at hg
 ·simp only [List.mem_cons,List.not_mem_nil,or_false] at hg
  subst hg
  exact seg_tight2 a3 a4 a1 a2 a1 a8
 split at hg
 ·rcases List.mem_append.1 hg with hg | hg
  ·split at hg
   ·simp only [List.mem_cons,List.not_mem_nil,or_false] at hg
    subst hg
    exact seg_tight a3 a10 a1 a2
   ·simp at hg
  ·simp only [List.mem_cons,List.not_mem_nil,or_false] at hg
   subst hg
   split
   ·exact seg_tight a5 a4 a6 a7
   ·exact seg_tight a5 a4 a1 a9
 split at hg
 ·simp only [List.mem_cons,List.not_mem_nil,or_false] at hg
  subst hg
  exact seg_tight a5 a4 a1 a2
 ·simp only [List.mem_cons,List.not_mem_nil,or_false] at hg
  subst hg
  exact seg_tight a3 a4 a1 a2
theorem six_near (n:Int):near (sixAt n).1∧near (sixAt n).2:=by
 have h:∀ t∈feetSix,near t.1∧near t.2:=by unfold near;decide
 unfold sixAt
 rw [List.getD_eq_getElem?_getD]
 cases e:feetSix[(n%6).toNat]? with
 | none=>exact ⟨⟨by decide,by decide⟩,⟨by decide,by decide⟩⟩
 | some t=>exact h t (List.mem_of_getElem? e)
theorem all_near (n:Int):near (allAt n).1∧near (allAt n).2:=by
 have h:∀ t∈feetAll,near t.1∧near t.2:=by unfold near;decide
 unfold allAt
 rw [List.getD_eq_getElem?_getD]
 cases e:feetAll[(n%16).toNat]? with
 | none=>exact ⟨⟨by decide,by decide⟩,⟨by decide,by decide⟩⟩
 | some t=>exact h t (List.mem_of_getElem? e)
theorem organ_tight (p:PlanD) (hp:okPl p) (hf:fitsB p=true):okOg (organS p)∧(eOrgan (organS p)).length≤20000:=by
 have hs:=organ_small p hf
 obtain ⟨r1,r3,d1,d3,c3,s3⟩:=fitsP hf
 obtain ⟨hpR,hpD,hpC⟩:=hp
 have hrl:=ranksS_length p.ranks p.ranks.length
 have hR:∀ r∈ranksS p.ranks p.ranks.length,okRk r∧(eRank r).length≤1000:=fun r hr=>by
  have hk:=hs.rk r hr
  obtain ⟨x,hx,i,_,rfl⟩:=mem_ranksS (Nat.le_refl _) hr
  have hx1:=hpR x hx
  obtain ⟨k1,k2,⟨k3,k3'⟩,k4,⟨g0,g0'⟩,⟨g1,g1'⟩,⟨g2,g2'⟩,⟨g3,g3'⟩,⟨g4,g4'⟩⟩:=hx1
  have hw:(windS x (1+(x.pipes%25).toNat)).length≤25:=by simp only [windS,List.length_map,List.length_range];omega
  refine ⟨⟨l64 (by omega),l64 (by omega),⟨(all_near x.feet).1.n64,(all_near x.feet).2.n64⟩,n64 (by simp only [rankS];omega) (by simp only [rankS];omega),l64 (by omega),fun w hw=>?_⟩,?_⟩
  ·obtain ⟨j,_,rfl⟩:=List.mem_map.1 hw
   unfold windAt
   have:∀ w∈[x.w0,x.w1,x.w2,x.w3,x.w4],near w:=fun w hw=>by
    simp only [List.mem_cons,List.not_mem_nil,or_false] at hw
    rcases hw with rfl | rfl | rfl | rfl | rfl <;> exact ⟨by omega,by omega⟩
   exact (this _ (getD_mem (by simp only [List.length_cons,List.length_nil];omega) _)).n64
  ·have e1:(rankS x i).wind.length≤25:=hw
   have e2:=hk.1
   have e3:=hk.2.1
   simp only [eRank,eFeet,eText,List.length_append,b8_length,eList_len,flat_b8]
   omega
 obtain ⟨rs,hrs⟩:=gn (ranksS p.ranks p.ranks.length)
 have hD:∀ d∈boardsS rs p.divs p.divs.length,okDn d∧(eDiv d).length≤2000:=fun d hd=>by
  have hk:=hs.dv d (by unfold organS;simp only;rw [hrs];exact hd)
  obtain ⟨b,hb,i,_,rfl⟩:=mem_boardsS (Nat.le_refl _) hd
  obtain ⟨⟨a1,a2⟩,⟨a3,a4⟩,a5⟩:=hpD b hb
  have hsl:(boardS rs b i).stops.length≤3:=by
   have:=s3 b hb
   simp only [boardS,pullsS,List.length_map,List.length_range]
   omega
  have hS:∀ s∈(boardS rs b i).stops,okSp s∧(eStop s).length≤500:=fun s hs'=>by
   have hk2:=hk.2.2 s hs'
   obtain ⟨x,hx,j,_,rfl⟩:=mem_pullsS (Nat.le_refl _) hs'
   obtain ⟨⟨x1,x2⟩,x3,x4,⟨x5,x6⟩⟩:=a5 x hx
   have hk0:(rs.length:Int)≠0:=by rw [← hrs];omega
   have hrl2:rs.length≤3:=by rw [← hrs];omega
   have hrl3:(0:Int) < rs.length:=by omega
   have hkk:36+b.low%12+b.keys%9 - (36+b.low%12)+1≠0:=by omega
   have e1:=Int.emod_nonneg x.rank hk0
   have e2:=Int.emod_lt_of_pos x.rank hrl3
   have e3:=Int.emod_nonneg (x.rank%rs.length+1) hk0
   have e4:=Int.emod_lt_of_pos (x.rank%rs.length+1) hrl3
   have e5:=Int.emod_nonneg x.at_ hkk
   have e6:=Int.emod_lt_of_pos x.at_ (show (0:Int) < 36+b.low%12+b.keys%9 - (36+b.low%12)+1 by omega)
   have f1:=shift_bound (sixAt x.feet) (feetOf rs (x.rank%rs.length).toNat)
   have f2:=shift_bound (sixAt x.feet) (feetOf rs ((x.rank%rs.length+1)%rs.length).toNat)
   have hl:=segsS_len (x.kind%6) (x.rank%rs.length) (shiftOf (sixAt x.feet) (feetOf rs (x.rank%rs.length).toNat)) (36+b.low%12) (36+b.low%12+b.keys%9) (36+b.low%12+x.at_%(36+b.low%12+b.keys%9 - (36+b.low%12)+1)) ((x.rank%rs.length+1)%rs.length) (shiftOf (sixAt x.feet) (feetOf rs ((x.rank%rs.length+1)%rs.length).toNat))
   have hg:=segs_tight (k:=x.kind%6) (n:=x.rank%rs.length) (sh:=shiftOf (sixAt x.feet) (feetOf rs (x.rank%rs.length).toNat)) (lo:=36+b.low%12) (hi:=36+b.low%12+b.keys%9) (at_:=36+b.low%12+x.at_%(36+b.low%12+b.keys%9 - (36+b.low%12)+1)) (m:=(x.rank%rs.length+1)%rs.length) (other:=shiftOf (sixAt x.feet) (feetOf rs ((x.rank%rs.length+1)%rs.length).toNat))
    ⟨e1,by omega⟩ ⟨by omega,by omega⟩ ⟨by omega,by omega⟩ ⟨by omega,by omega⟩ ⟨by omega,by omega⟩ ⟨e3,by omega⟩ ⟨by omega,by omega⟩
   have hsg:(pullS rs (36+b.low%12) (36+b.low%12+b.keys%9) x j).segs=segsS (x.kind%6) (x.rank%rs.length) (shiftOf (sixAt x.feet) (feetOf rs (x.rank%rs.length).toNat)) (36+b.low%12) (36+b.low%12+b.keys%9) (36+b.low%12+x.at_%(36+b.low%12+b.keys%9 - (36+b.low%12)+1)) ((x.rank%rs.length+1)%rs.length) (shiftOf (sixAt x.feet) (feetOf rs ((x.rank%rs.length+1)%rs.length).toNat)):=rfl
   rw [← hsg] at hl hg
   refine ⟨⟨l64 (by omega),⟨(six_near x.feet).1.n64,(six_near x.feet).2.n64⟩,l64 (by omega),hg⟩,?_⟩
   have hge:∀ g∈(pullS rs (36+b.low%12) (36+b.low%12+b.keys%9) x j).segs,(eSeg g).length≤60:=fun g hg'=>by
    have:=hl.2 g hg'
    have h16:(g.draws.flatMap eDraw).length≤g.draws.length*16:=flat_le fun w _=>by simp [eDraw,b8_length]
    simp only [eSeg,List.length_append,b8_length,eList_len]
    omega
   have hfl:=flat_le hge
   have:=hk2.1
   simp only [eStop,eFeet,eText,List.length_append,b8_length,eList_len]
   omega
  refine ⟨⟨l64 (by omega),trivial,n64 (by simp only [boardS];omega) (by simp only [boardS];omega),n64 (by simp only [boardS];omega) (by simp only [boardS];omega),l64 (by omega),fun s h=>(hS s h).1⟩,?_⟩
  have hfl:=flat_le (f:=eStop) fun s h=>(hS s h).2
  have:=hk.1
  simp only [eDiv,eTruth,eText,List.length_append,b8_length,eList_len]
  omega
 have hC:∀ c∈linksS p.divs.length p.coups p.coups.length,okCp c∧(eCoup c).length≤500:=fun c hc=>by
  have hk:=hs.cp c hc
  obtain ⟨i,hi,rfl⟩:=List.mem_map.1 hc
  have hi':=List.mem_range.1 hi
  obtain ⟨x,hx⟩:=gn (p.coups.getD i default)
  rw [hx] at hk ⊢
  have hm:=hpC x (hx▸getD_mem hi' _)
  obtain ⟨⟨a1,a2⟩,⟨a3,a4⟩,a5,a6⟩:=hm
  have hd0:(p.divs.length:Int)≠0:=by omega
  have hd1:(0:Int) < p.divs.length:=by omega
  have e1:=Int.emod_nonneg x.org hd0
  have e2:=Int.emod_lt_of_pos x.org hd1
  have e3:=Int.emod_nonneg x.dst hd0
  have e4:=Int.emod_lt_of_pos x.dst hd1
  have e5:near (x.shift.tmod 25):=by
   rcases Int.le_total 0 x.shift with h | h
   ·rw [Int.tmod_eq_emod_of_nonneg h]
    exact ⟨by omega,by omega⟩
   ·have:x.shift.tmod 25=-((-x.shift)%25):=by
     rw [← Int.tmod_eq_emod_of_nonneg (by omega:0≤-x.shift),Int.neg_tmod,Int.neg_neg]
    rw [this]
    exact ⟨by omega,by omega⟩
  have e6:near (linkS p.divs.length x i).shift:=by
   unfold linkS
   simp only
   split
   ·exact ⟨by decide,by decide⟩
   ·exact e5
  refine ⟨⟨l64 (by omega),n64 (by simp only [linkS];omega) (by simp only [linkS];omega),n64 (by simp only [linkS];omega) (by simp only [linkS];omega),e6.n64,trivial⟩,?_⟩
  simp only [eCoup,eTruth,eText,List.length_append,b8_length]
  omega
 have hnm:=hs.nm
 have hbl:=boardsS_length rs p.divs p.divs.length
 have hcl:=linksS_length p.divs.length p.coups p.coups.length
 have ho:organS p=⟨[79,114,103,97,110],rs,boardsS rs p.divs p.divs.length,linksS p.divs.length p.coups p.coups.length⟩:=by
  unfold organS
  rw [hrs]
 rw [hrs] at hR hrl
 rw [ho]
 refine ⟨⟨l64 (by simp),⟨l64 (by simp only;omega),fun r h=>(hR r h).1⟩,⟨l64 (by simp only;omega),fun r h=>(hD r h).1⟩,⟨l64 (by simp only;omega),fun r h=>(hC r h).1⟩⟩,?_⟩
 have f1:=flat_le (f:=eRank) fun s h=>(hR s h).2
 have f2:=flat_le (f:=eDiv) fun s h=>(hD s h).2
 have f3:=flat_le (f:=eCoup) fun s h=>(hC s h).2
 simp only [eOrgan,eText,List.length_append,b8_length,eList_len,List.length_cons,List.length_nil]
 omega
end Go.Kz
