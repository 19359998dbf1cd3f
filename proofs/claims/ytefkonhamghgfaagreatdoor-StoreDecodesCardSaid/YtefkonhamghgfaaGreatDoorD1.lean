/-
  Part D1 of the way: an interpreter over pure data, its soundness, walks through functions.
-/
import Derived.Test.YtefkonhamghgfaaGreatDoorP5
import Derived.Test.YtefkonhamghgfaaGreatDoorP4
set_option linter.all false

namespace Go.Kz
open Go Go.Proofs
def u64n (n:Int):Nat:=(n%18446744073709551616).toNat
def b8 (n:Int):List UInt8:=(List.range 8).map fun i=>UInt8.ofNat (u64n n / 256 ^ i)
theorem b8_length (n:Int):(b8 n).length=8:=by simp [b8]
def le:List UInt8→Nat
 | []=>0
 | b::r=>b.toNat+256*le r
def dI (l:List UInt8):Int:=if le l < 9223372036854775808 then (le l:Int) else (le l:Int) - 18446744073709551616
def okN64 (n:Int):Prop:=-9223372036854775808≤n∧n < 9223372036854775808
theorem le_range:∀ (k u:Nat),le ((List.range k).map fun i=>UInt8.ofNat (u / 256 ^ i))=u%256 ^ k
 | 0,u=>by simp [le,Nat.mod_one]
 | k+1,u=>by
   rw [List.range_succ_eq_map]
   simp only [List.map_cons,List.map_map,le,Function.comp_def]
   have e:(fun i=>UInt8.ofNat (u / 256 ^ (i+1)))=fun i=>UInt8.ofNat (u / 256 / 256 ^ i):=by
    funext i
    rw [Nat.pow_succ',Nat.div_div_eq_div_mul]
   show (UInt8.ofNat (u / 256 ^ 0)).toNat+256*le ((List.range k).map fun i=>UInt8.ofNat (u / 256 ^ (i+1)))=_
   rw [e,le_range k (u / 256),Nat.pow_succ',Nat.mod_mul]
   simp
theorem le_b8 (n:Int):le (b8 n)=u64n n:=by
 have h:u64n n < 18446744073709551616:=by unfold u64n;omega
 unfold b8
 rw [le_range 8 (u64n n),Nat.mod_eq_of_lt h]
theorem le_lt:∀ l:List UInt8,le l < 256 ^ l.length
 | []=>by simp [le]
 | b::r=>by
   have h:=le_lt r
   have hb:=b.toNat_lt
   simp only [le,List.length_cons,Nat.pow_succ]
   omega
theorem le_at:∀ (l:List UInt8) (i:Nat) (h:i < l.length),le l / 256 ^ i%256=l[i].toNat
 | [],i,h=>by simp at h
 | b::r,0,h=>by
   have hb:=b.toNat_lt
   simp only [le,Nat.pow_zero,Nat.div_one,List.getElem_cons_zero]
   omega
 | b::r,i+1,h=>by
   have hb:=b.toNat_lt
   have ih:=le_at r i (by simpa using h)
   have e:(b.toNat+256*le r) / 256=le r:=by omega
   simp only [le,List.getElem_cons_succ]
   rw [Nat.pow_succ',← Nat.div_div_eq_div_mul,e,ih]
structure BSt where
 inp:List UInt8
 bad:Bool
abbrev Dec (α:Type):=BSt→α×BSt
def dNum:Dec Int:=fun s=>if s.bad=true∨s.inp.length < 8 then (0,⟨s.inp,true⟩) else (dI (s.inp.take 8),⟨s.inp.drop 8,false⟩)
def dText:Dec (List UInt8):=fun s=>let r:=dNum s
 if r.2.bad=true∨r.1 < 0∨(r.2.inp.length:Int) < r.1 then ([],⟨r.2.inp,true⟩) else (r.2.inp.take r.1.toNat,⟨r.2.inp.drop r.1.toNat,false⟩)
def dTruth:Dec Bool:=fun s=>let r:=dNum s
 (decide (r.1=1),⟨r.2.inp,r.2.bad||decide (r.1 < 0)||decide (1 < r.1)⟩)
def dLoop {α:Type} (d:Dec α):Nat→BSt→List α×BSt
 | 0,s=>([],s)
 | k+1,s=>if s.bad=true then ([],s) else let r:=d s;let q:=dLoop d k r.2;(r.1::q.1,q.2)
def dList {α:Type} (d:Dec α):Dec (List α):=fun s=>let r:=dNum s
 dLoop d r.1.toNat ⟨r.2.inp,r.2.bad||decide (r.1 < 0)⟩
def dFeet:Dec (Int×Int):=fun s=>let a:=dNum s;let b:=dNum a.2;((a.1,b.1),b.2)
def dRank:Dec RankD:=fun s=>
 let a:=dText s;let b:=dText a.2;let c:=dFeet b.2;let d:=dNum c.2;let e:=dList dNum d.2
 (⟨a.1,b.1,c.1.1,c.1.2,d.1,e.1⟩,e.2)
def dDraw:Dec DrawD:=fun s=>let a:=dNum s;let b:=dNum a.2;(⟨a.1,b.1⟩,b.2)
def dSeg:Dec SegD:=fun s=>let a:=dNum s;let b:=dNum a.2;let c:=dList dDraw b.2;(⟨a.1,b.1,c.1⟩,c.2)
def dStop:Dec StopD:=fun s=>let a:=dText s;let b:=dFeet a.2;let c:=dList dSeg b.2;(⟨a.1,b.1.1,b.1.2,c.1⟩,c.2)
def dDiv:Dec DivD:=fun s=>let a:=dText s;let b:=dTruth a.2;let c:=dNum b.2;let d:=dNum c.2;let e:=dList dStop d.2;(⟨a.1,b.1,c.1,d.1,e.1⟩,e.2)
def dCoup:Dec CoupD:=fun s=>let a:=dText s;let b:=dNum a.2;let c:=dNum b.2;let d:=dNum c.2;let e:=dTruth d.2;(⟨a.1,b.1,c.1,d.1,e.1⟩,e.2)
def dOrgan:Dec OrganD:=fun s=>let a:=dText s;let b:=dList dRank a.2;let c:=dList dDiv b.2;let d:=dList dCoup c.2;(⟨a.1,b.1,c.1,d.1⟩,d.2)
def eText (s:List UInt8):List UInt8:=b8 s.length++s
def eTruth (b:Bool):List UInt8:=b8 (if b=true then 1 else 0)
def eList {α:Type} (e:α→List UInt8) (l:List α):List UInt8:=b8 l.length++l.flatMap e
def eFeet (x:Int×Int):List UInt8:=b8 x.1++b8 x.2
def eRank (r:RankD):List UInt8:=eText r.name++(eText r.tone++(eFeet (r.num,r.den)++(b8 r.first++eList b8 r.wind)))
def eDraw (d:DrawD):List UInt8:=b8 d.rank++b8 d.shift
def eSeg (g:SegD):List UInt8:=b8 g.lo++(b8 g.hi++eList eDraw g.draws)
def eStop (s:StopD):List UInt8:=eText s.name++(eFeet (s.num,s.den)++eList eSeg s.segs)
def eDiv (d:DivD):List UInt8:=eText d.name++(eTruth d.pedal++(b8 d.low++(b8 d.high++eList eStop d.stops)))
def eCoup (c:CoupD):List UInt8:=eText c.name++(b8 c.org++(b8 c.dst++(b8 c.shift++eTruth c.thr)))
def eOrgan (o:OrganD):List UInt8:=eText o.name++(eList eRank o.ranks++(eList eDiv o.divs++eList eCoup o.coups))
structure Rt {α:Type} (d:Dec α) (e:α→List UInt8) (R:α→Prop):Prop where
 fwd:∀ x rest,R x→d ⟨e x++rest,false⟩=(x,⟨rest,false⟩)
 bwd:∀ s,(d s).2.bad=false→s.bad=false∧s.inp=e (d s).1++(d s).2.inp
 len:∀ s,(d s).2.inp.length≤s.inp.length
 use:∀ s,(d s).2.bad=false→(d s).2.inp.length+8≤s.inp.length
theorem b8_dI (l:List UInt8) (h:l.length=8):b8 (dI l)=l:=by
 have hl:=le_lt l
 rw [h] at hl
 have hu:u64n (dI l)=le l:=by
  unfold u64n dI
  split <;> omega
 unfold b8
 rw [hu]
 refine List.ext_getElem (by simp [h]) fun i h1 h2=>?_
 simp only [List.getElem_map,List.getElem_range]
 refine UInt8.toNat_inj.1 ?_
 rw [UInt8.toNat_ofNat',le_at l i h2]
theorem dI_b8 {n:Int} (h:okN64 n):dI (b8 n)=n:=by
 unfold dI
 rw [le_b8]
 unfold u64n
 obtain ⟨h1,h2⟩:=h
 split <;> omega
theorem rt_num:Rt dNum b8 okN64 where
 fwd:=fun x rest h=>by
  unfold dNum
  simp only [List.length_append,b8_length]
  rw [if_neg (by simp),List.take_left' (b8_length x),List.drop_left' (b8_length x),dI_b8 h]
 bwd:=fun s h=>by
  unfold dNum at h ⊢
  split at h
  ·cases h
  ·rename_i hc
   rw [if_neg hc]
   simp only [not_or,Bool.not_eq_true] at hc
   refine ⟨hc.1,?_⟩
   simp only
   rw [b8_dI _ (by rw [List.length_take];omega),List.take_append_drop]
 len:=fun s=>by
  unfold dNum
  split
  ·exact Nat.le_refl _
  ·simp
 use:=fun s h=>by
  unfold dNum at h ⊢
  split at h
  ·cases h
  ·rename_i hc
   rw [if_neg hc]
   simp only [List.length_drop]
   omega
theorem dNum_range (s:BSt):okN64 (dNum s).1:=by
 unfold dNum
 split
 ·exact ⟨(by decide:(-9223372036854775808:Int)≤0),(by decide:(0:Int) < 9223372036854775808)⟩
 ·have:le (s.inp.take 8) < 18446744073709551616:=Nat.lt_of_lt_of_le (le_lt _) (by
   rw [show (18446744073709551616:Nat)=256 ^ 8 from rfl]
   exact Nat.pow_le_pow_right (by decide) (by simp;omega))
  unfold okN64 dI
  simp only
  split <;> omega
theorem Rt.seq {α β:Type} {d1:Dec α} {d2:Dec β} {e1:α→List UInt8} {e2:β→List UInt8} {R1:α→Prop} {R2:β→Prop} (h1:Rt d1 e1 R1) (h2:Rt d2 e2 R2) :
  Rt (fun s=>((((d1 s).1,(d2 (d1 s).2).1),(d2 (d1 s).2).2):(α×β)×BSt)) (fun x=>e1 x.1++e2 x.2) (fun x=>R1 x.1∧R2 x.2) where
 fwd:=fun x rest h=>by
  simp only [List.append_assoc]
  rw [h1.fwd _ _ h.1]
  simp only
  rw [h2.fwd _ _ h.2]
 bwd:=fun s h=>by
  obtain ⟨a1,a2⟩:=h2.bwd _ h
  obtain ⟨b1,b2⟩:=h1.bwd _ a1
  exact ⟨b1,by simp only [List.append_assoc];rw [← a2];exact b2⟩
 len:=fun s=>Nat.le_trans (h2.len _) (h1.len _)
 use:=fun s h=>by
  obtain ⟨a1,a2⟩:=h2.bwd _ h
  have:=h1.use _ a1
  have:=h2.len (d1 s).2
  show (d2 (d1 s).2).2.inp.length+8≤_
  omega
theorem Rt.map {α β:Type} {d:Dec α} {e:α→List UInt8} {R:α→Prop} (h:Rt d e R) (f:α→β) (g:β→α) (hf:∀ y,f (g y)=y) (hg:∀ x,g (f x)=x):Rt (fun s=>((f (d s).1,(d s).2):β×BSt)) (fun y=>e (g y)) (fun y=>R (g y)) where
 fwd:=fun y rest hy=>by
  show ((f (d ⟨e (g y)++rest,false⟩).1,(d ⟨e (g y)++rest,false⟩).2):β×BSt)=_
  rw [h.fwd _ _ hy,hf]
 bwd:=fun s hs=>by
  simp only [hg]
  exact h.bwd s hs
 len:=h.len
 use:=h.use
theorem rt_text:Rt dText eText (fun s=>okN64 s.length) where
 fwd:=fun x rest h=>by
  unfold dText eText
  simp only [List.append_assoc]
  rw [rt_num.fwd _ _ h]
  simp only
  rw [if_neg (by
   rintro (h | h | h)
   ·cases h
   ·omega
   ·rw [List.length_append] at h;omega)]
  simp
 bwd:=fun s h=>by
  unfold dText at h ⊢
  simp only at h ⊢
  split at h
  ·cases h
  ·rename_i hc
   rw [if_neg hc]
   simp only [not_or,Bool.not_eq_true] at hc
   obtain ⟨c1,c2,c3⟩:=hc
   obtain ⟨a1,a2⟩:=rt_num.bwd s c1
   refine ⟨a1,?_⟩
   unfold eText
   simp only [List.append_assoc,List.take_append_drop]
   rw [List.length_take,Nat.min_eq_left (by omega),Int.toNat_of_nonneg (by omega)]
   exact a2
 len:=fun s=>by
  have:=rt_num.len s
  unfold dText
  simp only
  split
  ·exact this
  ·simp only [List.length_drop];omega
 use:=fun s h=>by
  unfold dText at h ⊢
  simp only at h ⊢
  split at h
  ·cases h
  ·rename_i hc
   rw [if_neg hc]
   simp only [not_or,Bool.not_eq_true] at hc
   have:=rt_num.use s hc.1
   simp only [List.length_drop]
   omega
theorem rt_truth:Rt dTruth eTruth (fun _=>True) where
 fwd:=fun x rest h=>by
  unfold dTruth eTruth
  rw [rt_num.fwd _ _ (by cases x <;> exact ⟨by simp,by simp⟩)]
  cases x <;> simp
 bwd:=fun s h=>by
  unfold dTruth at h ⊢
  simp only [Bool.or_eq_false_iff,decide_eq_false_iff_not] at h ⊢
  obtain ⟨⟨c1,c2⟩,c3⟩:=h
  obtain ⟨a1,a2⟩:=rt_num.bwd s c1
  refine ⟨a1,?_⟩
  unfold eTruth
  have:(if (decide ((dNum s).1=1))=true then (1:Int) else 0)=(dNum s).1:=by
   simp only [decide_eq_true_eq]
   split <;> omega
  rw [this]
  exact a2
 len:=fun s=>rt_num.len s
 use:=fun s h=>by
  unfold dTruth at h ⊢
  simp only [Bool.or_eq_false_iff] at h ⊢
  exact rt_num.use s h.1.1
section
variable {α:Type} {d:Dec α} {e:α→List UInt8} {R:α→Prop}
theorem dLoop_bad:∀ (k:Nat) (s:BSt),s.bad=true→dLoop d k s=([],s)
 | 0,s,_=>rfl
 | k+1,s,h=>by simp [dLoop,h]
theorem dLoop_fwd (h:Rt d e R):∀ (l:List α) (rest:List UInt8),(∀ x∈l,R x)→dLoop d l.length ⟨l.flatMap e++rest,false⟩=(l,⟨rest,false⟩)
 | [],rest,_=>rfl
 | x::l,rest,hl=>by
   simp only [List.length_cons,dLoop,Bool.false_eq_true,if_false,List.flatMap_cons,List.append_assoc]
   rw [h.fwd _ _ (hl x (by simp))]
   simp only
   rw [dLoop_fwd h l rest (fun y hy=>hl y (by simp [hy]))]
theorem dLoop_bwd (h:Rt d e R):∀ (k:Nat) (s:BSt),(dLoop d k s).2.bad=false→s.bad=false∧s.inp=(dLoop d k s).1.flatMap e++(dLoop d k s).2.inp∧(dLoop d k s).1.length=k
 | 0,s,hs=>⟨hs,by simp [dLoop],rfl⟩
 | k+1,s,hs=>by
   by_cases hb:s.bad=true
   ·rw [dLoop_bad _ _ hb] at hs
    rw [hb] at hs
    cases hs
   ·have e:dLoop d (k+1) s=((d s).1::(dLoop d k (d s).2).1,(dLoop d k (d s).2).2):=by simp [dLoop,hb]
    rw [e] at hs ⊢
    obtain ⟨a1,a2,a3⟩:=dLoop_bwd h k (d s).2 hs
    obtain ⟨b1,b2⟩:=h.bwd s a1
    refine ⟨b1,?_,by simpa using a3⟩
    simp only [List.flatMap_cons,List.append_assoc]
    rw [← a2]
    exact b2
theorem dLoop_len (h:Rt d e R):∀ (k:Nat) (s:BSt),(dLoop d k s).2.inp.length≤s.inp.length
 | 0,s=>Nat.le_refl _
 | k+1,s=>by
   simp only [dLoop]
   split
   ·exact Nat.le_refl _
   ·exact Nat.le_trans (dLoop_len h k _) (h.len s)
theorem Rt.list (h:Rt d e R):Rt (dList d) (eList e) (fun l=>okN64 l.length∧∀ x∈l,R x) where
 fwd:=fun x rest hx=>by
  unfold dList eList
  simp only [List.append_assoc]
  rw [rt_num.fwd _ _ hx.1]
  simp only [Int.toNat_natCast,Bool.false_or]
  rw [show decide ((x.length:Int) < 0)=false from by simp]
  exact dLoop_fwd h x rest hx.2
 bwd:=fun s hs=>by
  unfold dList at hs ⊢
  simp only at hs ⊢
  obtain ⟨a1,a2,a3⟩:=dLoop_bwd h _ _ hs
  simp only [Bool.or_eq_false_iff,decide_eq_false_iff_not] at a1
  obtain ⟨b1,b2⟩:=rt_num.bwd s a1.1
  refine ⟨b1,?_⟩
  unfold eList
  simp only [List.append_assoc]
  rw [← a2,a3,Int.toNat_of_nonneg (by omega)]
  exact b2
 len:=fun s=>Nat.le_trans (dLoop_len h _ _) (rt_num.len s)
 use:=fun s hs=>by
  unfold dList at hs ⊢
  simp only at hs ⊢
  obtain ⟨a1,_,_⟩:=dLoop_bwd h _ _ hs
  simp only [Bool.or_eq_false_iff] at a1
  have:=rt_num.use s a1.1
  have:=dLoop_len h (dNum s).1.toNat ⟨(dNum s).2.inp,(dNum s).2.bad||decide ((dNum s).1 < 0)⟩
  simp only at this
  omega
end
theorem rt_feet:Rt dFeet eFeet (fun x=>okN64 x.1∧okN64 x.2):=rt_num.seq rt_num
def okRk (r:RankD):Prop:=okN64 r.name.length∧okN64 r.tone.length∧(okN64 r.num∧okN64 r.den)∧okN64 r.first∧okN64 r.wind.length∧∀ x∈r.wind,okN64 x
theorem rt_rank:Rt dRank eRank okRk:=
 (rt_text.seq (rt_text.seq (rt_feet.seq (rt_num.seq rt_num.list)))).map (fun x=>RankD.mk x.1 x.2.1 x.2.2.1.1 x.2.2.1.2 x.2.2.2.1 x.2.2.2.2) (fun r=>(r.name,r.tone,(r.num,r.den),r.first,r.wind)) (fun _=>rfl) (fun _=>rfl)
def okDw (r:DrawD):Prop:=okN64 r.rank∧okN64 r.shift
theorem rt_draw:Rt dDraw eDraw okDw:=(rt_num.seq rt_num).map (fun x=>DrawD.mk x.1 x.2) (fun r=>(r.rank,r.shift)) (fun _=>rfl) (fun _=>rfl)
def okSg (r:SegD):Prop:=okN64 r.lo∧okN64 r.hi∧okN64 r.draws.length∧∀ x∈r.draws,okDw x
theorem rt_seg:Rt dSeg eSeg okSg:=(rt_num.seq (rt_num.seq rt_draw.list)).map (fun x=>SegD.mk x.1 x.2.1 x.2.2) (fun r=>(r.lo,r.hi,r.draws)) (fun _=>rfl) (fun _=>rfl)
def okSp (r:StopD):Prop:=okN64 r.name.length∧(okN64 r.num∧okN64 r.den)∧okN64 r.segs.length∧∀ x∈r.segs,okSg x
theorem rt_stop:Rt dStop eStop okSp:=(rt_text.seq (rt_feet.seq rt_seg.list)).map (fun x=>StopD.mk x.1 x.2.1.1 x.2.1.2 x.2.2) (fun r=>(r.name,(r.num,r.den),r.segs)) (fun _=>rfl) (fun _=>rfl)
def okDn (r:DivD):Prop:=okN64 r.name.length∧True∧okN64 r.low∧okN64 r.high∧okN64 r.stops.length∧∀ x∈r.stops,okSp x
theorem rt_div:Rt dDiv eDiv okDn:=(rt_text.seq (rt_truth.seq (rt_num.seq (rt_num.seq rt_stop.list)))).map (fun x=>DivD.mk x.1 x.2.1 x.2.2.1 x.2.2.2.1 x.2.2.2.2) (fun r=>(r.name,r.pedal,r.low,r.high,r.stops)) (fun _=>rfl) (fun _=>rfl)
def okCp (r:CoupD):Prop:=okN64 r.name.length∧okN64 r.org∧okN64 r.dst∧okN64 r.shift∧True
theorem rt_coup:Rt dCoup eCoup okCp:=(rt_text.seq (rt_num.seq (rt_num.seq (rt_num.seq rt_truth)))).map (fun x=>CoupD.mk x.1 x.2.1 x.2.2.1 x.2.2.2.1 x.2.2.2.2) (fun r=>(r.name,r.org,r.dst,r.shift,r.thr)) (fun _=>rfl) (fun _=>rfl)
def okOg (r:OrganD):Prop:=okN64 r.name.length∧(okN64 r.ranks.length∧∀ x∈r.ranks,okRk x)∧(okN64 r.divs.length∧∀ x∈r.divs,okDn x)∧okN64 r.coups.length∧∀ x∈r.coups,okCp x
theorem rt_organ:Rt dOrgan eOrgan okOg:=(rt_text.seq (rt_rank.list.seq (rt_div.list.seq rt_coup.list))).map (fun x=>OrganD.mk x.1 x.2.1 x.2.2.1 x.2.2.2) (fun r=>(r.name,r.ranks,r.divs,r.coups)) (fun _=>rfl) (fun _=>rfl)
end Go.Kz

namespace Go.Kz
open Go Go.Proofs
set_option maxRecDepth 100000
set_option maxHeartbeats 4000000
variable {E:PExt} (hU:Uni E)
include hU
theorem r_Grow (h0:E 90=none) (n:Nat) (hn:0 < n) (hl:n≤1000000000) (τ:List SObj):WpC Tryz.prog E 0 (.inl 90) [.slice 0 [] .full,.int .i64 n] τ (fun p σ'=>p=.rref τ.length 0 0 0 1∧σ'=τ++[.row 5 1 0 (List.replicate n (.int .u8 0))]):=by
 have hz:∀ σ,pzeroApp Tryz.prog 27 σ 30 (.slice 0 [] .full) (n:Int)=some (.rref σ.length 0 0 n 1,σ++[.row 5 1 0 (List.replicate n (.int .u8 0))]):=fun σ=>by
  have hb:pbyteRow Tryz.prog 30=true:=by decide +kernel
  have ht:trow 30 27=true:=by decide
  unfold pzeroApp
  rw [Tryz.underlying30]
  simp only [hb,ht,true_and]
  rw [if_pos ⟨by omega,by omega⟩,Int.toNat_natCast]
 have hs:∀ id,pslice Tryz.prog 30 (.rref id 0 0 n 1) none (some (some (.int .i64 0))) none=some (.rref id 0 0 0 1):=fun id=>by
  have hp:psize Tryz.prog 5=some 1:=by kernel_rfl
  unfold pslice
  simp [Tryz.underlying30,hp,pbounds,pasNat]
 apply WpC.bodyL h0 Tryz.func90 rfl
 focus (simp [show Tryz.f90.ntmps=_ from rfl,List.replicate];rfl)
 have gx:=True.intro
 refine goA ?_
 clear gx
 first
  | (refine Wp.seq ?_;apply Wp.cond)
  | apply Wp.cond
 (focus (simp (disch:=first | omega | (simp;done) | (simp;omega)) [hn];first | done | rfl))
 intro _
 apply WL.reg1 (by decide +kernel)
 iterate 28 (first
   | (refine Fr.i ?_;simp only [pput,List.set_cons_zero,List.set_cons_succ];try rfl)
   | (refine By.i ?_;(focus (simp (disch:=first | omega | (simp;done) | (simp;omega)) [wrap_i64,wrap_u64,hn,hz];first | done | rfl | exact ⟨rfl,rfl⟩)))
   | (refine Wt.i ?_;first | rfl | (focus (simp [hn];done))) | rfl | apply SL.move | apply SL.assign | apply SL.binOp | apply SL.slice | apply SL.append | skip)
 apply SL.builtin (b:=.cap)
 iterate 16 (first
   | (refine Fr.i ?_;simp only [pput,List.set_cons_zero,List.set_cons_succ];try rfl)
   | (refine By.i ?_;(focus (simp (disch:=first | omega | (simp;done) | (simp;omega)) [wrap_i64,wrap_u64,hn,hz];first | done | rfl | exact ⟨rfl,rfl⟩)))
   | (refine Wt.i ?_;first | rfl | (focus (simp [hn];done))) | rfl | apply SL.move | apply SL.assign | apply SL.binOp | apply SL.slice | apply SL.append | skip)
 apply SL.appendZ
 focus decide +kernel
 iterate 5 (first
   | (refine Fr.i ?_;simp only [pput,List.set_cons_zero,List.set_cons_succ];try rfl)
   | (refine By.i ?_;(focus (simp (disch:=first | omega | (simp;done) | (simp;omega)) [wrap_i64,wrap_u64,hn,hz];first | done | rfl | exact ⟨rfl,rfl⟩)))
   | (refine Wt.i ?_;first | rfl | (focus (simp [hn];done))) | rfl | skip)
 have gx:=@hs
 refine goA ?_
 clear gx
 exact ⟨_,_,rfl,rfl,rfl⟩
 intro h
 cases h
end Go.Kz

namespace Go.Kz
open Go Go.Proofs
set_option maxRecDepth 100000
set_option maxHeartbeats 4000000
def u8s (l:List UInt8):List PD:=l.map fun b=>.int .u8 b.toNat
@[simp] theorem u8s_length (l:List UInt8):(u8s l).length=l.length:=by simp [u8s]
def Rdr (σ:List SObj) (id:Nat) (s:BSt):Prop:=∃ z,(s.inp=[]∨z=1)∧σ[id]?=some (.box (.agg [.slice z (u8s s.inp) .any,.bool s.bad]))
def RdQ {α:Type} (d:Dec α) (em:α→PD) (id:Nat) (s:BSt) (σ:List SObj) (p:PD) (σ':List SObj):Prop:=
 p.strip=em (d s).1∧Rdr σ' id (d s).2∧σ.length≤σ'.length∧∀ j,j < σ.length→j≠id→σ'[j]?=σ[j]?
theorem le_snoc:∀ (l:List UInt8) (b:UInt8),le (l++[b])=le l+b.toNat*256 ^ l.length
 | [],b=>by simp [le]
 | x::l,b=>by
   have ih:=le_snoc l b
   simp only [List.cons_append,le,List.length_cons]
   rw [ih,Nat.pow_succ,← Nat.mul_assoc]
   generalize b.toNat*256 ^ l.length=Q
   omega
theorem num_step (l:List UInt8) (i:Nat) (hi:i < 8) (hl:i < l.length):∃ K:Nat,pshift .shl .u64 (l[i].toNat:Int) (8*(i:Int))=some (.int .u64 (K:Int))∧pbits .or .u64 ((le (l.take i):Nat):Int) (K:Int)=some (((le (l.take i):Nat):Int)+(K:Int))∧le (l.take i)+K=le (l.take (i+1)):=by
 have hb:=l[i].toNat_lt
 have hN:=le_lt (l.take i)
 rw [List.length_take,Nat.min_eq_left (by omega)] at hN
 have hT:le (l.take (i+1))=le (l.take i)+l[i].toNat*256 ^ i:=by
  rw [List.take_succ,List.getElem?_eq_getElem hl]
  simp only [Option.toList]
  rw [le_snoc,List.length_take,Nat.min_eq_left (by omega)]
 obtain ⟨N,hN0⟩:=gn (le (l.take i))
 rw [hN0] at hN hT ⊢
 obtain ⟨b,hb0⟩:=gn (l[i].toNat)
 rw [hb0] at hb hT ⊢
 have hp:(256:Nat) ^ i=2 ^ (8*i):=by rw [Nat.pow_mul]
 have hle:256 ^ i≤256 ^ 7:=Nat.pow_le_pow_right (by decide) (by omega)
 have hK:b*256 ^ i < 18446744073709551616:=by
  have h1:b*256 ^ i≤255*256 ^ 7:=Nat.mul_le_mul (by omega) hle
  have h2:(255*256 ^ 7:Nat) < 18446744073709551616:=by decide
  omega
 have hNl:N < 18446744073709551616:=by
  have h2:(256 ^ 7:Nat) < 18446744073709551616:=by decide
  omega
 refine ⟨b*256 ^ i,?_,?_,hT.symm⟩
 ·unfold pshift
  rw [if_neg (by omega)]
  have e1:(8*(i:Int)).toNat=8*i:=by omega
  have e2:min (8*i) IntKind.u64.bits=8*i:=by
   have:IntKind.u64.bits=64:=rfl
   omega
  simp only [e1,e2]
  rw [show (b:Int)*2 ^ (8*i)=((b*256 ^ i:Nat):Int) by rw [hp];push_cast;rfl]
  generalize b*256 ^ i=K at hK ⊢
  rw [wrap_u64 (by omega) (by omega)]
 ·have hs:b*256 ^ i=b <<< (8*i):=by rw [hp,Nat.shiftLeft_eq]
  have hor:N ||| (b*256 ^ i)=N+b*256 ^ i:=by
   rw [hs,Nat.or_comm,← Nat.shiftLeft_add_eq_or_of_lt (by rw [← hp];exact hN),Nat.add_comm]
  have hsum:N+b*256 ^ i < 18446744073709551616:=by
   have h1:b*256 ^ i≤255*256 ^ i:=Nat.mul_le_mul_right _ (by omega)
   have h2:(256 ^ 8:Nat)=18446744073709551616:=by decide
   have h3:(256:Nat) ^ i*256≤256 ^ 7*256:=Nat.mul_le_mul_right _ hle
   have h4:(256 ^ 7*256:Nat)=18446744073709551616:=by decide
   omega
  generalize b*256 ^ i=K at hK hor hsum ⊢
  unfold pbits
  simp only [Option.some.injEq]
  have e1:(BitVec.ofInt IntKind.u64.bits (N:Int) ||| BitVec.ofInt IntKind.u64.bits (K:Int)).toNat=N+K:=by
   rw [BitVec.toNat_or]
   have a1:(BitVec.ofInt IntKind.u64.bits (N:Int)).toNat=N:=by
    show (BitVec.ofInt 64 (N:Int)).toNat=N
    rw [BitVec.toNat_ofInt];omega
   have a2:(BitVec.ofInt IntKind.u64.bits (K:Int)).toNat=K:=by
    show (BitVec.ofInt 64 (K:Int)).toNat=K
    rw [BitVec.toNat_ofInt];omega
   rw [a1,a2,hor]
  rw [e1,wrap_u64 (by omega) (by omega)]
  rfl
variable {E:PExt} (hU:Uni E)
include hU
theorem w_num (h0:E 100=none) (τ:List SObj) (id:Nat) (s:BSt) (hr:Rdr τ id s) (hl:s.inp.length≤1000000000) :
  WpC Tryz.prog E 0 (.inl 100) [.ptr id 0] τ (RdQ dNum i64.emb id s τ):=by
 obtain ⟨z,hz,hb⟩:=hr
 obtain ⟨hlt,hg⟩:=List.getElem?_eq_some_iff.1 hb
 have hle:=u8s_length s.inp
 obtain ⟨xs,hxs⟩:=gn (u8s s.inp)
 rw [hxs] at hb hg hle
 by_cases c1:s.bad=true
 ·rw [c1] at hb hg
  apply WpC.bodyL h0 Tryz.func100 rfl
  focus (simp [show Tryz.f100.ntmps=_ from rfl,List.replicate];rfl)
  have gx:=An @hb (@hg)
  refine goA ?_
  clear gx
  obtain ⟨ρ9,hρ9⟩:=gn (τ.set id (.box (.agg [.slice z xs .any,.bool true])))
  rw [hρ9]
  have e:dNum s=(0,⟨s.inp,true⟩):=by unfold dNum;rw [if_pos (.inl c1)]
  refine ⟨_,_,rfl,?_⟩
  unfold RdQ
  rw [e]
  refine ⟨rfl,⟨z,hz,by rw [← hρ9,hxs];exact List.getElem?_set_self hlt⟩,by rw [← hρ9,List.length_set];omega,fun j _ hj=>by rw [← hρ9,List.getElem?_set_ne (Ne.symm hj)]⟩
 have c1':s.bad=false:=by simpa using c1
 rw [c1'] at hb hg
 by_cases c2:s.inp.length < 8
 ·have c3:(xs.length:Int) < 8:=by omega
  have c4:(s.inp.length:Int) < 8:=by omega
  apply WpC.bodyL h0 Tryz.func100 rfl
  focus (simp [show Tryz.f100.ntmps=_ from rfl,List.replicate];rfl)
  have gx:=An @hb (An @hg (@c3))
  refine goA ?_
  clear gx
  obtain ⟨ρ9,hρ9⟩:=gn (τ.set id (.box (.agg [.slice z xs .any,.bool true])))
  rw [hρ9]
  have e:dNum s=(0,⟨s.inp,true⟩):=by unfold dNum;rw [if_pos (.inr c2)]
  refine ⟨_,_,rfl,?_⟩
  unfold RdQ
  rw [e]
  refine ⟨rfl,⟨z,hz,by rw [← hρ9,hxs];exact List.getElem?_set_self hlt⟩,by rw [← hρ9,List.length_set];omega,fun j _ hj=>by rw [← hρ9,List.getElem?_set_ne (Ne.symm hj)]⟩
 have c3:¬ (xs.length:Int) < 8:=by omega
 apply WpC.bodyL h0 Tryz.func100 rfl
 focus (simp [show Tryz.f100.ntmps=_ from rfl,List.replicate];rfl)
 have gx:=An @hb (An @hg (@c3))
 refine goA ?_
 clear gx
 have z1:z=1:=by
  rcases hz with h | h
  ·rw [h] at c2;simp at c2
  ·exact h
 subst z1
 refine Wp.loopI (fun m fr σ=>∃ (i:Nat) (N:Nat),∃ gg:Nat→PD,(i+m=8∧N=le (s.inp.take i))∧fr=[.ptr id 0,gg 1,gg 2,.int .u64 N,gg 4,gg 5,gg 6,gg 7,gg 8,gg 9,gg 10,gg 11,gg 12,gg 13,gg 14,gg 15,gg 16,gg 17,gg 18,gg 19,.int .i64 i,gg 21,gg 22,gg 23,gg 24,gg 25,gg 26,gg 27,gg 28,gg 29,gg 30,gg 31,gg 32,gg 33,gg 34,gg 35,gg 36,gg 37,gg 38,gg 39,gg 40,gg 41,gg 42,gg 43,gg 44,gg 45,gg 46]∧σ=τ) ?_ (8) (by refine ⟨0,0,?_⟩;exact exF (⟨by omega,rfl⟩) (by (first | rfl | (simp [];repeat (first | rfl | (apply And.intro))) | (simp [];done))) (by (first | rfl | (simp [];repeat (first | rfl | (apply And.intro))) | (simp [];done))))
 rintro m fr σ ⟨i,N,gg,hI,rfl,rfl⟩
 obtain ⟨hm,hN⟩:=hI
 by_cases hi:i < 8
 ·have q1:(i:Int) < 8:=by omega
  have hii:i < s.inp.length:=by omega
  obtain ⟨K,f1,f2,f3⟩:=num_step s.inp i hi hii
  have hx:xs[i]?=some (.int .u8 (s.inp[i].toNat:Int)):=by
   rw [← hxs]
   unfold u8s
   rw [List.getElem?_map,List.getElem?_eq_getElem hii]
   rfl
  rw [← hN] at f2 f3
  obtain ⟨hix,hx2⟩:=List.getElem?_eq_some_iff.1 hx
  have hb8:=s.inp[i].toNat_lt
  obtain ⟨b,hb0⟩:=gn (s.inp[i].toNat)
  rw [hb0] at hx f1 hx2 hb8
  have w1:IntKind.u64.wrap (b:Int)=b:=wrap_u64 (by omega) (by omega)
  have gx:=An @q1 (An @hb (An @hg (An @hx (An @hix (An @hx2 (An @w1 (An @f1 (@f2))))))))
  refine goA ?_
  clear gx
  refine LoopI.normal (m - 1) (by omega) (by refine ⟨i+1,N+K,?_⟩;exact exF (⟨by omega,by omega⟩) (by (first | rfl | (simp [];repeat (first | rfl | (apply And.intro))) | (simp [];done))) (by (first | rfl | (simp [];repeat (first | rfl | (apply And.intro))) | (simp [];done))))
 ·have q1:¬ (i:Int) < 8:=by omega
  have gx:=An @q1 (An @hb (@hg))
  refine goA ?_
  clear gx
  have hi8:i=8:=by omega
  subst hi8
  have hN0:N < 18446744073709551616:=by
   have:=le_lt (s.inp.take 8)
   rw [List.length_take,Nat.min_eq_left (by omega),← hN] at this
   exact this
  have hw:IntKind.i64.wrap (N:Int)=dI (s.inp.take 8):=by
   unfold dI
   rw [← hN,IntKind.wrap_i64]
   split <;> omega
  have hd:(xs.drop 8).take (xs.length - 8)=u8s (s.inp.drop 8):=by
   rw [List.take_of_length_le (by simp),← hxs]
   unfold u8s
   rw [List.map_drop]
  rw [hd]
  obtain ⟨ρ9,hρ9⟩:=gn (σ.set id (.box (.agg [.slice 1 (u8s (s.inp.drop 8)) .any,.bool false])))
  have e:dNum s=(dI (s.inp.take 8),⟨s.inp.drop 8,false⟩):=by unfold dNum;rw [if_neg (by simp [c1'];omega)]
  rw [hρ9,hw]
  refine ⟨_,_,rfl,?_⟩
  unfold RdQ
  rw [e]
  refine ⟨rfl,⟨1,.inr rfl,by rw [← hρ9];exact List.getElem?_set_self hlt⟩,by rw [← hρ9,List.length_set];omega,fun j _ hj=>by rw [← hρ9,List.getElem?_set_ne (Ne.symm hj)]⟩
end Go.Kz

namespace Go.Kz
open Go Go.Proofs
noncomputable def gEf (P:Program) (E:PExt) (f:FuncId):Nat→List PD→List SObj→Option (PD×List SObj):=fun fl args σ=>if fl=0 then (match gEs P E f 0 args σ with | some r=>some (r.1.strip,r.2) | none=>none) else none
theorem WpC.st {P:Program} {E:PExt} {f:FuncId} {args:List PD} {σ:List SObj} {R:PD→List SObj→Prop} (h:WpC P E 0 (.inl f) args σ R) (hσ:σ≠[]):∃ p σ',gEf P E f 0 args σ=some (p.strip,σ')∧R p σ':=by
 obtain ⟨p,σ',h1,h2⟩:=h.es hσ
 exact ⟨p,σ',by unfold gEf;rw [if_pos rfl,h1],h2⟩
theorem ExtOk.addSt {P:Program} {E:PExt} (hE:ExtOk P E) (hP:P.follows .mixedOrders=true) (f:FuncId):ExtOk P (E.add f (gEf P E f)):=
 hE.addAlt hP fun fl args σ p σ' h c vs _ hv=>by
  unfold gEf at h
  split at h
  rotate_left
  ·cases h
  rename_i e
  subst e
  split at h
  rotate_left
  ·cases h
  rename_i r hr
  simp only [Option.some.injEq,Prod.mk.injEq] at h
  obtain ⟨rfl,rfl⟩:=h
  unfold gEs at hr
  split at hr
  rotate_left
  ·cases hr
  rename_i hx
  simp only [Option.some.injEq] at hr
  have h1:=(Classical.choose_spec hx).1
  rw [hr] at h1
  exact ⟨args,r.1,hv,h1,fun _ _ h=>h.strip⟩
theorem Uni.st {P:Program} {E E0:PExt} (hU:Uni E) {f:FuncId}:Uni (E.add f (gEf P E0 f)):=hU.other fun args p h=>by
 unfold gEf gEs at h
 rw [if_pos rfl,dif_neg (fun hx=>hx.choose_spec.2 rfl)] at h
 cases h
def ReadsA {α:Type} (E:PExt) (f:FuncId) (A:Nat→List PD) (d:Dec α) (em:α→PD):Prop:=∀ (τ:List SObj) (id:Nat) (s:BSt),Rdr τ id s→s.inp.length≤1000000000→WpC Tryz.prog E 0 (.inl f) (A id) τ (RdQ d em id s τ)
abbrev ptrA:Nat→List PD:=fun id=>[.ptr id 0]
abbrev lstA (f:FuncId):Nat→List PD:=fun id=>[.ptr id 0,.mfunc f [.ptr id 0]]
abbrev Reads {α:Type} (E:PExt) (f:FuncId) (d:Dec α) (em:α→PD):Prop:=ReadsA E f ptrA d em
theorem ReadsA.at {α:Type} {E:PExt} {f:FuncId} {A:Nat→List PD} {d:Dec α} {em:α→PD} (h:ReadsA E f A d em) {τ:List SObj} {id:Nat} {s:BSt} (hr:Rdr τ id s) (hl:s.inp.length≤1000000000) :
  ∃ τ',gEf Tryz.prog E f 0 (A id) τ=some (em (d s).1,τ')∧Rdr τ' id (d s).2∧τ.length≤τ'.length∧∀ j,j < τ.length→j≠id→τ'[j]?=τ[j]?:=by
 have hne:τ≠[]:=fun e=>by
  obtain ⟨z,_,hb⟩:=hr
  rw [e] at hb
  simp at hb
 obtain ⟨p,τ',h1,h2,h3⟩:=(h τ id s hr hl).st hne
 exact ⟨τ',by rw [h1,h2],h3⟩
theorem Rdr.keep {τ τ':List SObj} {id:Nat} {s:BSt} (h:Rdr τ id s) (hk:τ'[id]?=τ[id]?):Rdr τ' id s:=by
 obtain ⟨z,h1,h2⟩:=h
 exact ⟨z,h1,by rw [hk];exact h2⟩
theorem Rdr.lt {τ:List SObj} {id:Nat} {s:BSt} (h:Rdr τ id s):id < τ.length:=by
 obtain ⟨z,h1,h2⟩:=h
 exact (List.getElem?_eq_some_iff.1 h2).1
theorem Rdr.more {τ L:List SObj} {id:Nat} {s:BSt} (h:Rdr τ id s):Rdr (τ++L) id s:=h.keep (List.getElem?_append_left h.lt)
structure Kp (τ σ:List SObj) (id B:Nat) (X:PD):Prop where
 lt:B < σ.length
 fr:∀ j,j < B→j≠id→σ[j]?=τ[j]?
 bx:σ[B]?=some (.box X)
theorem Kp.new {τ:List SObj} {id:Nat} {X:PD}:Kp τ (τ++[.box X]) id τ.length X:=⟨by simp,fun j h _=>List.getElem?_append_left h,by simp⟩
theorem Kp.set {τ σ:List SObj} {id B:Nat} {X:PD} (h:Kp τ σ id B X) (Y:PD):Kp τ (σ.set B (.box Y)) id B Y:=⟨by rw [List.length_set];exact h.lt,fun j hj hn=>by rw [List.getElem?_set_ne (by omega)];exact h.fr j hj hn,List.getElem?_set_self h.lt⟩
theorem Rdr.setB {σ:List SObj} {id B:Nat} {s:BSt} {Y:SObj} (h:Rdr σ id s) (hn:id < B):Rdr (σ.set B Y) id s:=h.keep (List.getElem?_set_ne (by omega))
theorem Kp.at {τ σ:List SObj} {id B:Nat} {X:PD} (h:Kp τ σ id B X):∃ hw:B < σ.length,σ[B]=.box X:=List.getElem?_eq_some_iff.1 h.bx
theorem ReadsA.next {α:Type} {E:PExt} {f:FuncId} {A:Nat→List PD} {d:Dec α} {em:α→PD} (h:ReadsA E f A d em) {τ σ:List SObj} {id B:Nat} {X:PD} {s:BSt} (hk:Kp τ σ id B X) (hr:Rdr σ id s) (hl:s.inp.length≤1000000000) (hn:id < B) :
  ∃ σ',gEf Tryz.prog E f 0 (A id) σ=some (em (d s).1,σ')∧Kp τ σ' id B X∧Rdr σ' id (d s).2:=by
 obtain ⟨σ',h1,h2,h3,h4⟩:=h.at hr hl
 exact ⟨σ',h1,⟨by have:=hk.lt;omega,fun j hj hn=>by rw [h4 j (by have:=hk.lt;omega) hn];exact hk.fr j hj hn,by rw [h4 B hk.lt (by omega)];exact hk.bx⟩,h2⟩
theorem strip_em2 {α:Type} (em:Em α) (l:List α):(l.map em.emb).map PD.strip=l.map em.emb:=by
 rw [List.map_map]
 exact List.map_congr_left fun x _=>em.str x
theorem strip_sl2 {α:Type} (em:Em α) (k z:Nat) (l:List α) (hz:l=[]∨z=k) (tok:Tok):PD.strip (.slice z (l.map em.emb) tok)=(em.list k).emb l:=by
 rw [PD.strip_slice,strip_em2,emb_list,List.length_map]
 unfold sz
 rcases hz with h | h
 ·subst h;rfl
 ·subst h;rfl
end Go.Kz

namespace Go.Kz
open Go Go.Proofs
set_option maxRecDepth 100000
set_option maxHeartbeats 4000000
theorem pbytes_u8s:∀ l:List UInt8,pbytes (u8s l)=some l
 | []=>rfl
 | b::r=>by
   have ih:=pbytes_u8s r
   unfold u8s at ih ⊢
   simp only [List.map_cons,pbytes,ih]
   simp
theorem Rdr.put {τ:List SObj} {id:Nat} (h:id < τ.length) {z:Nat} (inp:List UInt8) (bad:Bool) (hz:inp=[]∨z=1):Rdr (τ.set id (.box (.agg [.slice z (u8s inp) .any,.bool bad]))) id ⟨inp,bad⟩:=
 ⟨z,hz,List.getElem?_set_self h⟩
def EmC.fra:EmC (Int×Int):=((EmC.one i64).pair (.one i64)).iso (fun r=>(r.1,r.2)) (fun x y h=>by cases x;cases y;simpa using h)
def Em.fra:Em (Int×Int):=.agg .fra
@[simp] theorem emb_fra {r:Int×Int}:Em.fra.emb r=.agg [.int .i64 r.1,.int .i64 r.2]:=rfl
variable {E E0:PExt} (hU:Uni E)
include hU
theorem w_text (h0:E 71=none) (h1:E 100=some (gEf Tryz.prog E0 100)) (H:Reads E0 100 dNum i64.emb):Reads E 71 dText PD.str:=by
 intro τ id s hr hl
 have hidt:=hr.lt
 obtain ⟨τ1,k1,r1,l1,f1⟩:=H.at hr hl
 have hd:dText s=(if (dNum s).2.bad=true∨(dNum s).1 < 0∨((dNum s).2.inp.length:Int) < (dNum s).1 then ([],⟨(dNum s).2.inp,true⟩) else ((dNum s).2.inp.take (dNum s).1.toNat,⟨(dNum s).2.inp.drop (dNum s).1.toNat,false⟩)):=rfl
 have hlen1:=rt_num.len s
 have hrg:=dNum_range s
 obtain ⟨n,hn⟩:=gn ((dNum s).1)
 obtain ⟨s1,hs1⟩:=gn ((dNum s).2)
 rw [hn] at k1 hd hrg
 rw [hs1] at r1 hd hlen1
 have k1:gEf Tryz.prog E0 100 0 [.ptr id 0] τ=some (.int .i64 n,τ1):=k1
 unfold RdQ
 obtain ⟨z,hz,hb⟩:=r1
 obtain ⟨hlt,hg⟩:=List.getElem?_eq_some_iff.1 hb
 have hle:=u8s_length s1.inp
 obtain ⟨inp,bad⟩:=s1
 simp only at hz hb hle hd hlen1 hg
 have bwrite:∀ Y,(τ.length≤(τ1.set id Y).length∧∀ j,j < τ.length→j≠id→(τ1.set id Y)[j]?=τ[j]?):=fun Y=>⟨by rw [List.length_set];exact l1,fun j hj hne=>by rw [List.getElem?_set_ne (Ne.symm hne)];exact f1 j hj hne⟩
 by_cases c1:bad=true
 ·subst c1
  rw [if_pos (.inl rfl)] at hd
  rw [hd]
  have hp:=Rdr.put hlt inp true hz
  obtain ⟨xs,hxs⟩:=gn (u8s inp)
  rw [hxs] at hb hg hp
  apply WpC.bodyL h0 Tryz.func71 rfl
  focus (simp [show Tryz.f71.ntmps=_ from rfl,List.replicate];rfl)
  have gx:=An @h1 (An @k1 (An @hb (@hg)))
  refine goA ?_
  clear gx
  exact ⟨_,_,rfl,rfl,hp,bwrite _⟩
 have c1':bad=false:=by simpa using c1
 subst c1'
 by_cases c2:n < 0
 ·rw [if_pos (.inr (.inl c2))] at hd
  rw [hd]
  have hp:=Rdr.put hlt inp true hz
  obtain ⟨xs,hxs⟩:=gn (u8s inp)
  rw [hxs] at hb hg hp
  apply WpC.bodyL h0 Tryz.func71 rfl
  focus (simp [show Tryz.f71.ntmps=_ from rfl,List.replicate];rfl)
  have gx:=An @h1 (An @k1 (An @hb (An @hg (@c2))))
  refine goA ?_
  clear gx
  exact ⟨_,_,rfl,rfl,hp,bwrite _⟩
 by_cases c3:(inp.length:Int) < n
 ·rw [if_pos (.inr (.inr c3))] at hd
  rw [hd]
  have hp:=Rdr.put hlt inp true hz
  obtain ⟨xs,hxs⟩:=gn (u8s inp)
  rw [hxs] at hb hg hp hle
  have c3':(xs.length:Int) < n:=by omega
  apply WpC.bodyL h0 Tryz.func71 rfl
  focus (simp [show Tryz.f71.ntmps=_ from rfl,List.replicate];rfl)
  have gx:=An @h1 (An @k1 (An @hb (An @hg (An @c2 (@c3')))))
  refine goA ?_
  clear gx
  exact ⟨_,_,rfl,rfl,hp,bwrite _⟩
 rw [if_neg (by simp [c2,c3])] at hd
 rw [hd]
 obtain ⟨k,rfl⟩:∃ k:Nat,n=k:=⟨n.toNat,by omega⟩
 rw [Int.toNat_natCast]
 have hk:k≤inp.length:=by omega
 by_cases hi0:inp=[]
 ·subst hi0
  have hk0:k=0:=by simpa using hk
  subst hk0
  have hp:=Rdr.put (z:=z) hlt [] false (.inl rfl)
  simp only [u8s,List.map_nil] at hb hg hp
  apply WpC.bodyL h0 Tryz.func71 rfl
  focus (simp [show Tryz.f71.ntmps=_ from rfl,List.replicate];rfl)
  have gx:=An @h1 (An @k1 (An @hb (An @hg (@c2))))
  refine goA ?_
  clear gx
  exact ⟨_,_,rfl,rfl,hp,bwrite _⟩
 have z1:z=1:=hz.resolve_left hi0
 subst z1
 have hp:=Rdr.put (z:=1) hlt (inp.drop k) false (.inr rfl)
 have e1:(u8s inp).take k=u8s (inp.take k):=by unfold u8s;rw [List.map_take]
 have e2:(u8s inp).drop k=u8s (inp.drop k):=by unfold u8s;rw [List.map_drop]
 have e3:=pbytes_u8s (inp.take k)
 rw [← e1] at e3
 rw [← e2] at hp
 obtain ⟨xs,hxs⟩:=gn (u8s inp)
 rw [hxs] at hb hg hp hle e3
 have c3':¬ (xs.length:Int) < (k:Int):=by omega
 have c4:k≤xs.length:=by omega
 have e5:(xs.drop k).take (xs.length - k)=xs.drop k:=List.take_of_length_le (by simp)
 rw [← e5] at hp
 apply WpC.bodyL h0 Tryz.func71 rfl
 focus (simp [show Tryz.f71.ntmps=_ from rfl,List.replicate];rfl)
 have gx:=An @h1 (An @k1 (An @hb (An @hg (An @c2 (An @c3' (An @c4 (@e3)))))))
 refine goA ?_
 clear gx
 exact ⟨_,_,rfl,rfl,hp,bwrite _⟩
theorem w_truth (h0:E 103=none) (h1:E 100=some (gEf Tryz.prog E0 100)) (H:Reads E0 100 dNum i64.emb):Reads E 103 dTruth PD.bool:=by
 intro τ id s hr hl
 have hidt:=hr.lt
 obtain ⟨τ1,k1,r1,l1,f1⟩:=H.at hr hl
 have hd:dTruth s=(decide ((dNum s).1=1),⟨(dNum s).2.inp,(dNum s).2.bad||decide ((dNum s).1 < 0)||decide (1 < (dNum s).1)⟩):=rfl
 obtain ⟨n,hn⟩:=gn ((dNum s).1)
 obtain ⟨s1,hs1⟩:=gn ((dNum s).2)
 rw [hn] at k1 hd
 rw [hs1] at r1 hd
 have k1:gEf Tryz.prog E0 100 0 [.ptr id 0] τ=some (.int .i64 n,τ1):=k1
 unfold RdQ
 rw [hd]
 obtain ⟨z,hz,hb⟩:=r1
 obtain ⟨hlt,hg⟩:=List.getElem?_eq_some_iff.1 hb
 obtain ⟨inp,bad⟩:=s1
 simp only at hz hb hg ⊢
 have bwrite:∀ Y,(τ.length≤(τ1.set id Y).length∧∀ j,j < τ.length→j≠id→(τ1.set id Y)[j]?=τ[j]?):=fun Y=>⟨by rw [List.length_set];exact l1,fun j hj hne=>by rw [List.getElem?_set_ne (Ne.symm hne)];exact f1 j hj hne⟩
 have hp:=Rdr.put hlt inp (bad||decide (n < 0)||decide (1 < n)) hz
 obtain ⟨xs,hxs⟩:=gn (u8s inp)
 rw [hxs] at hb hg hp
 by_cases c1:bad=true
 ·subst c1
  apply WpC.bodyL h0 Tryz.func103 rfl
  focus (simp [show Tryz.f103.ntmps=_ from rfl,List.replicate];rfl)
  have gx:=An @h1 (An @k1 (An @hb (@hg)))
  refine goA ?_
  clear gx
  exact ⟨_,_,rfl,rfl,hp,bwrite _⟩
 have c1':bad=false:=by simpa using c1
 subst c1'
 by_cases c2:n < 0
 ·have e:(false||decide (n < 0)||decide (1 < n))=true:=by simp [c2]
  rw [e] at hp ⊢
  apply WpC.bodyL h0 Tryz.func103 rfl
  focus (simp [show Tryz.f103.ntmps=_ from rfl,List.replicate];rfl)
  have gx:=An @h1 (An @k1 (An @hb (An @hg (@c2))))
  refine goA ?_
  clear gx
  exact ⟨_,_,rfl,rfl,hp,bwrite _⟩
 have e:(false||decide (n < 0)||decide (1 < n))=decide (1 < n):=by simp [c2]
 rw [e] at hp ⊢
 apply WpC.bodyL h0 Tryz.func103 rfl
 focus (simp [show Tryz.f103.ntmps=_ from rfl,List.replicate];rfl)
 have gx:=An @h1 (An @k1 (An @hb (An @hg (@c2))))
 refine goA ?_
 clear gx
 exact ⟨_,_,rfl,rfl,hp,bwrite _⟩
theorem w_feet (h0:E 101=none) (h1:E 100=some (gEf Tryz.prog E0 100)) (H:Reads E0 100 dNum i64.emb):Reads E 101 dFeet Em.fra.emb:=by
 intro τ id s hr hl
 have hid:=hr.lt
 have K0:Kp τ (τ++[.box (.agg [.int .i64 0,.int .i64 0])]) id τ.length (.agg [.int .i64 0,.int .i64 0]):=Kp.new
 have R0:Rdr (τ++[.box (.agg [.int .i64 0,.int .i64 0])]) id s:=hr.more
 obtain ⟨σ1,k1,K1,R1⟩:=H.next K0 R0 hl hid
 have l1:=rt_num.len s
 obtain ⟨σ2,k2,K2,R2⟩:=H.next K1 R1 (by omega) hid
 have e:dFeet s=(((dNum s).1,(dNum (dNum s).2).1),(dNum (dNum s).2).2):=rfl
 obtain ⟨a,ha⟩:=gn ((dNum s).1)
 obtain ⟨b,hb⟩:=gn ((dNum (dNum s).2).1)
 obtain ⟨s2,hs2⟩:=gn ((dNum (dNum s).2).2)
 rw [ha,hb,hs2] at e
 rw [ha] at k1
 rw [hb] at k2
 rw [hs2] at R2
 replace k1:=k1.trans (show _=some (.int .i64 a,σ1) from rfl)
 replace k2:=k2.trans (show _=some (.int .i64 b,σ2) from rfl)
 have b2:=K2.bx
 obtain ⟨w2,z2⟩:=K2.at
 simp only [ptrA] at k1 k2
 apply WpC.bodyL h0 Tryz.func101 rfl
 focus (simp [show Tryz.f101.ntmps=_ from rfl,List.replicate];rfl)
 have gx:=An @h1 (An @k1 (An @k2 (An @b2 (An @w2 (@z2)))))
 refine goA ?_
 clear gx
 have KK:=K2.set (.agg [.int .i64 a,.int .i64 b])
 have RR:=R2.setB (Y:=.box (.agg [.int .i64 a,.int .i64 b])) hid
 refine ⟨.agg [.int .i64 a,.int .i64 b],σ2.set τ.length (.box (.agg [.int .i64 a,.int .i64 b])),by simp [pfinish,w2],?_⟩
 unfold RdQ
 rw [e]
 exact ⟨rfl,RR,Nat.le_of_lt KK.lt,fun j h1 h2=>KK.fr j h1 h2⟩
end Go.Kz

namespace Go.Kz
open Go Go.Proofs
set_option maxRecDepth 100000
set_option maxHeartbeats 4000000
def OutAt (σ:List SObj) (p:PD) (bs:List UInt8):Prop:=(bs=[]∧p=.slice 0 [] .full)∨(bs≠[]∧∃ k v,p=.rref k v 0 bs.length 1∧σ[k]?=some (.row 5 1 v (u8s bs)))
def hasId (p:PD) (id:Nat):Prop:=∃ v off n s,p=.rref id v off n s
theorem u8s_app (a b:List UInt8):u8s (a++b)=u8s a++u8s b:=by simp [u8s]
theorem u8s_flat:∀ l:List UInt8,(u8s l).flatMap PD.cells=u8s l
 | []=>rfl
 | b::r=>by
   have ih:=u8s_flat r
   unfold u8s at ih ⊢
   simp only [List.map_cons,List.flatMap_cons,ih]
   rfl
theorem byte_info:∃ i,Tryz.prog.info? 5=some i∧i.zero=some (.int .u8 0)∧i.size=1∧i.bytes=1:=⟨_,rfl,rfl,rfl,rfl⟩
theorem out_appX {n:Nat} (ht:trow 30 n=true) {σ:List SObj} {p x:PD} {bs ys:List UInt8} {z:Nat} {Y:List PD} (hx:pview σ x=some (z,Y)) (hYl:Y.length=ys.length) (hYc:Y.flatMap PD.cells=u8s ys) (ho:OutAt σ p bs) (hz:ys=[]∨z=1) (hl:(bs++ys).length≤1000000000) :
  ∃ p' σ',prowAppend Tryz.prog n 0 σ 30 p x=some (p',σ')∧OutAt σ' p' (bs++ys)∧σ.length≤σ'.length∧(∀ id o,¬ hasId p id→σ[id]?=some o→σ'[id]?=some o)∧(∀ id,hasId p' id→hasId p id∨id=σ.length):=by
 obtain ⟨i,hi,hiz,his,hib⟩:=byte_info
 have hyl:Y.length=ys.length:=hYl
 have hone:(Value.int IntKind.u8 0).cells.toList.all Value.oneCell'=true:=rfl
 have hcs:(Value.int IntKind.u8 0).cells.size=1:=rfl
 have hz':Y.length=0∨z=i.size:=by
  rcases hz with h | h
  ·exact .inl (by rw [hYl,h];rfl)
  ·exact .inr (by rw [h,his])
 rw [List.length_append] at hl
 have hc1:(Y.length=0∨z=i.size)∧0 < i.size∧(Value.int IntKind.u8 0).cells.size=i.size∧(Value.int IntKind.u8 0).cells.toList.all Value.oneCell'=true:=⟨hz',by omega,by rw [his];rfl,hone⟩
 rcases ho with ⟨rfl,rfl⟩ | ⟨hne,k,v,rfl,hk⟩
 ·simp only [List.length_nil,Nat.zero_add] at hl
  have hc2:(([]:List PD).length=0∨0=i.size)∧([]:List PD).length+Y.length≤maxLen∧(([]:List PD).length+Y.length)*i.bytes≤140737488355328∧Tok.full.fresh=true:=⟨.inl rfl,by simp only [maxLen,List.length_nil];omega,by rw [hib,List.length_nil];omega,rfl⟩
  have e:prowAppend Tryz.prog n 0 σ 30 (.slice 0 [] .full) x=(if Y.length=0 then some (.slice 0 [] .full,σ) else some (.rref σ.length 0 0 (([]:List PD).length+Y.length) i.size,σ++[.row 5 i.size 0 (([]++Y).flatMap PD.cells)])):=by
   unfold prowAppend
   rw [if_pos ht]
   simp only [Tryz.underlying30,hx,hi,hiz]
   rw [if_pos hc1,if_pos hc2]
  rw [e]
  by_cases h0:ys=[]
  ·subst h0
   rw [if_pos (by rw [hyl];rfl)]
   exact ⟨_,_,rfl,.inl ⟨rfl,rfl⟩,Nat.le_refl _,fun _ _ _ h=>h,fun id h=>.inl h⟩
  ·have h1:¬ Y.length=0:=fun e=>h0 (List.eq_nil_of_length_eq_zero (by omega))
   rw [if_neg h1,his]
   refine ⟨_,_,rfl,.inr ⟨h0,σ.length,0,by simp [hyl],?_⟩,by simp,fun id o _ h=>by rw [List.getElem?_append_left (List.getElem?_eq_some_iff.1 h).1];exact h,fun id h=>.inr ?_⟩
   ·rw [List.getElem?_concat_length]
    simp [hYc]
   ·obtain ⟨_,_,_,_,e⟩:=h
    cases e
    rfl
 ·have hlt:=(List.getElem?_eq_some_iff.1 hk).1
  have hbl:(u8s bs).length=bs.length:=u8s_length bs
  have hc2:0≤k∧1=i.size∧bs.length+Y.length≤maxLen∧(bs.length+Y.length)*i.bytes≤140737488355328:=⟨Nat.zero_le _,his.symm,by simp only [maxLen];omega,by rw [hib];omega⟩
  have e:prowAppend Tryz.prog n 0 σ 30 (.rref k v 0 bs.length 1) x=(if 0+(bs.length+Y.length)*i.size≤(u8s bs).length then some (.rref k v 0 (bs.length+Y.length) i.size,σ.set k (.row 5 i.size v (pfillAt (u8s bs) (0+bs.length*i.size) (Y.flatMap PD.cells))))
    else if 0=0∧bs.length*i.size=(u8s bs).length then some (.rref k (v+1) 0 (bs.length+Y.length) i.size,σ.set k (.row 5 i.size (v+1) (u8s bs++Y.flatMap PD.cells))) else none):=by
   unfold prowAppend
   rw [if_pos ht]
   simp only [Tryz.underlying30,hx,hi,hiz]
   rw [if_pos hc1,if_pos hc2]
   simp only [hk]
   rw [if_pos ⟨trivial,his.symm,trivial⟩]
  rw [e,his]
  have hkeep:∀ (x:SObj) id o,¬ hasId (.rref k v 0 bs.length 1) id→σ[id]?=some o→(σ.set k x)[id]?=some o:=fun x id o h1 h2=>by
   rw [List.getElem?_set_ne (fun e=>h1 ⟨v,0,bs.length,1,by rw [e]⟩)]
   exact h2
  have hid:∀ w m id,hasId (.rref k w 0 m 1) id→hasId (.rref k v 0 bs.length 1) id∨id=σ.length:=fun w m id h=>by
   obtain ⟨_,_,_,_,e⟩:=h
   cases e
   exact .inl ⟨v,0,bs.length,1,rfl⟩
  by_cases h0:ys=[]
  ·subst h0
   have hyl0:Y.length=0:=by rw [hyl];rfl
   rw [if_pos (by simp [hyl0,hbl])]
   refine ⟨_,_,rfl,.inr ⟨by simpa using hne,k,v,by simp [hyl0],?_⟩,by simp,hkeep _,hid _ _⟩
   rw [List.getElem?_set_self hlt,hYc]
   simp [pfillAt,u8s,List.take_of_length_le]
  ·have h1:0 < ys.length:=List.length_pos_iff.2 h0
   rw [if_neg (by omega),if_pos ⟨rfl,by omega⟩]
   refine ⟨_,_,rfl,.inr ⟨by simp [hne],k,v+1,by rw [List.length_append,hyl],?_⟩,by simp,hkeep _,hid _ _⟩
   rw [List.getElem?_set_self hlt,hYc,u8s_app]
theorem out_app {n:Nat} (ht:trow 30 n=true) {σ:List SObj} {p:PD} {bs ys:List UInt8} {z:Nat} {tok:Tok} (ho:OutAt σ p bs) (hz:ys=[]∨z=1) (hl:(bs++ys).length≤1000000000) :
  ∃ p' σ',prowAppend Tryz.prog n 0 σ 30 p (.slice z (u8s ys) tok)=some (p',σ')∧OutAt σ' p' (bs++ys)∧σ.length≤σ'.length∧(∀ id o,¬ hasId p id→σ[id]?=some o→σ'[id]?=some o)∧(∀ id,hasId p' id→hasId p id∨id=σ.length):=
 out_appX ht (show pview σ (.slice z (u8s ys) tok)=_ from rfl) (u8s_length ys) (u8s_flat ys) ho hz hl
theorem chunks_one:∀ cs:List PD,(pchunks 1 cs.length cs).length=cs.length∧((∀ d∈cs,PD.cells d=[d])→(pchunks 1 cs.length cs).flatMap PD.cells=cs)
 | []=>⟨rfl,fun _=>rfl⟩
 | x::xs=>by
   obtain ⟨h1,h2⟩:=chunks_one xs
   refine ⟨by simp [pchunks,h1],fun h=>?_⟩
   simp only [List.length_cons,pchunks,List.flatMap_cons,List.take_succ_cons,List.take_zero,List.drop_succ_cons,List.drop_zero,h2 (fun d hd=>h d (by simp [hd]))]
   rfl
theorem out_appR {n:Nat} (ht:trow 30 n=true) {σ:List SObj} {p:PD} {bs ys:List UInt8} {k v:Nat} (ho:OutAt σ p bs) (hk:σ[k]?=some (.row 5 1 v (u8s ys))) (hl:(bs++ys).length≤1000000000) :
  ∃ p' σ',prowAppend Tryz.prog n 0 σ 30 p (.rref k v 0 ys.length 1)=some (p',σ')∧OutAt σ' p' (bs++ys)∧σ.length≤σ'.length∧(∀ id o,¬ hasId p id→σ[id]?=some o→σ'[id]?=some o)∧(∀ id,hasId p' id→hasId p id∨id=σ.length):=by
 have hx:pview σ (.rref k v 0 ys.length 1)=some (1,pchunks 1 (u8s ys).length (u8s ys)):=by
  simp [pview,hk,u8s_length]
 exact out_appX ht hx (by rw [(chunks_one _).1,u8s_length]) ((chunks_one _).2 fun d hd=>by
  obtain ⟨b,_,rfl⟩:=List.mem_map.1 hd
  rfl) ho (.inr rfl) hl
theorem RunB.of {P:Program} {E:PExt} {f:FuncId} {args:List PD} {bs:List UInt8} (h:WpC P E 0 (.inl f) args [] (fun p σ=>OutAt σ p bs)):RunB P E 5 f args bs:=by
 obtain ⟨p,σ,h1,h2⟩:=h.ex
 exact ⟨p,σ,h1,h2⟩
end Go.Kz

namespace Go.Kz
open Go Go.Proofs
set_option maxRecDepth 100000
set_option maxHeartbeats 4000000
theorem wrap_u64n (n:Int):IntKind.u64.wrap n=(u64n n:Int):=by
 unfold u64n
 simp [IntKind.wrap,IntKind.signed,IntKind.bits]
 try omega
theorem byte_shift (n:Int) {i:Nat} (hi:i < 8):IntKind.u8.wrap ((u64n n:Int).fdiv (2 ^ min (8*(i:Int)).toNat IntKind.u64.bits))=((UInt8.ofNat (u64n n / 256 ^ i)).toNat:Int):=by
 have e1:min (8*(i:Int)).toNat IntKind.u64.bits=8*i:=by
  have:IntKind.u64.bits=64:=rfl
  rw [this]
  omega
 have e2:((2:Int) ^ (8*i))=((256 ^ i:Nat):Int):=by
  rw [Int.pow_mul]
  simp
 rw [e1,e2,Int.fdiv_eq_ediv_of_nonneg _ (Int.natCast_nonneg _),← Int.natCast_ediv]
 simp [IntKind.wrap,IntKind.signed,IntKind.bits,UInt8.toNat_ofNat']
variable {E:PExt} (hU:Uni E)
include hU
theorem r_number (h0:E 28=none) (n:Int):RunB Tryz.prog E 5 28 [.int .i64 n] (b8 n):=by
 refine RunB.of ?_
 have hw:=wrap_u64n n
 apply WpC.bodyL h0 Tryz.func28 rfl
 focus (simp [show Tryz.f28.ntmps=_ from rfl,List.replicate];rfl)
 have gx:=True.intro
 refine goA ?_
 clear gx
 refine Wp.loopI (fun m fr σ=>∃ (i:Nat) (p:PD) (bs:List UInt8) (σ1:List SObj),∃ gg:Nat→PD,(i+m=8∧bs=((List.range i).map fun i=>UInt8.ofNat (u64n n / 256 ^ i))∧OutAt σ1 p bs)∧fr=[.int .i64 n,gg 1,gg 2,p,gg 4,.int .i64 i,gg 6,gg 7,gg 8,gg 9,gg 10,gg 11,gg 12,gg 13,gg 14,gg 15,gg 16,gg 17,gg 18]∧σ=σ1) ?_ (8) (by refine ⟨0,.slice 0 [] .full,[],[],?_⟩;exact exF (⟨by omega,rfl,.inl ⟨rfl,rfl⟩⟩) (by (first | rfl | (simp [];repeat (first | rfl | (apply And.intro))) | (simp [];done))) (by (first | rfl | (simp [];repeat (first | rfl | (apply And.intro))) | (simp [];done))))
 rintro m fr σ ⟨i,p,bs,σ1,gg,hI,rfl,rfl⟩
 obtain ⟨hm,hbs,ho⟩:=hI
 by_cases hi:i < 8
 ·have q1:(i:Int) < 8:=by omega
  have hv:=byte_shift n hi
  obtain ⟨c,hc⟩:=gn (UInt8.ofNat (u64n n / 256 ^ i))
  rw [hc] at hv
  have ht:trow 30 19=true:=by decide
  obtain ⟨p',σ',ap,ho',hlen,hkp,hid⟩:=out_app ht (ys:=[c]) (z:=1) (tok:=.full) ho (.inr rfl) (by rw [hbs];simp;omega)
  replace ap:=(show prowAppend Tryz.prog 19 0 σ 30 p (.slice 1 [.int .u8 c.toNat] .full)=some (p',σ') from ap)
  have hbs':bs++[c]=(List.range (i+1)).map fun i=>UInt8.ofNat (u64n n / 256 ^ i):=by
   rw [List.range_succ,List.map_append,hbs,List.map_cons,List.map_nil,hc]
  have gx:=An @q1 (An @hw (An @hv (An @ht (@ap))))
  refine goA ?_
  clear gx
  refine LoopI.normal (m - 1) (by omega) (by refine ⟨i+1,p',bs++[c],σ',?_⟩;exact exF (⟨by omega,hbs',ho'⟩) (by (first | rfl | (simp [hc];repeat (first | rfl | (apply And.intro))) | (simp [hc];done))) (by (first | rfl | (simp [hc];repeat (first | rfl | (apply And.intro))) | (simp [hc];done))))
 ·have q1:¬ (i:Int) < 8:=by omega
  have e8:i=8:=by omega
  subst e8
  have gx:=@q1
  refine goA ?_
  clear gx
  refine ⟨_,_,rfl,?_⟩
  unfold b8
  rw [← hbs]
  exact ho
end Go.Kz

namespace Go.Kz
open Go Go.Proofs
set_option maxRecDepth 100000
set_option maxHeartbeats 4000000
def gNum:List PD→Option (List UInt8)
 | [.int .i64 n]=>some (b8 n)
 | _=>none
theorem gBy_num (fl:Nat) (n:Int) (σ:List SObj):gBy 5 gNum fl [.int .i64 n] σ=some (.rref σ.length 0 0 8 1,σ++[.row 5 1 0 (u8s (b8 n))]):=by
 have h:b8 n≠[]:=fun e=>by have:=b8_length n;rw [e] at this;cases this
 simp only [gBy,List.map_cons,List.map_nil,PD.strip,gNum,byRow,if_neg h,b8_length]
 rfl
theorem out_one (n:Int):OutAt [.row 5 1 0 (u8s (b8 n))] (.rref 0 0 0 8 1) (b8 n):=
 .inr ⟨fun e=>(by have:=b8_length n;rw [e] at this;cases this),0,0,by rw [b8_length],rfl⟩
theorem flat_b8 (l:List Int):(l.flatMap b8).length=8*l.length:=by
 induction l with
 | nil=>rfl
 | cons x r ih=>rw [List.flatMap_cons,List.length_append,ih,b8_length,List.length_cons];omega
theorem OutAt.more {σ:List SObj} {p:PD} {bs:List UInt8} (h:OutAt σ p bs) (τ:List SObj):OutAt (σ++τ) p bs:=by
 rcases h with h | ⟨h,k,v,e,hk⟩
 ·exact .inl h
 ·exact .inr ⟨h,k,v,e,by rw [List.getElem?_append_left (List.getElem?_eq_some_iff.1 hk).1];exact hk⟩
variable {E:PExt} (hU:Uni E)
include hU
theorem r_truth (h0:E 66=none) (h1:E 28=some (gBy 5 gNum)) (b:Bool):RunB Tryz.prog E 5 66 [.bool b] (eTruth b):=by
 refine RunB.of ?_
 have hb:∀ n:Int,OutAt [.row 5 1 0 (u8s (b8 n))] (.rref 0 0 0 8 1) (b8 n):=fun n=>out_one n
 cases b
 apply WpC.bodyL h0 Tryz.func66 rfl
 focus (simp [show Tryz.f66.ntmps=_ from rfl,List.replicate];rfl)
 have gx:=An @h1 (@gBy_num)
 refine goA ?_
 clear gx
 exact ⟨_,_,rfl,hb 0⟩
 apply WpC.bodyL h0 Tryz.func66 rfl
 focus (simp [show Tryz.f66.ntmps=_ from rfl,List.replicate];rfl)
 have gx:=An @h1 (@gBy_num)
 refine goA ?_
 clear gx
 exact ⟨_,_,rfl,hb 1⟩
theorem r_word (h0:E 27=none) (h1:E 28=some (gBy 5 gNum)) (s:List UInt8) (hs:s.length≤1000000):RunB Tryz.prog E 5 27 [.str s] (eText s):=by
 refine RunB.of ?_
 have ht:trow 30 8=true:=by decide
 obtain ⟨p',σ',ap,ho',hlen,hkp,hid⟩:=out_app ht (ys:=s) (z:=if s.length=0 then 0 else 1) (tok:=.any) (out_one s.length) (by
  by_cases h:s=[]
  ·exact .inl h
  ·exact .inr (if_neg fun e=>h (List.eq_nil_of_length_eq_zero e))) (by rw [List.length_append,b8_length];omega)
 replace ap:=(show prowAppend Tryz.prog 8 0 [.row 5 1 0 (u8s (b8 s.length))] 30 (.rref 0 0 0 8 1) (textPD s)=some (p',σ') from ap)
 apply WpC.bodyL h0 Tryz.func27 rfl
 focus (simp [show Tryz.f27.ntmps=_ from rfl,List.replicate];rfl)
 have gx:=An @h1 (An @gBy_num (An @ht (@ap)))
 refine goA ?_
 clear gx
 exact ⟨_,_,rfl,ho'⟩
theorem r_numbers (h0:E 65=none) (h1:E 28=some (gBy 5 gNum)) (l:List Int) (hs:l.length≤1000000) (z:Nat) (hz:l=[]∨z=1):RunB Tryz.prog E 5 65 [.slice z (l.map i64.emb) .any] (l.flatMap b8):=by
 refine RunB.of ?_
 obtain ⟨tot,htot⟩:=gn (l.length)
 apply WpC.bodyL h0 Tryz.func65 rfl
 focus (simp [show Tryz.f65.ntmps=_ from rfl,List.replicate];rfl)
 have gx:=True.intro
 refine goA ?_
 clear gx
 rw [htot]
 refine Wp.loopI (fun m fr σ=>∃ (i:Nat) (p:PD) (σ1:List SObj),∃ gg:Nat→PD,(i+m=tot∧OutAt σ1 p ((l.take i).flatMap b8))∧fr=[.slice z (l.map i64.emb) .any,gg 1,gg 2,p,gg 4,gg 5,.slice z (l.map i64.emb) .any,.int .i64 tot,.int .i64 i,gg 9,gg 10,gg 11,gg 12,gg 13,gg 14,gg 15,gg 16,gg 17]∧σ=σ1) ?_ (tot) (by refine ⟨0,.slice 0 [] .full,[],?_⟩;exact exF (⟨by omega,.inl ⟨rfl,rfl⟩⟩) (by (first | rfl | (simp [];repeat (first | rfl | (apply And.intro))) | (simp [];done))) (by (first | rfl | (simp [];repeat (first | rfl | (apply And.intro))) | (simp [];done))))
 rintro m fr σ ⟨i,p,σ1,gg,hI,rfl,rfl⟩
 obtain ⟨hm,ho⟩:=hI
 by_cases hi:i < tot
 ·have q1:(i:Int) < tot:=by omega
  have hil:i < l.length:=by omega
  have hz1:z=1:=by
   rcases hz with h | h
   ·rw [h] at hil;simp at hil
   ·exact h
  subst hz1
  obtain ⟨x,hx⟩:=gn (l[i])
  have he:(l.map i64.emb)[i]?=some (.int .i64 x):=by
   rw [List.getElem?_map,List.getElem?_eq_getElem hil,hx]
   rfl
  have ht:trow 30 18=true:=by decide
  have hbl:((l.take i).flatMap b8).length=8*i:=by rw [flat_b8,List.length_take,Nat.min_eq_left (by omega)]
  obtain ⟨p',σ',ap,ho',hlen,hkp,hid⟩:=out_appR ht (ys:=b8 x) (ho.more [.row 5 1 0 (u8s (b8 x))]) (List.getElem?_concat_length) (by rw [List.length_append,hbl,b8_length];omega)
  rw [b8_length] at ap
  have hnx:(l.take i).flatMap b8++b8 x=(l.take (i+1)).flatMap b8:=by
   rw [List.take_add_one,List.getElem?_eq_getElem hil,hx]
   simp
  rw [hnx] at ho'
  have gx:=An @q1 (An @hx (An @hil (An @h1 (An @gBy_num (An @ht (@ap))))))
  refine goA ?_
  clear gx
  refine LoopI.normal (m - 1) (by omega) (by refine ⟨i+1,p',σ',?_⟩;exact exF (⟨by omega,ho'⟩) (by (first | rfl | (simp [hx];repeat (first | rfl | (apply And.intro))) | (simp [hx];done))) (by (first | rfl | (simp [hx];repeat (first | rfl | (apply And.intro))) | (simp [hx];done))))
 ·have q1:¬ (i:Int) < tot:=by omega
  have ei:i=tot:=by omega
  rw [ei,← htot,List.take_length] at ho
  have gx:=@q1
  refine goA ?_
  clear gx
  exact ⟨_,_,rfl,ho⟩
end Go.Kz

namespace Go.Kz
open Go Go.Proofs
set_option maxRecDepth 100000
set_option maxHeartbeats 4000000
def Em.byt:Em UInt8:=(Em.int .u8).iso (fun b=>(b.toNat:Int)) (fun x y h=>UInt8.toNat_inj.1 (by exact_mod_cast h))
def bytE:Em (List UInt8):=Em.byt.list 1
def bytsE:Em (List (List UInt8)):=bytE.list 1
theorem emb_byt (l:List UInt8):bytE.emb l=.slice (sz 1 l) (u8s l) .any:=rfl
theorem emb_byt1 {l:List UInt8} (h:l≠[]):bytE.emb l=.slice 1 (u8s l) .any:=by rw [emb_byt,sz_ne h]
theorem RunB.free {P:Program} {E:PExt} {e:TypeId} {f:FuncId} {args:List PD} {bs:List UInt8} (h:RunB P E e f args bs):RunT P E f args (bytE.emb bs):=by
 obtain ⟨p1,σ1,h1,h2⟩:=h
 rcases h2 with ⟨rfl,rfl⟩ | ⟨hne,k,v,rfl,hk⟩
 ·refine ⟨1,.slice 0 [] .full,σ1,h1,?_,?_⟩
  ·rfl
  ·rfl
 ·have hm:∀ l:List UInt8,(l.map fun b=>PD.int .u8 b.toNat).map (thaw σ1 1)=u8s l:=fun l=>by
   rw [List.map_map];rfl
  have ht:thaw σ1 2 (.rref k v 0 bs.length 1)=.slice 1 (u8s bs) .any:=by
   have hl:0+bs.length*1≤(bs.map fun b=>PD.int .u8 b.toNat).length:=by simp
   simp only [thaw,hk]
   rw [if_pos ⟨trivial,trivial,hl⟩]
   have e2:pch 1 bs.length (List.map (thaw σ1 1) (List.drop 0 (bs.map fun b=>PD.int .u8 b.toNat)))=u8s bs:=by
    rw [List.drop_zero,hm]
    unfold pch
    rw [if_pos rfl]
    exact List.take_of_length_le (by rw [u8s_length];exact Nat.le_refl _)
   rw [e2]
  refine ⟨2,_,_,h1,?_,?_⟩
  ·rw [ht,← emb_byt1 hne]
   exact bytE.str bs
  ·rw [ht,← emb_byt1 hne]
   exact bytE.fre bs
noncomputable def gWordD:=entry (gf1 .text bytE fun s=>gif (s.length≤1000000) (some (eText s)))
noncomputable def gTruD:=entry (gf1 .bool bytE fun b=>some (eTruth b))
noncomputable def gNumsD:=entry (gf1 i64s bytE fun l=>gif (l.length≤1000000) (some (l.flatMap b8)))
theorem eText_ne (s:List UInt8):eText s≠[]:=fun e=>by
 have:=congrArg List.length e
 unfold eText at this
 rw [List.length_append,b8_length] at this
 simp at this
theorem eTruth_ne (b:Bool):eTruth b≠[]:=fun e=>by
 have:=congrArg List.length e
 unfold eTruth at this
 rw [b8_length] at this
 cases this
theorem gWordD_of (fl:Nat) {s:List UInt8} (h:s.length≤1000000) (σ:List SObj):gWordD fl [.str s] σ=some (.slice 1 (u8s (eText s)) .any,σ):=by
 have e1:Em.text.dec (.str s)=some s:=Em.dec_some (Em.text.str s)
 unfold gWordD entry gf1
 simp only [e1,gif_pos h,emb_byt1 (eText_ne s)]
theorem gTruD_of (fl:Nat) (b:Bool) (σ:List SObj):gTruD fl [.bool b] σ=some (.slice 1 (u8s (eTruth b)) .any,σ):=by
 have e1:Em.bool.dec (.bool b)=some b:=Em.dec_some (Em.bool.str b)
 unfold gTruD entry gf1
 simp only [e1,emb_byt1 (eTruth_ne b)]
theorem gNumsD_of (fl:Nat) {l:List Int} (h:l.length≤1000000) {p:PD} (hp:p.strip=i64s.emb l) (σ:List SObj):gNumsD fl [p] σ=some (.slice (sz 1 l) (u8s (l.flatMap b8)) .any,σ):=by
 have e1:i64s.dec p=some l:=Em.dec_some hp
 have e2:sz 1 (l.flatMap b8)=sz 1 l:=by
  cases l with
  | nil=>rfl
  | cons x r=>
    have hb:(x::r).flatMap b8≠[]:=fun e=>by
     have:=congrArg List.length e
     rw [flat_b8] at this
     simp at this
    rw [sz_ne hb,sz_ne (List.cons_ne_nil x r)]
 unfold gNumsD entry gf1
 simp only [e1,gif_pos h,emb_byt,e2]
noncomputable def gCat:List PD→Option (List UInt8)
 | [a]=>match bytsE.dec a with
   | some l=>if l.flatten≠[]∧l.flatten.length≤100000000∧l.length≤1000 then some l.flatten else none
   | none=>none
 | _=>none
theorem gCat_of (fl:Nat) {l:List (List UInt8)} {p:PD} (hp:p.strip=bytsE.emb l) (h1:l.flatten≠[]) (h2:l.flatten.length≤100000000) (h3:l.length≤1000) (σ:List SObj) :
  gBy 5 gCat fl [p] σ=some (.rref σ.length 0 0 l.flatten.length 1,σ++[.row 5 1 0 (u8s l.flatten)]):=by
 have e1:bytsE.dec p.strip=some l:=Em.dec_some (by rw [hp];exact bytsE.str l)
 simp only [gBy,List.map_cons,List.map_nil,gCat,e1]
 rw [if_pos ⟨h1,h2,h3⟩]
 simp only [byRow,if_neg h1]
 rfl
def gGrow:Nat→List PD→List SObj→Option (PD×List SObj)
 | 0,[.slice 0 [] .full,.int .i64 n],σ=>if 0 < n∧n≤1000000000 then some (.rref σ.length 0 0 0 1,σ++[.row 5 1 0 (List.replicate n.toNat (.int .u8 0))]) else none
 | _,_,_=>none
theorem gGrow_ok {E:PExt} (hE:ExtOk Tryz.prog E) (hP:Tryz.prog.follows .mixedOrders=true) (hU:Uni E) (h0:E 90=none):ExtOk Tryz.prog (E.add 90 gGrow):=
 hE.add hP fun fl args σ p σ' h=>by
  unfold gGrow at h
  split at h
  ·rename_i σ0 n
   split at h
   ·rename_i hc
    obtain ⟨m,rfl⟩:∃ m:Nat,n=m:=⟨n.toNat,by omega⟩
    simp only [Option.some.injEq,Prod.mk.injEq,Int.toNat_natCast] at h
    obtain ⟨rfl,rfl⟩:=h
    obtain ⟨p,σ',h1,rfl,rfl⟩:=(r_Grow hU h0 m (by omega) (by omega) σ).ex
    exact h1
   ·cases h
  ·cases h
theorem out_in {n:Nat} (ht:trow 30 n=true) {bs ys:List UInt8} {k z:Nat} {tok:Tok} (hz:ys=[]∨z=1) (hk:ys.length≤k) (hl:bs.length+ys.length≤1000000000) :
  prowAppend Tryz.prog n 0 [.row 5 1 0 (u8s bs++List.replicate k (.int .u8 0))] 30 (.rref 0 0 0 bs.length 1) (.slice z (u8s ys) tok)=some (.rref 0 0 0 (bs++ys).length 1,[.row 5 1 0 (u8s (bs++ys)++List.replicate (k - ys.length) (.int .u8 0))]):=by
 obtain ⟨i,hi,hiz,his,hib⟩:=byte_info
 have hyl:(u8s ys).length=ys.length:=u8s_length ys
 have hbl:(u8s bs).length=bs.length:=u8s_length bs
 have hone:(Value.int IntKind.u8 0).cells.toList.all Value.oneCell'=true:=rfl
 have hz':(u8s ys).length=0∨z=i.size:=by
  rcases hz with h | h
  ·exact .inl (by rw [h];rfl)
  ·exact .inr (by rw [h,his])
 have hc1:((u8s ys).length=0∨z=i.size)∧0 < i.size∧(Value.int IntKind.u8 0).cells.size=i.size∧(Value.int IntKind.u8 0).cells.toList.all Value.oneCell'=true:=⟨hz',by omega,by rw [his];rfl,hone⟩
 have hc2:0≤0∧1=i.size∧bs.length+(u8s ys).length≤maxLen∧(bs.length+(u8s ys).length)*i.bytes≤140737488355328:=⟨Nat.le_refl _,his.symm,by simp only [maxLen];omega,by rw [hib];omega⟩
 unfold prowAppend
 rw [if_pos ht]
 simp only [Tryz.underlying30,pview,hi,hiz]
 rw [if_pos hc1,if_pos hc2]
 simp only [List.getElem?_cons_zero]
 rw [if_pos ⟨trivial,his.symm,trivial⟩,his,if_pos (by rw [List.length_append,List.length_replicate];omega),List.length_append,hyl]
 have e:pfillAt (u8s bs++List.replicate k (PD.int .u8 0)) (0+bs.length*1) ((u8s ys).flatMap PD.cells)=u8s (bs++ys)++List.replicate (k - ys.length) (.int .u8 0):=by
  rw [u8s_flat,u8s_app]
  unfold pfillAt
  rw [Nat.zero_add,Nat.mul_one,List.take_append_of_le_length (by omega),List.take_of_length_le (by omega),hyl]
  have:List.drop (bs.length+ys.length) (u8s bs++List.replicate k (PD.int .u8 0))=List.replicate (k - ys.length) (.int .u8 0):=by
   rw [← hbl,List.drop_append,List.drop_replicate]
   simp
  rw [this]
 rw [e]
 rfl
variable {E:PExt} (hU:Uni E)
include hU
theorem r_Concat (h0:E 58=none) (h1:E 90=some gGrow) (l:List (List UInt8)) (g1:l.flatten≠[]) (g2:l.flatten.length≤100000000) (g3:l.length≤1000):RunB Tryz.prog E 5 58 [bytsE.emb l] l.flatten:=by
 have hne:l≠[]:=fun e=>g1 (by rw [e];rfl)
 have e1:bytsE.emb l=.slice 1 (l.map bytE.emb) .any:=by rw [show bytsE.emb l=.slice (sz 1 l) (l.map bytE.emb) .any from rfl,sz_ne hne]
 rw [e1]
 refine RunB.of ?_
 obtain ⟨tot,htot⟩:=gn (l.length)
 obtain ⟨T,hT⟩:=gn (l.flatten.length)
 have hTp:0 < T:=by
  rw [← hT]
  exact List.length_pos_iff.2 g1
 have hpre:∀ i,((l.take i).flatten).length≤T:=fun i=>by
  have:l.flatten=(l.take i).flatten++(l.drop i).flatten:=by rw [← List.flatten_append,List.take_append_drop]
  rw [← hT,this,List.length_append]
  omega
 have hnx:∀ i (h:i < l.length),(l.take (i+1)).flatten=(l.take i).flatten++l[i]:=fun i h=>by
  rw [List.take_add_one,List.getElem?_eq_getElem h,List.flatten_append]
  simp only [Option.toList,List.flatten_cons,List.flatten_nil,List.append_nil]
 apply WpC.bodyL h0 Tryz.func58 rfl
 focus (simp [show Tryz.f58.ntmps=_ from rfl,List.replicate];rfl)
 have gx:=True.intro
 refine goA ?_
 clear gx
 rw [htot]
 refine Wp.loopI (fun m fr σ=>∃ (i:Nat),∃ gg:Nat→PD,(i+m=tot)∧fr=[.slice 1 (l.map bytE.emb) .any,gg 1,.slice 0 [] .full,.int .i64 ((l.take i).flatten.length),gg 4,gg 5,gg 6,gg 7,gg 8,.slice 1 (l.map bytE.emb) .any,.int .i64 tot,.int .i64 i,gg 12,gg 13,gg 14,gg 15,gg 16,gg 17,gg 18,gg 19,gg 20,gg 21,gg 22,gg 23,gg 24,gg 25,gg 26,gg 27,gg 28,gg 29,gg 30,gg 31,gg 32,gg 33,gg 34,gg 35]∧σ=[]) ?_ (tot) (by refine ⟨0,?_⟩;exact exF ((by omega)) (by (first | rfl | (simp [];repeat (first | rfl | (apply And.intro))) | (simp [];done))) (by (first | rfl | (simp [];repeat (first | rfl | (apply And.intro))) | (simp [];done))))
 rintro m fr σ ⟨i,gg,hI,rfl,rfl⟩
 have hm:=hI
 by_cases hi:i < tot
 ·have q1:(i:Int) < tot:=by omega
  have hil:i < l.length:=by omega
  have hn:=hnx i hil
  have hp0:=hpre i
  have hp1:=hpre (i+1)
  obtain ⟨x,hx⟩:=gn (l[i])
  rw [hx] at hn
  obtain ⟨a,ha⟩:=gn ((l.take i).flatten.length)
  have hb:(l.take (i+1)).flatten.length=a+x.length:=by rw [hn,List.length_append,ha]
  rw [ha]
  have q2:¬ ((a:Int)+x.length < 0):=by omega
  have q3:IntKind.i64.wrap ((a:Int)+x.length)=a+x.length:=wrap_i64 (by omega) (by omega)
  have hul:=u8s_length x
  have gx:=An @q1 (An @hx (An @hil (An @emb_byt (An @hul (An @q3 (@q2))))))
  refine goA ?_
  clear gx
  refine LoopI.normal (m - 1) (by omega) (by refine ⟨i+1,?_⟩;exact exF ((by omega)) (by (first | rfl | (simp [hx,hb];repeat (first | rfl | (apply And.intro))) | (simp [hx,hb];done))) (by (first | rfl | (simp [hx,hb];repeat (first | rfl | (apply And.intro))) | (simp [hx,hb];done))))
 ·have q1:¬ (i:Int) < tot:=by omega
  have ei:i=tot:=by omega
  have hG:gGrow 0 [.slice 0 [] .full,.int .i64 T] []=some (.rref 0 0 0 0 1,[.row 5 1 0 (List.replicate T (.int .u8 0))]):=by
   have e:(T:Int).toNat=T:=Int.toNat_natCast T
   simp only [gGrow]
   rw [if_pos ⟨by omega,by omega⟩,e]
   rfl
  rw [ei,← htot,List.take_length,hT]
  clear hI hm hi q1 ei
  have q0:¬ (l.length:Int) < l.length:=by omega
  have gx:=An @q0 (An @h1 (@hG))
  refine goA ?_
  clear gx
  rw [htot]
  refine Wp.loopI (fun m fr σ=>∃ (i:Nat) (bs:List UInt8),∃ gg:Nat→PD,(i+m=tot∧bs=(l.take i).flatten)∧fr=[.slice 1 (l.map bytE.emb) .any,gg 1,.slice 0 [] .full,.int .i64 T,gg 4,gg 5,.rref 0 0 0 bs.length 1,gg 7,gg 8,gg 9,gg 10,gg 11,gg 12,gg 13,gg 14,gg 15,gg 16,gg 17,gg 18,gg 19,gg 20,gg 21,gg 22,gg 23,gg 24,.slice 1 (l.map bytE.emb) .any,.int .i64 tot,.int .i64 i,gg 28,gg 29,gg 30,gg 31,gg 32,gg 33,gg 34,gg 35]∧σ=[.row 5 1 0 (u8s bs++List.replicate (T - bs.length) (.int .u8 0))]) ?_ (tot) (by refine ⟨0,[],?_⟩;exact exF (⟨by omega,rfl⟩) (by (first | rfl | (simp [];repeat (first | rfl | (apply And.intro))) | (simp [];done))) (by (first | rfl | (simp [];repeat (first | rfl | (apply And.intro))) | (simp [];done))))
  rintro m fr σ ⟨i,bs,gg,hI,rfl,rfl⟩
  obtain ⟨hm,hbs⟩:=hI
  have ht:trow 30 36=true:=by decide
  by_cases hi:i < tot
  ·have q1:(i:Int) < tot:=by omega
   have hil:i < l.length:=by omega
   have hn:=hnx i hil
   have hp1:=hpre (i+1)
   obtain ⟨x,hx⟩:=gn (l[i])
   rw [hx,← hbs] at hn
   rw [hn,List.length_append] at hp1
   have ap:=out_in ht (bs:=bs) (ys:=x) (k:=T - bs.length) (z:=sz 1 x) (tok:=.any) (by unfold sz;by_cases h:x=[];exact .inl h;exact .inr (if_neg (fun e=>h (List.eq_nil_of_length_eq_zero e)))) (by omega) (by omega)
   have ek:T - bs.length - x.length=T - (bs++x).length:=by rw [List.length_append];omega
   rw [ek] at ap
   have gx:=An @q1 (An @hx (An @hil (An @emb_byt (An @ht (@ap)))))
   refine goA ?_
   clear gx
   refine LoopI.normal (m - 1) (by omega) (by refine ⟨i+1,bs++x,?_⟩;exact exF (⟨by omega,hn.symm⟩) (by (first | rfl | (simp [hx];repeat (first | rfl | (apply And.intro))) | (simp [hx];done))) (by (first | rfl | (simp [hx];repeat (first | rfl | (apply And.intro))) | (simp [hx];done))))
  ·have q1:¬ (i:Int) < tot:=by omega
   have ei:i=tot:=by omega
   rw [ei,← htot,List.take_length] at hbs
   have ho:OutAt [.row 5 1 0 (u8s bs++List.replicate (T - bs.length) (.int .u8 0))] (.rref 0 0 0 bs.length 1) l.flatten:=by
    refine .inr ⟨g1,0,0,by rw [hbs],?_⟩
    rw [hbs,hT,Nat.sub_self,List.replicate_zero,List.append_nil]
    rfl
   have gx:=@q1
   refine goA ?_
   clear gx
   exact ⟨_,_,rfl,ho⟩
end Go.Kz

namespace Go.Kz
open Go Go.Proofs
set_option maxRecDepth 100000
set_option maxHeartbeats 4000000
theorem tok_strip (n:Nat) (xs:List PD) (t:Tok):(PD.slice n xs t).strip=(PD.slice n xs .any).strip:=by rw [PD.strip_slice,PD.strip_slice]
theorem sz_flat (w:List Int):sz 1 (w.flatMap b8)=sz 1 w:=by
 cases w with
 | nil=>rfl
 | cons x r=>
   have hb:(x::r).flatMap b8≠[]:=fun e=>by
    have:=congrArg List.length e
    rw [flat_b8] at this
    simp at this
   rw [sz_ne hb,sz_ne (List.cons_ne_nil x r)]
theorem gNumsD_emb (fl:Nat) {l:List Int} (h:l.length≤1000000) {p:PD} (hp:p.strip=i64s.emb l) (σ:List SObj):gNumsD fl [p] σ=some (bytE.emb (l.flatMap b8),σ++[]):=by
 rw [List.append_nil,gNumsD_of fl h hp,emb_byt,sz_flat]
theorem gWordD_emb (fl:Nat) {s:List UInt8} (h:s.length≤1000000) (σ:List SObj):gWordD fl [.str s] σ=some (bytE.emb (eText s),σ++[]):=by
 rw [List.append_nil,gWordD_of fl h,emb_byt1 (eText_ne s)]
theorem gTruD_emb (fl:Nat) (b:Bool) (σ:List SObj):gTruD fl [.bool b] σ=some (bytE.emb (eTruth b),σ++[]):=by
 rw [List.append_nil,gTruD_of fl b,emb_byt1 (eTruth_ne b)]
theorem gCat_emb (fl:Nat) {l:List (List UInt8)} (hl:l≠[]) (h1:l.flatten≠[]) (h2:l.flatten.length≤100000000) (h3:l.length≤1000) (σ:List SObj) :
  gBy 5 gCat fl [.slice 1 (l.map bytE.emb) .full] σ=some (.rref σ.length 0 0 l.flatten.length 1,σ++[.row 5 1 0 (u8s l.flatten)]):=
 gCat_of fl (by
  rw [tok_strip]
  have:=bytsE.str l
  rw [show bytsE.emb l=.slice (sz 1 l) (l.map bytE.emb) .any from rfl,sz_ne hl] at this
  rw [this,show bytsE.emb l=.slice (sz 1 l) (l.map bytE.emb) .any from rfl,sz_ne hl]) h1 h2 h3 σ
theorem ns_byt2 (x0 x1:List UInt8):pnewSlice Tryz.prog 129 2 [(0,bytE.emb x0),(1,bytE.emb x1)]=some (.slice 1 [bytE.emb x0,bytE.emb x1] .full):=by
 kernel_rfl
theorem ns_byt3 (x0 x1 x2:List UInt8):pnewSlice Tryz.prog 129 3 [(0,bytE.emb x0),(1,bytE.emb x1),(2,bytE.emb x2)]=some (.slice 1 [bytE.emb x0,bytE.emb x1,bytE.emb x2] .full):=by
 kernel_rfl
theorem ns_byt4 (x0 x1 x2 x3:List UInt8):pnewSlice Tryz.prog 129 4 [(0,bytE.emb x0),(1,bytE.emb x1),(2,bytE.emb x2),(3,bytE.emb x3)]=some (.slice 1 [bytE.emb x0,bytE.emb x1,bytE.emb x2,bytE.emb x3] .full):=by
 kernel_rfl
variable {E:PExt} (hU:Uni E)
include hU
theorem r_rankB (h0:E 29=none) (h1:E 27=some gWordD) (h2:E 65=some gNumsD) (h4:E 66=some gTruD) (h3:E 58=some (gBy 5 gCat))
  (r:RankD) (hn:r.name.length≤1000000) (ht:r.tone.length≤1000000) (hw:r.wind.length≤1000000):RunB Tryz.prog E 5 29 [Em.rank.emb r] (eRank r):=by
 refine RunB.of ?_
 obtain ⟨nm,tn,a,b,c,w⟩:=r
 simp only at hn ht hw
 simp only [emb_rank,emb_list]
 apply WpC.bodyL h0 Tryz.func29 rfl
 focus (simp [show Tryz.f29.ntmps=_ from rfl,List.replicate];rfl)
 have k1:=pcallN_of (fl:=0) (σ:=[.box (.agg [.str nm,.str tn,.int .i64 a,.int .i64 b,.int .i64 c,.slice (sz 1 w) (w.map i64.emb) .any])]) h1 (fun fl=>gWordD_emb fl hn _)
 have k2:=pcallN_of (fl:=0) (σ:=[.box (.agg [.str nm,.str tn,.int .i64 a,.int .i64 b,.int .i64 c,.slice (sz 1 w) (w.map i64.emb) .any])]) h1 (fun fl=>gWordD_emb fl ht _)
 have k3:=pcallN_of (fl:=0) (σ:=[.box (.agg [.str nm,.str tn,.int .i64 a,.int .i64 b,.int .i64 c,.slice (sz 1 w) (w.map i64.emb) .any])]) (args:=[.slice 1 [.int .i64 a,.int .i64 b,.int .i64 c,.int .i64 w.length] .full]) h2 (fun fl=>gNumsD_emb fl (l:=[a,b,c,w.length]) (by simp) (by rfl) _)
 have k4:=pcallN_of (fl:=0) (σ:=[.box (.agg [.str nm,.str tn,.int .i64 a,.int .i64 b,.int .i64 c,.slice (sz 1 w) (w.map i64.emb) .any])]) (args:=[.slice (sz 1 w) (w.map i64.emb) .any]) h2 (fun fl=>gNumsD_emb fl (l:=w) hw (i64s.str w) _)
 have hE:([eText nm,eText tn,[a,b,c,(w.length:Int)].flatMap b8,w.flatMap b8]:List (List UInt8)).flatten=eRank ⟨nm,tn,a,b,c,w⟩:=by
  simp [eRank,eFeet,eList]
 obtain ⟨L,hL⟩:∃ l:List (List UInt8),[eText nm,eText tn,[a,b,c,(w.length:Int)].flatMap b8,w.flatMap b8]=l:=⟨_,rfl⟩
 have hlen:([eText nm,eText tn,[a,b,c,(w.length:Int)].flatMap b8,w.flatMap b8]:List (List UInt8)).flatten.length≤100000000:=by
  simp only [List.flatten_cons,List.flatten_nil,List.length_append,flat_b8,eText,eTruth,b8_length,List.length_cons,List.length_nil]
  omega
 have hnE:([eText nm,eText tn,[a,b,c,(w.length:Int)].flatMap b8,w.flatMap b8]:List (List UInt8)).flatten≠[]:=fun e=>by
  have:=congrArg List.length e
  simp only [List.flatten_cons,List.flatten_nil,List.length_append,eText,b8_length,List.length_nil] at this
  omega
 have k9:=pcallN_of (fl:=0) (σ:=[.box (.agg [.str nm,.str tn,.int .i64 a,.int .i64 b,.int .i64 c,.slice (sz 1 w) (w.map i64.emb) .any])]) h3 (fun fl=>gCat_emb fl (l:=[eText nm,eText tn,[a,b,c,(w.length:Int)].flatMap b8,w.flatMap b8]) (by simp) hnE hlen (by simp) _)
 rw [hE] at k9
 have hn:=ns_byt4 (eText nm) (eText tn) ([a,b,c,(w.length:Int)].flatMap b8) (w.flatMap b8)
 simp only [List.map_cons,List.map_nil] at k9
 have es1:=bytE.str (eText nm)
 obtain ⟨p1,hp1⟩:=gn (bytE.emb (eText nm))
 have es2:=bytE.str (eText tn)
 obtain ⟨p2,hp2⟩:=gn (bytE.emb (eText tn))
 have es3:=bytE.str ([a,b,c,(w.length:Int)].flatMap b8)
 obtain ⟨p3,hp3⟩:=gn (bytE.emb ([a,b,c,(w.length:Int)].flatMap b8))
 have es4:=bytE.str (w.flatMap b8)
 obtain ⟨p4,hp4⟩:=gn (bytE.emb (w.flatMap b8))
 rw [hp1,hp2,hp3,hp4] at k9 hn
 rw [hp1] at es1 k1
 rw [hp2] at es2 k2
 rw [hp3] at es3 k3
 rw [hp4] at es4 k4
 have hn1:pnewSlice Tryz.prog 129 4 (List.map (fun q=>(q.1,q.2.strip)) [((0:Nat),p1),((1:Nat),p2),((2:Nat),p3),((3:Nat),p4)])=some (.slice 1 [p1,p2,p3,p4] .full):=by
  simp only [List.map_cons,List.map_nil,es1,es2,es3,es4]
  exact hn
 simp only [List.append_nil,List.cons_append,List.nil_append,List.length_cons,List.length_nil,Nat.zero_add] at k1 k2 k3 k4 k9
 clear hU
 have gx:=True.intro
 refine goA ?_
 clear gx
 refine Wp.seq (Wp.drawV (by decide +kernel) ?_)
 repeat (first
  | (refine By.i ?_;(focus assumption)) | (refine Fr.i ?_;simp only [pput,List.set_cons_zero,List.set_cons_succ];try rfl)
  | (refine By.i ?_;(focus (simp (disch:=first | omega | (simp;done) | (simp;omega)) [wrap_i64,wrap_u64,k1,k2,k3,k4,k9,es1,es2,es3,es4,hn1,hn];first | done | rfl | exact ⟨rfl,rfl⟩)))
  | (refine By.i ?_;simp (disch:=first | omega | (simp;done) | (simp;omega)) [wrap_i64,wrap_u64,k1,k2,k3,k4,k9,es1,es2,es3,es4,hn1,hn];refine ⟨(by (try simp only [List.length_append,List.length_cons,List.length_nil,maxLen]);omega),rfl⟩)
  | (refine Wt.i ?_;first | rfl | (focus (simp [k1,k2,k3,k4,k9,es1,es2,es3,es4,hn1,hn];done)))
  | (refine Ns.i ?_;(try simp only [List.append_nil,List.nil_append,List.cons_append,List.append_assoc,List.length_append,List.length_cons,List.length_nil,Nat.zero_add,Nat.reduceAdd]);rfl) | rfl
  | (apply SL.pass;(focus (refine Wt.i ?_;rfl))) | (apply SL.mcall;rotate_left;(focus rfl);rotate_right) | (apply SL.convertR;(focus rfl)) | apply SL.move | apply SL.assign | apply SL.load | apply SL.isnilE | apply SL.isnilN
  | apply SL.make | apply SL.binOp | apply SL.append | apply SL.copy | apply SL.builtin | apply SL.fieldAddr | apply SL.indexAddr | apply SL.field | apply SL.extract | apply SL.fcall | apply SL.pick | apply SL.store | apply SL.unOp
  | apply SL.convert | apply SL.index | apply SL.slice | apply SL.build | apply SL.nilCheck | apply SL.buildSlice | apply SL.box | apply SL.alloc | apply SL.makeFunc)
 apply SQ.nil
 have gx:=True.intro
 refine goA ?_
 clear gx
 rw [hE] at hnE
 exact ⟨_,_,rfl,.inr ⟨hnE,1,0,rfl,rfl⟩⟩
theorem r_coupB (h0:E 31=none) (h1:E 27=some gWordD) (h2:E 65=some gNumsD) (h4:E 66=some gTruD) (h3:E 58=some (gBy 5 gCat))
  (r:CoupD) (hn:r.name.length≤1000000):RunB Tryz.prog E 5 31 [Em.coup.emb r] (eCoup r):=by
 refine RunB.of ?_
 obtain ⟨nm,a,b,c,t⟩:=r
 simp only at hn
 simp only [emb_coup]
 apply WpC.bodyL h0 Tryz.func31 rfl
 focus (simp [show Tryz.f31.ntmps=_ from rfl,List.replicate];rfl)
 have k1:=pcallN_of (fl:=0) (σ:=[.box (.agg [.str nm,.int .i64 a,.int .i64 b,.int .i64 c,.bool t])]) h1 (fun fl=>gWordD_emb fl hn _)
 have k2:=pcallN_of (fl:=0) (σ:=[.box (.agg [.str nm,.int .i64 a,.int .i64 b,.int .i64 c,.bool t])]) (args:=[.slice 1 [.int .i64 a,.int .i64 b,.int .i64 c] .full]) h2 (fun fl=>gNumsD_emb fl (l:=[a,b,c]) (by simp) (by rfl) _)
 have k3:=pcallN_of (fl:=0) (σ:=[.box (.agg [.str nm,.int .i64 a,.int .i64 b,.int .i64 c,.bool t])]) h4 (fun fl=>gTruD_emb fl t _)
 have hE:([eText nm,[a,b,c].flatMap b8,eTruth t]:List (List UInt8)).flatten=eCoup ⟨nm,a,b,c,t⟩:=by
  simp [eCoup]
 obtain ⟨L,hL⟩:∃ l:List (List UInt8),[eText nm,[a,b,c].flatMap b8,eTruth t]=l:=⟨_,rfl⟩
 have hlen:([eText nm,[a,b,c].flatMap b8,eTruth t]:List (List UInt8)).flatten.length≤100000000:=by
  simp only [List.flatten_cons,List.flatten_nil,List.length_append,flat_b8,eText,eTruth,b8_length,List.length_cons,List.length_nil]
  omega
 have hnE:([eText nm,[a,b,c].flatMap b8,eTruth t]:List (List UInt8)).flatten≠[]:=fun e=>by
  have:=congrArg List.length e
  simp only [List.flatten_cons,List.flatten_nil,List.length_append,eText,b8_length,List.length_nil] at this
  omega
 have k9:=pcallN_of (fl:=0) (σ:=[.box (.agg [.str nm,.int .i64 a,.int .i64 b,.int .i64 c,.bool t])]) h3 (fun fl=>gCat_emb fl (l:=[eText nm,[a,b,c].flatMap b8,eTruth t]) (by simp) hnE hlen (by simp) _)
 rw [hE] at k9
 have hn:=ns_byt3 (eText nm) ([a,b,c].flatMap b8) (eTruth t)
 simp only [List.map_cons,List.map_nil] at k9
 have es1:=bytE.str (eText nm)
 obtain ⟨p1,hp1⟩:=gn (bytE.emb (eText nm))
 have es2:=bytE.str ([a,b,c].flatMap b8)
 obtain ⟨p2,hp2⟩:=gn (bytE.emb ([a,b,c].flatMap b8))
 have es3:=bytE.str (eTruth t)
 obtain ⟨p3,hp3⟩:=gn (bytE.emb (eTruth t))
 rw [hp1,hp2,hp3] at k9 hn
 rw [hp1] at es1 k1
 rw [hp2] at es2 k2
 rw [hp3] at es3 k3
 have hn1:pnewSlice Tryz.prog 129 3 (List.map (fun q=>(q.1,q.2.strip)) [((0:Nat),p1),((1:Nat),p2),((2:Nat),p3)])=some (.slice 1 [p1,p2,p3] .full):=by
  simp only [List.map_cons,List.map_nil,es1,es2,es3]
  exact hn
 simp only [List.append_nil,List.cons_append,List.nil_append,List.length_cons,List.length_nil,Nat.zero_add] at k1 k2 k3 k9
 clear hU
 have gx:=True.intro
 refine goA ?_
 clear gx
 refine Wp.seq (Wp.drawV (by decide +kernel) ?_)
 repeat (first
  | (refine By.i ?_;(focus assumption)) | (refine Fr.i ?_;simp only [pput,List.set_cons_zero,List.set_cons_succ];try rfl)
  | (refine By.i ?_;(focus (simp (disch:=first | omega | (simp;done) | (simp;omega)) [wrap_i64,wrap_u64,k1,k2,k3,k9,es1,es2,es3,hn1,hn];first | done | rfl | exact ⟨rfl,rfl⟩)))
  | (refine By.i ?_;simp (disch:=first | omega | (simp;done) | (simp;omega)) [wrap_i64,wrap_u64,k1,k2,k3,k9,es1,es2,es3,hn1,hn];refine ⟨(by (try simp only [List.length_append,List.length_cons,List.length_nil,maxLen]);omega),rfl⟩)
  | (refine Wt.i ?_;first | rfl | (focus (simp [k1,k2,k3,k9,es1,es2,es3,hn1,hn];done)))
  | (refine Ns.i ?_;(try simp only [List.append_nil,List.nil_append,List.cons_append,List.append_assoc,List.length_append,List.length_cons,List.length_nil,Nat.zero_add,Nat.reduceAdd]);rfl) | rfl
  | (apply SL.pass;(focus (refine Wt.i ?_;rfl))) | (apply SL.mcall;rotate_left;(focus rfl);rotate_right) | (apply SL.convertR;(focus rfl)) | apply SL.move | apply SL.assign | apply SL.load | apply SL.isnilE | apply SL.isnilN
  | apply SL.make | apply SL.binOp | apply SL.append | apply SL.copy | apply SL.builtin | apply SL.fieldAddr | apply SL.indexAddr | apply SL.field | apply SL.extract | apply SL.fcall | apply SL.pick | apply SL.store | apply SL.unOp
  | apply SL.convert | apply SL.index | apply SL.slice | apply SL.build | apply SL.nilCheck | apply SL.buildSlice | apply SL.box | apply SL.alloc | apply SL.makeFunc)
 apply SQ.nil
 have gx:=True.intro
 refine goA ?_
 clear gx
 rw [hE] at hnE
 exact ⟨_,_,rfl,.inr ⟨hnE,1,0,rfl,rfl⟩⟩
end Go.Kz

namespace Go.Kz
open Go Go.Proofs
set_option maxRecDepth 100000
set_option maxHeartbeats 4000000
theorem pre_le {α:Type} (f:α→List UInt8) (l:List α) (i:Nat):((l.take i).flatMap f).length≤(l.flatMap f).length:=by
 have:l.flatMap f=(l.take i).flatMap f++(l.drop i).flatMap f:=by rw [← List.flatMap_append,List.take_append_drop]
 rw [this,List.length_append]
 omega
theorem pre_next {α:Type} (f:α→List UInt8) (l:List α) (i:Nat) (h:i < l.length):(l.take (i+1)).flatMap f=(l.take i).flatMap f++f l[i]:=by
 rw [List.take_add_one,List.getElem?_eq_getElem h,List.flatMap_append]
 simp only [Option.toList,List.flatMap_cons,List.flatMap_nil,List.append_nil]
theorem gNums_ys (fl:Nat) {l:List Int} (h0:l≠[]) (h:l.length≤1000000) {p:PD} (hp:p.strip=i64s.emb l) {ys:List UInt8} (hy:l.flatMap b8=ys) (σ:List SObj):gNumsD fl [p] σ=some (.slice 1 (u8s ys) .any,σ):=by
 rw [gNumsD_of fl h hp,sz_ne h0,hy]
theorem OutAt.lt {σ:List SObj} {p:PD} {bs:List UInt8} (h:OutAt σ p bs) {id:Nat} (hi:σ.length≤id):¬ hasId p id:=by
 rintro ⟨v,off,n,s,rfl⟩
 rcases h with ⟨_,e⟩ | ⟨_,k,w,e,hk⟩
 ·cases e
 ·cases e
  have:=(List.getElem?_eq_some_iff.1 hk).1
  omega
theorem flat_ge {α:Type} {f:α→List UInt8} (hf:∀ x,1≤(f x).length):∀ l:List α,l.length≤(l.flatMap f).length
 | []=>Nat.le_refl _
 | x::r=>by
   have:=flat_ge hf r
   have:=hf x
   rw [List.flatMap_cons,List.length_append,List.length_cons]
   omega
variable {E:PExt} (hU:Uni E)
include hU
theorem r_stopB (h0:E 67=none) (h1:E 27=some gWordD) (h2:E 65=some gNumsD) (h3:E 58=some (gBy 5 gCat))
  (r:StopD) (hn:r.name.length≤1000000) (hT:(eStop r).length≤100000000):RunB Tryz.prog E 5 67 [Em.stop.emb r] (eStop r):=by
 refine RunB.of ?_
 obtain ⟨nm,a,b,gs⟩:=r
 simp only at hn
 simp only [emb_stop,emb_list]
 obtain ⟨pre,hpre⟩:=gn (eText nm++[a,b,(gs.length:Int)].flatMap b8)
 have hsp:eStop ⟨nm,a,b,gs⟩=pre++gs.flatMap eSeg:=by rw [← hpre];simp [eStop,eFeet,eList]
 rw [hsp] at hT ⊢
 apply WpC.bodyL h0 Tryz.func67 rfl
 focus (simp [show Tryz.f67.ntmps=_ from rfl,List.replicate];rfl)
 clear hU
 have gx:=True.intro
 refine goA ?_
 clear gx
 have k1:=pcallN_of (fl:=0) (σ:=[.box (.agg [.str nm,.int .i64 a,.int .i64 b,.slice (sz 3 gs) (gs.map Em.seg.emb) .any])]) h1 (fun fl=>gWordD_emb fl hn _)
 have k2:=pcallN_of (fl:=0) (σ:=[.box (.agg [.str nm,.int .i64 a,.int .i64 b,.slice (sz 3 gs) (gs.map Em.seg.emb) .any])]) (args:=[.slice 1 [.int .i64 a,.int .i64 b,.int .i64 gs.length] .full]) h2 (fun fl=>gNumsD_emb fl (l:=[a,b,gs.length]) (by simp) (by rfl) _)
 have hE:([eText nm,[a,b,(gs.length:Int)].flatMap b8]:List (List UInt8)).flatten=pre:=by
  simp [← hpre]
 have hlen:([eText nm,[a,b,(gs.length:Int)].flatMap b8]:List (List UInt8)).flatten.length≤100000000:=by
  simp only [List.flatten_cons,List.flatten_nil,List.length_append,flat_b8,eText,eTruth,b8_length,List.length_cons,List.length_nil]
  omega
 have hnE:([eText nm,[a,b,(gs.length:Int)].flatMap b8]:List (List UInt8)).flatten≠[]:=fun e=>by
  have:=congrArg List.length e
  simp only [List.flatten_cons,List.flatten_nil,List.length_append,eText,b8_length,List.length_nil] at this
  omega
 have k9:=pcallN_of (fl:=0) (σ:=[.box (.agg [.str nm,.int .i64 a,.int .i64 b,.slice (sz 3 gs) (gs.map Em.seg.emb) .any])]) h3 (fun fl=>gCat_emb fl (l:=[eText nm,[a,b,(gs.length:Int)].flatMap b8]) (by simp) hnE hlen (by simp) _)
 rw [hE] at k9 hnE hlen
 have hn:=ns_byt2 (eText nm) ([a,b,(gs.length:Int)].flatMap b8)
 simp only [List.map_cons,List.map_nil] at k9
 have es1:=bytE.str (eText nm)
 obtain ⟨p1,hp1⟩:=gn (bytE.emb (eText nm))
 have es2:=bytE.str ([a,b,(gs.length:Int)].flatMap b8)
 obtain ⟨p2,hp2⟩:=gn (bytE.emb ([a,b,(gs.length:Int)].flatMap b8))
 rw [hp1,hp2] at k9 hn
 rw [hp1] at es1 k1
 rw [hp2] at es2 k2
 have hn1:pnewSlice Tryz.prog 129 2 (List.map (fun q=>(q.1,q.2.strip)) [((0:Nat),p1),((1:Nat),p2)])=some (.slice 1 [p1,p2] .full):=by
  simp only [List.map_cons,List.map_nil,es1,es2]
  exact hn
 simp only [List.append_nil,List.cons_append,List.nil_append,List.length_cons,List.length_nil,Nat.zero_add] at k1 k2 k9
 refine Wp.seq (Wp.drawV (by decide +kernel) ?_)
 repeat (first
  | (refine By.i ?_;(focus assumption)) | (refine Fr.i ?_;simp only [pput,List.set_cons_zero,List.set_cons_succ];try rfl)
  | (refine By.i ?_;(focus (simp (disch:=first | omega | (simp;done) | (simp;omega)) [wrap_i64,wrap_u64,k1,k2,k9,es1,es2,hn1,hn];first | done | rfl | exact ⟨rfl,rfl⟩)))
  | (refine By.i ?_;simp (disch:=first | omega | (simp;done) | (simp;omega)) [wrap_i64,wrap_u64,k1,k2,k9,es1,es2,hn1,hn];refine ⟨(by (try simp only [List.length_append,List.length_cons,List.length_nil,maxLen]);omega),rfl⟩)
  | (refine Wt.i ?_;first | rfl | (focus (simp [k1,k2,k9,es1,es2,hn1,hn];done)))
  | (refine Ns.i ?_;(try simp only [List.append_nil,List.nil_append,List.cons_append,List.append_assoc,List.length_append,List.length_cons,List.length_nil,Nat.zero_add,Nat.reduceAdd]);rfl) | rfl
  | (apply SL.pass;(focus (refine Wt.i ?_;rfl))) | (apply SL.mcall;rotate_left;(focus rfl);rotate_right) | (apply SL.convertR;(focus rfl)) | apply SL.move | apply SL.assign | apply SL.load | apply SL.isnilE | apply SL.isnilN
  | apply SL.make | apply SL.binOp | apply SL.append | apply SL.copy | apply SL.builtin | apply SL.fieldAddr | apply SL.indexAddr | apply SL.field | apply SL.extract | apply SL.fcall | apply SL.pick | apply SL.store | apply SL.unOp
  | apply SL.convert | apply SL.index | apply SL.slice | apply SL.build | apply SL.nilCheck | apply SL.buildSlice | apply SL.box | apply SL.alloc | apply SL.makeFunc)
 apply SQ.nil
 obtain ⟨tot,htot⟩:=gn (gs.length)
 have ho0:OutAt [.box (.agg [.str nm,.int .i64 a,.int .i64 b,.slice (sz 3 gs) (gs.map Em.seg.emb) .any]),.row 5 1 0 (u8s pre)] (.rref 1 0 0 pre.length 1) pre:=.inr ⟨hnE,1,0,rfl,rfl⟩
 obtain ⟨σ0,hσ0⟩:=gn ([SObj.box (.agg [.str nm,.int .i64 a,.int .i64 b,.slice (sz 3 gs) (gs.map Em.seg.emb) .any]),.row 5 1 0 (u8s pre)])
 rw [hσ0] at ho0
 have hTl:pre.length+(gs.flatMap eSeg).length≤100000000:=by rw [List.length_append] at hT;exact hT
 have ht:trow 30 60=true:=by decide
 have htb:=flat_ge (f:=eSeg) (fun x=>by simp only [eSeg,List.length_append,b8_length];omega) gs
 obtain ⟨A0,hA0⟩:=gn (PD.agg [.str nm,.int .i64 a,.int .i64 b,.slice (sz 3 gs) (gs.map Em.seg.emb) .any])
 have gx:=True.intro
 refine goA ?_
 clear gx
 rw [hσ0,htot]
 refine Wp.loopI (fun m fr σ=>∃ (i:Nat) (p:PD) (σ1:List SObj),∃ gg:Nat→PD,(i+m=tot∧OutAt σ1 p (pre++(gs.take i).flatMap eSeg))∧fr=gg 0::gg 1::gg 2::p::gg 4::gg 5::gg 6::gg 7::gg 8::gg 9::gg 10::gg 11::gg 12::gg 13::gg 14::gg 15::gg 16::gg 17::gg 18::gg 19::gg 20::gg 21::gg 22::gg 23::gg 24::.slice (sz 3 gs) (gs.map Em.seg.emb) .any::.int .i64 tot::.int .i64 i::gg 28::gg 29::gg 30::gg 31::gg 32::gg 33::gg 34::gg 35::gg 36::gg 37::gg 38::gg 39::gg 40::gg 41::gg 42::gg 43::gg 44::gg 45::gg 46::gg 47::gg 48::gg 49::gg 50::gg 51::gg 52::gg 53::gg 54::gg 55::gg 56::gg 57::gg 58::gg 59::[]∧σ=σ1) ?_ (tot) ⟨0,_,σ0,exF (⟨by omega,(by simpa using ho0)⟩) (by (first | rfl | (simp [];repeat (first | rfl | (apply And.intro))) | (simp [];done))) (by (first | rfl | (simp [];repeat (first | rfl | (apply And.intro))) | (simp [];done)))⟩
 rintro m fr σ ⟨i,p,σ1,gg,hI,rfl,rfl⟩
 obtain ⟨M,rfl⟩:∃ M,M=m:=⟨_,rfl⟩
 obtain ⟨gq,rfl⟩:∃ M,M=gg:=⟨_,rfl⟩
 obtain ⟨hm,ho⟩:=hI
 by_cases hi:i < tot
 ·have q1:(i:Int) < tot:=by omega
  have hil:i < gs.length:=by omega
  have hz:sz 3 gs=3:=sz_ne (fun e=>by rw [e] at hil;simp at hil)
  have hpn:=pre_next eSeg gs i hil
  have hpl:=pre_le eSeg gs (i+1)
  obtain ⟨⟨lo,hg,ds⟩,hx⟩:∃ x,gs[i]=x:=⟨_,rfl⟩
  rw [hx] at hpn
  have hes:eSeg ⟨lo,hg,ds⟩=[lo,hg,(ds.length:Int)].flatMap b8++ds.flatMap eDraw:=by simp [eSeg,eList]
  rw [hes] at hpn
  rw [hpn] at hpl
  simp only [List.length_append] at hpl
  obtain ⟨cur,hcur⟩:=gn (pre++(gs.take i).flatMap eSeg)
  have hcl:=congrArg List.length hcur
  rw [List.length_append] at hcl
  rw [hcur] at ho
  obtain ⟨ys,hys⟩:=gn ([lo,hg,(ds.length:Int)].flatMap b8)
  have hG:=fun σ=>gNums_ys 0 (l:=[lo,hg,(ds.length:Int)]) (by simp) (by simp) (p:=.slice 1 [.int .i64 lo,.int .i64 hg,.int .i64 ds.length] .full) (by rfl) hys σ
  rw [hys] at hpn hpl
  obtain ⟨p',σ',ap,ho',hlen',hkp,hid⟩:=out_app ht (ys:=ys) (z:=1) (tok:=.any) (ho.more [.box (.agg [.int .i64 lo,.int .i64 hg,.slice (sz 2 ds) (ds.map Em.draw.emb) .any])]) (.inr rfl) (by rw [List.length_append];omega)
  have hb2:=hkp σ.length _ ((ho.lt (Nat.le_refl _))) (List.getElem?_concat_length)
  obtain ⟨w2,z2⟩:=List.getElem?_eq_some_iff.1 hb2
  have es:∀ X Y,(σ++[SObj.box X]).set σ.length (.box Y)=σ++[.box Y]:=fun X Y=>by simp
  have hb1:∀ X:SObj,(σ++[X])[σ.length]?=some X:=fun X=>by simp
  obtain ⟨dt,hdt⟩:=gn (ds.length)
  rw [hdt] at hG
  have gx:=An @q1 (An @hx (An @hil (An @hz (An @h2 (An @hG (An @ht (An @ap (An @hb1 (An @es (An @hb2 (An @w2 (An @z2 (@hdt)))))))))))))
  refine goA ?_
  clear gx
  have hdb:=flat_ge (f:=eDraw) (fun x=>by simp only [eDraw,List.length_append,b8_length];omega) ds
  obtain ⟨cur2,hcur2⟩:=gn (cur++ys)
  have hcl2:=congrArg List.length hcur2
  rw [List.length_append] at hcl2
  rw [hcur2] at ho'
  clear hkp hid ap hb2 z2
  refine Wp.loopI (fun m fr σ=>∃ (j:Nat) (p:PD) (σ1:List SObj),∃ gg:Nat→PD,(j+m=dt∧OutAt σ1 p (cur2++(ds.take j).flatMap eDraw))∧fr=gg 0::gg 1::gg 2::p::gg 4::gg 5::gg 6::gg 7::gg 8::gg 9::gg 10::gg 11::gg 12::gg 13::gg 14::gg 15::gg 16::gg 17::gg 18::gg 19::gg 20::gg 21::gg 22::gg 23::gg 24::.slice (sz 3 gs) (gs.map Em.seg.emb) .any::.int .i64 tot::.int .i64 i::gg 28::gg 29::gg 30::gg 31::gg 32::gg 33::gg 34::gg 35::gg 36::gg 37::gg 38::gg 39::gg 40::gg 41::gg 42::.slice (sz 2 ds) (ds.map Em.draw.emb) .any::.int .i64 dt::.int .i64 j::gg 46::gg 47::gg 48::gg 49::gg 50::gg 51::gg 52::gg 53::gg 54::gg 55::gg 56::gg 57::gg 58::gg 59::[]∧σ=σ1) ?_ (dt) ⟨0,_,σ',exF (⟨by omega,(by simpa using ho')⟩) (by (first | rfl | (simp [];repeat (first | rfl | (apply And.intro))) | (simp [];done))) (by (first | rfl | (simp [];repeat (first | rfl | (apply And.intro))) | (simp [];done)))⟩
  rintro m fr σ ⟨j,p,σ1,gg,hI,rfl,rfl⟩
  obtain ⟨hm2,ho2⟩:=hI
  by_cases hj:j < dt
  ·have q2:(j:Int) < dt:=by omega
   have hjl:j < ds.length:=by omega
   have hz2:sz 2 ds=2:=sz_ne (fun e=>by rw [e] at hjl;simp at hjl)
   have hpn2:=pre_next eDraw ds j hjl
   have hpl2:=pre_le eDraw ds (j+1)
   obtain ⟨⟨rk,sh⟩,hx2⟩:∃ x,ds[j]=x:=⟨_,rfl⟩
   rw [hx2] at hpn2
   have hed:eDraw ⟨rk,sh⟩=[rk,sh].flatMap b8:=by simp [eDraw]
   rw [hed] at hpn2
   obtain ⟨zs,hzs⟩:=gn ([rk,sh].flatMap b8)
   have hG2:=fun σ=>gNums_ys 0 (l:=[rk,sh]) (by simp) (by simp) (p:=.slice 1 [.int .i64 rk,.int .i64 sh] .full) (by rfl) hzs σ
   rw [hzs] at hpn2
   rw [hpn2] at hpl2
   simp only [List.length_append] at hpl2
   obtain ⟨p2,σ2,ap2,ho3,_,_,_⟩:=out_app ht (ys:=zs) (z:=1) (tok:=.any) (ho2.more [.box (.agg [.int .i64 rk,.int .i64 sh])]) (.inr rfl) (by rw [List.length_append,List.length_append];omega)
   have es:∀ X Y,(σ++[SObj.box X]).set σ.length (.box Y)=σ++[.box Y]:=fun X Y=>by simp
   have hb1:∀ X:SObj,(σ++[X])[σ.length]?=some X:=fun X=>by simp
   rw [List.append_assoc,← hpn2] at ho3
   have gx:=An @q2 (An @hx2 (An @hjl (An @hz2 (An @h2 (An @hG2 (An @ht (An @ap2 (An @hb1 (@es)))))))))
   refine goA ?_
   clear gx
   refine LoopI.normal (m - 1) (by omega) (by refine ⟨j+1,p2,σ2,?_⟩;exact exF (⟨by omega,ho3⟩) (by (first | rfl | (simp [hx2];repeat (first | rfl | (apply And.intro))) | (simp [hx2];done))) (by (first | rfl | (simp [hx2];repeat (first | rfl | (apply And.intro))) | (simp [hx2];done))))
  ·have q2:¬ (j:Int) < dt:=by omega
   have ej:j=dt:=by omega
   rw [ej,← hdt,List.take_length,← hcur2,← hcur,List.append_assoc,List.append_assoc,← hpn] at ho2
   have gx:=@q2
   refine goA ?_
   clear gx
   refine LoopI.normal (M - 1) (by omega) (by refine ⟨i+1,p,σ,?_⟩;exact exF (⟨by omega,ho2⟩) (by (first | rfl | (simp [hx];repeat (first | rfl | (apply And.intro))) | (simp [hx];done))) (by (first | rfl | (simp [hx];repeat (first | rfl | (apply And.intro))) | (simp [hx];done))))
 ·have q1:¬ (i:Int) < tot:=by omega
  have ei:i=tot:=by omega
  rw [ei,← htot,List.take_length] at ho
  have gx:=@q1
  refine goA ?_
  clear gx
  exact ⟨_,_,rfl,ho⟩
end Go.Kz
