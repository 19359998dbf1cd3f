/-
  Part D1 of the way: an interpreter over pure data, its soundness, walks through functions.
-/
import Derived.Test.YtefkonhamghgfaaGreatDoorP5
import Derived.Test.YtefkonhamghgfaaGreatDoorP4
set_option linter.all false

set_option maxHeartbeats 40000000
open Go.Proofs.Tryz
noncomputable section
namespace Go.Kz
open Go Go.Proofs
section
def oI(n:Int):Nat:=(n%18446744073709551616).toNat
def b8(n:Int):List UInt8:=(List.range 8).map fun i=>UInt8.ofNat (oI n/256^i)
theorem cT(n:Int):(b8 n).length=8:=by simp[b8]
def le:List UInt8->Nat
 | []=>0
 |b::r=>b.toNat+256*le r
def dI(l:List UInt8):Int:=if le l<9223372036854775808 then(le l:Int)else(le l:Int)-18446744073709551616
def dF(n:Int):Prop:=-9223372036854775808<=n/\n<9223372036854775808
theorem aDS:∀(k u:Nat),le ((List.range k).map fun i=>UInt8.ofNat (u/256^i))=u%256^k
 |0,u=>by simp[le,Nat.mod_one]
 |k+1,u=>by
  rw[List.range_succ_eq_map]
  simp only[List.map_cons,List.map_map,le,Function.comp_def]
  have e:(fun i=>UInt8.ofNat (u/256^(i+1)))=fun i=>UInt8.ofNat (u/256/256^i):=by
   funext i
   rw[Nat.pow_succ',Nat.div_div_eq_div_mul]
  show(UInt8.ofNat (u/256^0)).toNat+256*le ((List.range k).map fun i=>UInt8.ofNat (u/256^(i+1)))=_
  rw[e,aDS k (u/256),Nat.pow_succ',Nat.mod_mul]
  simp
theorem aNx(n:Int):le (b8 n)=oI n:=by
 have h:oI n<18446744073709551616:=by unfold oI;omega
 unfold b8
 rw[aDS 8 (oI n),Nat.mod_eq_of_lt h]
theorem JV:∀l:List UInt8,le l<256^l.length
 | []=>by simp[le]
 |b::r=>by
  have h:=JV r
  have hb:=b.toNat_lt
  simp only[le,List.length_cons,Nat.pow_succ]
  omega
theorem aDT:∀(l:List UInt8) (i:Nat) (h:i<l.length),le l/256^i%256=l[i].toNat
 | [],i,h=>by simp at h
 |b::r,0,h=>by
  have hb:=b.toNat_lt
  simp only[le,Nat.pow_zero,Nat.div_one,List.getElem_cons_zero]
  omega
 |b::r,i+1,h=>by
  have hb:=b.toNat_lt
  have ih:=aDT r i (by simpa using h)
  have e:(b.toNat+256*le r)/256=le r:=by omega
  simp only[le,List.getElem_cons_succ]
  rw[Nat.pow_succ',<-Nat.div_div_eq_div_mul,e,ih]
structure fP where
 aJ:List UInt8
 bad:Bool
abbrev iL(α:Type):=fP->α×fP
def aM:iL Int:=fun s=>if s.bad=true\/s.aJ.length<8 then(0,⟨s.aJ,true⟩)else(dI (s.aJ.take 8),⟨s.aJ.drop 8,false⟩)
def iB:iL (List UInt8):=fun s=>let r:=aM s
 if r.2.bad=true\/r.1<0\/(r.2.aJ.length:Int)<r.1 then([],⟨r.2.aJ,true⟩)else(r.2.aJ.take r.1.toNat,⟨r.2.aJ.drop r.1.toNat,false⟩)
def oR:iL Bool:=fun s=>let r:=aM s
 (decide (r.1=1),⟨r.2.aJ,r.2.bad||decide (r.1<0)||decide (1<r.1)⟩)
def bG{α:Type}(d:iL α):Nat->fP->List α×fP
 |0,s=>([],s)
 |k+1,s=>if s.bad=true then([],s)else let r:=d s;let q:=bG d k r.2;(r.1::q.1,q.2)
def dList{α:Type}(d:iL α):iL (List α):=fun s=>let r:=aM s
 bG d r.1.toNat ⟨r.2.aJ,r.2.bad||decide (r.1<0)⟩
def sD:iL (Int×Int):=fun s=>let a:=aM s;let b:=aM a.2;((a.1,b.1),b.2)
def jD:iL bM:=fun s=>
 let a:=iB s;let b:=iB a.2;let c:=sD b.2;let d:=aM c.2;let e:=dList aM d.2
 (⟨a.1,b.1,c.1.1,c.1.2,d.1,e.1⟩,e.2)
def jE:iL fA:=fun s=>let a:=aM s;let b:=aM a.2;(⟨a.1,b.1⟩,b.2)
def jF:iL fY:=fun s=>let a:=aM s;let b:=aM a.2;let c:=dList jE b.2;(⟨a.1,b.1,c.1⟩,c.2)
def jG:iL dG:=fun s=>let a:=iB s;let b:=sD a.2;let c:=dList jF b.2;(⟨a.1,b.1.1,b.1.2,c.1⟩,c.2)
def jH:iL cU:=fun s=>let a:=iB s;let b:=oR a.2;let c:=aM b.2;let d:=aM c.2;let e:=dList jG d.2;(⟨a.1,b.1,c.1,d.1,e.1⟩,e.2)
def jI:iL cF:=fun s=>let a:=iB s;let b:=aM a.2;let c:=aM b.2;let d:=aM c.2;let e:=oR d.2;(⟨a.1,b.1,c.1,d.1,e.1⟩,e.2)
def iG:iL bY:=fun s=>let a:=iB s;let b:=dList jD a.2;let c:=dList jH b.2;let d:=dList jI c.2;(⟨a.1,b.1,c.1,d.1⟩,d.2)
def aZ(s:List UInt8):List UInt8:=b8 s.length++s
def eW(b:Bool):List UInt8:=b8 (if b=true then 1 else 0)
def eList{α:Type}(e:α->List UInt8)(l:List α):List UInt8:=b8 l.length++l.flatMap e
def pI(x:Int×Int):List UInt8:=b8 x.1++b8 x.2
def eT(r:bM):List UInt8:=aZ r.name++(aZ r.jN++(pI (r.num,r.den)++(b8 r.first++eList b8 r.fJ)))
def jJ(d:fA):List UInt8:=b8 d.aR++b8 d.shift
def iT(g:fY):List UInt8:=b8 g.lo++(b8 g.hi++eList jJ g.nO)
def fE(s:dG):List UInt8:=aZ s.name++(pI (s.num,s.den)++eList iT s.fK)
def eX(d:cU):List UInt8:=aZ d.name++(eW d.oL++(b8 d.low++(b8 d.high++eList fE d.stops)))
def fI(c:cF):List UInt8:=aZ c.name++(b8 c.nN++(b8 c.dst++(b8 c.shift++eW c.vQ)))
def aW(o:bY):List UInt8:=aZ o.name++(eList eT o.aX++(eList eX o.cM++eList fI o.iM))
structure Rt {α:Type} (d:iL α) (e:α->List UInt8) (R:α->Prop):Prop where
 fwd:∀x rest,R x->d ⟨e x++rest,false⟩=(x,⟨rest,false⟩)
 bwd:∀s,(d s).2.bad=false->s.bad=false/\s.aJ=e (d s).1++(d s).2.aJ
 len:∀s,(d s).2.aJ.length<=s.aJ.length
 use:∀s,(d s).2.bad=false->(d s).2.aJ.length+8<=s.aJ.length
theorem aNy(l:List UInt8)(h:l.length=8):b8 (dI l)=l:=by
 have hl:=JV l
 rw[h]at hl
 have hu:oI (dI l)=le l:=by
  unfold oI dI
  split<;>omega
 unfold b8
 rw[hu]
 refine List.ext_getElem (by simp[h]) fun i h1 h2=>?_
 simp only[List.getElem_map,List.getElem_range]
 refine UInt8.toNat_inj.1 ?_
 rw[UInt8.toNat_ofNat',aDT l i h2]
theorem aNz{n:Int}(h:dF n):dI (b8 n)=n:=by
 unfold dI
 rw[aNx]
 unfold oI
 obtain⟨h1,h2⟩:=h
 split<;>omega
theorem cH:Rt aM b8 dF where
 fwd:=fun x rest h=>by
  unfold aM
  simp only[yAa,cT]
  rw[if_neg (by simp),List.take_left' (cT x),List.drop_left' (cT x),aNz h]
 bwd:=fun s h=>by
  unfold aM at h ⊢
  split at h
  ·cases h
  ·rename_i hc
   rw[if_neg hc]
   simp only[not_or,Bool.not_eq_true]at hc
   refine⟨hc.1,?_⟩
   simp only
   rw[aNy _ (by rw[yAt];omega),List.take_append_drop]
 len:=fun s=>by
  unfold aM
  split
  ·exact yAk _
  ·simp
 use:=fun s h=>by
  unfold aM at h ⊢
  split at h
  ·cases h
  ·rename_i hc
   rw[if_neg hc]
   simp only[List.length_drop]
   omega
theorem aNu(s:fP):dF (aM s).1:=by
 unfold aM
 split
 ·exact⟨(by decide:(-9223372036854775808:Int)<=0),(by decide:(0:Int)<9223372036854775808)⟩
 ·have:le (s.aJ.take 8)<18446744073709551616:=Nat.lt_of_lt_of_le (JV _) (by
   rw[show(18446744073709551616:Nat)=256^8 from rfl]
   exact Nat.pow_le_pow_right (by decide) (by simp;omega))
  unfold dF dI
  simp only
  split<;>omega
theorem Rt.seq{α β:Type}{d1:iL α}{d2:iL β}{e1:α->List UInt8}{e2:β->List UInt8}{R1:α->Prop}{R2:β->Prop}(h1:Rt d1 e1 R1)(h2:Rt d2 e2 R2) :
  Rt (fun s=>((((d1 s).1,(d2 (d1 s).2).1),(d2 (d1 s).2).2):(α×β)×fP)) (fun x=>e1 x.1++e2 x.2) (fun x=>R1 x.1/\R2 x.2) where
 fwd:=fun x rest h=>by
  simp only[yAi]
  rw[h1.fwd _ _ h.1]
  simp only
  rw[h2.fwd _ _ h.2]
 bwd:=fun s h=>by
  obtain⟨a1,a2⟩:=h2.bwd _ h
  obtain⟨b1,b2⟩:=h1.bwd _ a1
  exact⟨b1,by simp only[yAi];rw[<-a2];exact b2⟩
 len:=fun s=>Nat.le_trans (h2.len _) (h1.len _)
 use:=fun s h=>by
  obtain⟨a1,a2⟩:=h2.bwd _ h
  have:=h1.use _ a1
  have:=h2.len (d1 s).2
  show(d2 (d1 s).2).2.aJ.length+8<=_
  omega
theorem Rt.map{α β:Type}{d:iL α}{e:α->List UInt8}{R:α->Prop}(h:Rt d e R)(f:α->β)(g:β->α)(hf:∀y,f (g y)=y)(hg:∀x,g (f x)=x):Rt (fun s=>((f (d s).1,(d s).2):β×fP)) (fun y=>e (g y)) (fun y=>R (g y)) where
 fwd:=fun y rest hy=>by
  show((f (d ⟨e (g y)++rest,false⟩).1,(d ⟨e (g y)++rest,false⟩).2):β×fP)=_
  rw[h.fwd _ _ hy,hf]
 bwd:=fun s hs=>by
  simp only[hg]
  exact h.bwd s hs
 len:=h.len
 use:=h.use
theorem sI:Rt iB aZ (fun s=>dF s.length) where
 fwd:=fun x rest h=>by
  unfold iB aZ
  simp only[yAi]
  rw[cH.fwd _ _ h]
  simp only
  rw[if_neg (by
   rintro(h|h|h)
   ·cases h
   ·omega
   ·rw[yAa]at h;omega)]
  simp
 bwd:=fun s h=>by
  unfold iB at h ⊢
  simp only at h ⊢
  split at h
  ·cases h
  ·rename_i hc
   rw[if_neg hc]
   simp only[not_or,Bool.not_eq_true]at hc
   obtain⟨c1,c2,c3⟩:=hc
   obtain⟨a1,a2⟩:=cH.bwd s c1
   refine⟨a1,?_⟩
   unfold aZ
   simp only[yAi,List.take_append_drop]
   rw[yAt,Nat.min_eq_left (by omega),Int.toNat_of_nonneg (by omega)]
   exact a2
 len:=fun s=>by
  have:=cH.len s
  unfold iB
  simp only
  split
  ·exact this
  ·simp only[List.length_drop];omega
 use:=fun s h=>by
  unfold iB at h ⊢
  simp only at h ⊢
  split at h
  ·cases h
  ·rename_i hc
   rw[if_neg hc]
   simp only[not_or,Bool.not_eq_true]at hc
   have:=cH.use s hc.1
   simp only[List.length_drop]
   omega
theorem yF:Rt oR eW (fun _=>True) where
 fwd:=fun x rest h=>by
  unfold oR eW
  rw[cH.fwd _ _ (by cases x<;>exact⟨by simp,by simp⟩)]
  cases x<;>simp
 bwd:=fun s h=>by
  unfold oR at h ⊢
  simp only[Bool.or_eq_false_iff,decide_eq_false_iff_not]at h ⊢
  obtain⟨⟨c1,c2⟩,c3⟩:=h
  obtain⟨a1,a2⟩:=cH.bwd s c1
  refine⟨a1,?_⟩
  unfold eW
  have:(if (decide ((aM s).1=1))=true then(1:Int)else 0)=(aM s).1:=by
   simp only[decide_eq_true_eq]
   split<;>omega
  rw[this]
  exact a2
 len:=fun s=>cH.len s
 use:=fun s h=>by
  unfold oR at h ⊢
  simp only[Bool.or_eq_false_iff]at h ⊢
  exact cH.use s h.1.1
section
variable{α:Type}{d:iL α}{e:α->List UInt8}{R:α->Prop}
theorem AF:∀(k:Nat) (s:fP),s.bad=true->bG d k s=([],s)
 |0,s,_=>rfl
 |k+1,s,h=>by simp[bG,h]
theorem aDU(h:Rt d e R):∀(l:List α) (rest:List UInt8),(∀x∈l,R x)->bG d l.length ⟨l.flatMap e++rest,false⟩=(l,⟨rest,false⟩)
 | [],rest,_=>rfl
 |x::l,rest,hl=>by
  simp only[List.length_cons,bG,yAx,if_false,List.flatMap_cons,yAi]
  rw[h.fwd _ _ (hl x (by simp))]
  simp only
  rw[aDU h l rest (fun y hy=>hl y (by simp[hy]))]
theorem JW(h:Rt d e R):∀(k:Nat) (s:fP),(bG d k s).2.bad=false->s.bad=false/\s.aJ=(bG d k s).1.flatMap e++(bG d k s).2.aJ/\(bG d k s).1.length=k
 |0,s,hs=>⟨hs,by simp[bG],rfl⟩
 |k+1,s,hs=>by
  by_cases hb:s.bad=true
  ·rw[AF _ _ hb]at hs
   rw[hb]at hs
   cases hs
  ·have e:bG d (k+1) s=((d s).1::(bG d k (d s).2).1,(bG d k (d s).2).2):=by simp[bG,hb]
   rw[e]at hs ⊢
   obtain⟨a1,a2,a3⟩:=JW h k (d s).2 hs
   obtain⟨b1,b2⟩:=h.bwd s a1
   refine⟨b1,?_,by simpa using a3⟩
   simp only[List.flatMap_cons,yAi]
   rw[<-a2]
   exact b2
theorem VS(h:Rt d e R):∀(k:Nat) (s:fP),(bG d k s).2.aJ.length<=s.aJ.length
 |0,s=>yAk _
 |k+1,s=>by
  simp only[bG]
  split
  ·exact yAk _
  ·exact Nat.le_trans (VS h k _) (h.len s)
theorem Rt.list(h:Rt d e R):Rt (dList d) (eList e) (fun l=>dF l.length/\∀x∈l,R x) where
 fwd:=fun x rest hx=>by
  unfold dList eList
  simp only[yAi]
  rw[cH.fwd _ _ hx.1]
  simp only[Int.toNat_natCast,Bool.false_or]
  rw[show decide ((x.length:Int)<0)=false from by simp]
  exact aDU h x rest hx.2
 bwd:=fun s hs=>by
  unfold dList at hs ⊢
  simp only at hs ⊢
  obtain⟨a1,a2,a3⟩:=JW h _ _ hs
  simp only[Bool.or_eq_false_iff,decide_eq_false_iff_not]at a1
  obtain⟨b1,b2⟩:=cH.bwd s a1.1
  refine⟨b1,?_⟩
  unfold eList
  simp only[yAi]
  rw[<-a2,a3,Int.toNat_of_nonneg (by omega)]
  exact b2
 len:=fun s=>Nat.le_trans (VS h _ _) (cH.len s)
 use:=fun s hs=>by
  unfold dList at hs ⊢
  simp only at hs ⊢
  obtain⟨a1,_,_⟩:=JW h _ _ hs
  simp only[Bool.or_eq_false_iff]at a1
  have:=cH.use s a1.1
  have:=VS h (aM s).1.toNat ⟨(aM s).2.aJ,(aM s).2.bad||decide ((aM s).1<0)⟩
  simp only at this
  omega
end
theorem C4:Rt sD pI (fun x=>dF x.1/\dF x.2):=cH.seq cH
def N4(r:bM):Prop:=dF r.name.length/\dF r.jN.length/\(dF r.num/\dF r.den)/\dF r.first/\dF r.fJ.length/\∀x∈r.fJ,dF x
theorem GP:Rt jD eT N4:=
 (sI.seq (sI.seq (C4.seq (cH.seq cH.list)))).map (fun x=>bM.mk x.1 x.2.1 x.2.2.1.1 x.2.2.1.2 x.2.2.2.1 x.2.2.2.2) (fun r=>(r.name,r.jN,(r.num,r.den),r.first,r.fJ)) (fun _=>rfl) (fun _=>rfl)
def aDV(r:fA):Prop:=dF r.aR/\dF r.shift
theorem C5:Rt jE jJ aDV:=(cH.seq cH).map (fun x=>fA.mk x.1 x.2) (fun r=>(r.aR,r.shift)) (fun _=>rfl) (fun _=>rfl)
def GI(r:fY):Prop:=dF r.lo/\dF r.hi/\dF r.nO.length/\∀x∈r.nO,aDV x
theorem C6:Rt jF iT GI:=(cH.seq (cH.seq C5.list)).map (fun x=>fY.mk x.1 x.2.1 x.2.2) (fun r=>(r.lo,r.hi,r.nO)) (fun _=>rfl) (fun _=>rfl)
def N5(r:dG):Prop:=dF r.name.length/\(dF r.num/\dF r.den)/\dF r.fK.length/\∀x∈r.fK,GI x
theorem yG:Rt jG fE N5:=(sI.seq (C4.seq C6.list)).map (fun x=>dG.mk x.1 x.2.1.1 x.2.1.2 x.2.2) (fun r=>(r.name,(r.num,r.den),r.fK)) (fun _=>rfl) (fun _=>rfl)
def N6(r:cU):Prop:=dF r.name.length/\True/\dF r.low/\dF r.high/\dF r.stops.length/\∀x∈r.stops,N5 x
theorem C7:Rt jH eX N6:=(sI.seq (yF.seq (cH.seq (cH.seq yG.list)))).map (fun x=>cU.mk x.1 x.2.1 x.2.2.1 x.2.2.2.1 x.2.2.2.2) (fun r=>(r.name,r.oL,r.low,r.high,r.stops)) (fun _=>rfl) (fun _=>rfl)
def N8(r:cF):Prop:=dF r.name.length/\dF r.nN/\dF r.dst/\dF r.shift/\True
theorem AG:Rt jI fI N8:=(sI.seq (cH.seq (cH.seq (cH.seq yF)))).map (fun x=>cF.mk x.1 x.2.1 x.2.2.1 x.2.2.2.1 x.2.2.2.2) (fun r=>(r.name,r.nN,r.dst,r.shift,r.vQ)) (fun _=>rfl) (fun _=>rfl)
def pM(r:bY):Prop:=dF r.name.length/\(dF r.aX.length/\∀x∈r.aX,N4 x)/\(dF r.cM.length/\∀x∈r.cM,N6 x)/\dF r.iM.length/\∀x∈r.iM,N8 x
theorem GD:Rt iG aW pM:=(sI.seq (GP.list.seq (C7.list.seq AG.list))).map (fun x=>bY.mk x.1 x.2.1 x.2.2.1 x.2.2.2) (fun r=>(r.name,r.aX,r.cM,r.iM)) (fun _=>rfl) (fun _=>rfl)
end
end Go.Kz
namespace Go.Kz
open Go Go.Proofs
set_option maxRecDepth 100000
section
variable{E:aD}(hU:aI E)
include hU
theorem aNo(h0:E 90=none)(n:Nat)(hn:0<n)(hl:n<=1000000000)(τ:List aB):aN prog E 0 (.inl 90) [.slice 0 [] .full,.int .i64 n] τ (fun p σ'=>p=.aF τ.length 0 0 0 1/\σ'=τ++[.row 5 1 0 (List.replicate n (.int .u8 0))]):=by
 have hz:∀σ,yR prog 27 σ 30 (.slice 0 [] .full) (n:Int)=some (.aF σ.length 0 0 n 1,σ++[.row 5 1 0 (List.replicate n (.int .u8 0))]):=fun σ=>by
  have hb:p6 prog 30=true:=by decide +kernel
  have ht:iF 30 27=true:=by decide
  unfold yR
  rw[underlying30]
  simp only[hb,ht,true_and]
  rw[if_pos ⟨by omega,by omega⟩,Int.toNat_natCast]
 have hs:∀id,pZ prog 30 (.aF id 0 0 n 1) none (some (some (.int .i64 0))) none=some (.aF id 0 0 0 1):=fun id=>by
  have hp:bT prog 5=some 1:=by kernel_rfl
  unfold pZ
  simp[underlying30,hp,lF,iQ]
 apply aN.aK h0 func90 rfl
 focus(simp[show Tryz.f90.ntmps=_ from rfl,List.replicate];rfl)
 have gx:=True.intro
 refine aC ?_
 clear gx
 first
  |(refine Wp.seq ?_;apply Wp.cond)
  |apply Wp.cond
 (focus(simp(disch:=first|omega|(simp;done)|(simp;omega)) [hn];first|done|rfl))
 intro _
 apply WL.PM (by decide +kernel)
 iterate 28 (first
   |(refine Fr.i ?_;simp only[bE,List.set_cons_zero,List.set_cons_succ];try rfl)
   |(refine By.i ?_;(focus(simp(disch:=first|omega|(simp;done)|(simp;omega)) [wrap_i64,wrap_u64,hn,hz];first|done|rfl|exact⟨rfl,rfl⟩)))
   |(refine Wt.i ?_;first|rfl|(focus(simp[hn];done)))|rfl|apply SL.move|apply SL.assign|apply SL.binOp|apply SL.slice|apply SL.append|skip)
 apply SL.builtin (b:=.cap)
 iterate 16 (first
   |(refine Fr.i ?_;simp only[bE,List.set_cons_zero,List.set_cons_succ];try rfl)
   |(refine By.i ?_;(focus(simp(disch:=first|omega|(simp;done)|(simp;omega)) [wrap_i64,wrap_u64,hn,hz];first|done|rfl|exact⟨rfl,rfl⟩)))
   |(refine Wt.i ?_;first|rfl|(focus(simp[hn];done)))|rfl|apply SL.move|apply SL.assign|apply SL.binOp|apply SL.slice|apply SL.append|skip)
 apply SL.K7
 focus decide +kernel
 iterate 5 (first
   |(refine Fr.i ?_;simp only[bE,List.set_cons_zero,List.set_cons_succ];try rfl)
   |(refine By.i ?_;(focus(simp(disch:=first|omega|(simp;done)|(simp;omega)) [wrap_i64,wrap_u64,hn,hz];first|done|rfl|exact⟨rfl,rfl⟩)))
   |(refine Wt.i ?_;first|rfl|(focus(simp[hn];done)))|rfl|skip)
 have gx:=@hs
 refine aC ?_
 clear gx
 exact⟨_,_,rfl,rfl,rfl⟩
 intro h
 cases h
end
section
def aG(l:List UInt8):List PD:=l.map fun b=>.int .u8 b.toNat
@[simp] theorem iD(l:List UInt8):(aG l).length=l.length:=by simp[aG]
def bV(σ:List aB)(id:Nat)(s:fP):Prop:=∃z,(s.aJ=[]\/z=1)/\σ[id]?=some (.box (.agg [.slice z (aG s.aJ) .any,.bool s.bad]))
def lL{α:Type}(d:iL α)(em:α->PD)(id:Nat)(s:fP)(σ:List aB)(p:PD)(σ':List aB):Prop:=
 p.strip=em (d s).1/\bV σ' id (d s).2/\σ.length<=σ'.length/\∀j,j<σ.length->j≠id->σ'[j]?=σ[j]?
theorem aDR:∀(l:List UInt8) (b:UInt8),le (l++[b])=le l+b.toNat*256^l.length
 | [],b=>by simp[le]
 |x::l,b=>by
  have ih:=aDR l b
  simp only[List.cons_append,le,List.length_cons]
  rw[ih,Nat.pow_succ,<-Nat.mul_assoc]
  generalize b.toNat*256^l.length=Q
  omega
theorem aNw(l:List UInt8)(i:Nat)(hi:i<8)(hl:i<l.length):∃K:Nat,BK .shl .u64 (l[i].toNat:Int) (8*(i:Int))=some (.int .u64 (K:Int))/\wA .or .u64 ((le (l.take i):Nat):Int) (K:Int)=some (((le (l.take i):Nat):Int)+(K:Int))/\le (l.take i)+K=le (l.take (i+1)):=by
 have hb:=l[i].toNat_lt
 have hN:=JV (l.take i)
 rw[yAt,Nat.min_eq_left (by omega)]at hN
 have hT:le (l.take (i+1))=le (l.take i)+l[i].toNat*256^i:=by
  rw[List.take_succ,yAh hl]
  simp only[Option.toList]
  rw[aDR,yAt,Nat.min_eq_left (by omega)]
 obtain⟨N,hN0⟩:=gn (le (l.take i))
 rw[hN0]at hN hT ⊢
 obtain⟨b,hb0⟩:=gn (l[i].toNat)
 rw[hb0]at hb hT ⊢
 have hp:(256:Nat)^i=2^(8*i):=by rw[Nat.pow_mul]
 have hle:256^i<=256^7:=Nat.pow_le_pow_right (by decide) (by omega)
 have hK:b*256^i<18446744073709551616:=by
  have h1:b*256^i<=255*256^7:=Nat.mul_le_mul (by omega) hle
  have h2:(255*256^7:Nat)<18446744073709551616:=by decide
  omega
 have hNl:N<18446744073709551616:=by
  have h2:(256^7:Nat)<18446744073709551616:=by decide
  omega
 refine⟨b*256^i,?_,?_,hT.symm⟩
 ·unfold BK
  rw[if_neg (by omega)]
  have e1:(8*(i:Int)).toNat=8*i:=by omega
  have e2:min (8*i) IntKind.u64.bits=8*i:=by
   have:IntKind.u64.bits=64:=rfl
   omega
  simp only[e1,e2]
  rw[show(b:Int)*2^(8*i)=((b*256^i:Nat):Int) by rw[hp];push_cast;rfl]
  generalize b*256^i=K at hK ⊢
  rw[wrap_u64 (by omega) (by omega)]
 ·have hs:b*256^i=b <<< (8*i):=by rw[hp,Nat.shiftLeft_eq]
  have hor:N ||| (b*256^i)=N+b*256^i:=by
   rw[hs,Nat.or_comm,<-Nat.shiftLeft_add_eq_or_of_lt (by rw[<-hp];exact hN),Nat.add_comm]
  have hsum:N+b*256^i<18446744073709551616:=by
   have h1:b*256^i<=255*256^i:=Nat.mul_le_mul_right _ (by omega)
   have h2:(256^8:Nat)=18446744073709551616:=by decide
   have h3:(256:Nat)^i*256<=256^7*256:=Nat.mul_le_mul_right _ hle
   have h4:(256^7*256:Nat)=18446744073709551616:=by decide
   omega
  generalize b*256^i=K at hK hor hsum ⊢
  unfold wA
  simp only[yAb]
  have e1:(BitVec.ofInt IntKind.u64.bits (N:Int) ||| BitVec.ofInt IntKind.u64.bits (K:Int)).toNat=N+K:=by
   rw[BitVec.toNat_or]
   have a1:(BitVec.ofInt IntKind.u64.bits (N:Int)).toNat=N:=by
    show(BitVec.ofInt 64 (N:Int)).toNat=N
    rw[BitVec.toNat_ofInt];omega
   have a2:(BitVec.ofInt IntKind.u64.bits (K:Int)).toNat=K:=by
    show(BitVec.ofInt 64 (K:Int)).toNat=K
    rw[BitVec.toNat_ofInt];omega
   rw[a1,a2,hor]
  rw[e1,wrap_u64 (by omega) (by omega)]
  rfl
variable{E:aD}(hU:aI E)
include hU
theorem aJl(h0:E 100=none)(τ:List aB)(id:Nat)(s:fP)(hr:bV τ id s)(hl:s.aJ.length<=1000000000) :
  aN prog E 0 (.inl 100) [.ptr id 0] τ (lL aM i64.U id s τ):=by
 obtain⟨z,hz,hb⟩:=hr
 obtain⟨hlt,hg⟩:=yA.1 hb
 have hle:=iD s.aJ
 obtain⟨xs,hxs⟩:=gn (aG s.aJ)
 rw[hxs]at hb hg hle
 by_cases c1:s.bad=true
 ·rw[c1]at hb hg
  apply aN.aK h0 func100 rfl
  focus(simp[show Tryz.f100.ntmps=_ from rfl,List.replicate];rfl)
  have gx:=An @hb (@hg)
  refine aC ?_
  clear gx
  obtain⟨ρ9,rL⟩:=gn (τ.set id (.box (.agg [.slice z xs .any,.bool true])))
  rw[rL]
  have e:aM s=(0,⟨s.aJ,true⟩):=by unfold aM;rw[if_pos (.inl c1)]
  refine⟨_,_,rfl,?_⟩
  unfold lL
  rw[e]
  refine⟨rfl,⟨z,hz,by rw[<-rL,hxs];exact yAj hlt⟩,by rw[<-rL,yBd];omega,fun j _ hj=>by rw[<-rL,yAd (Ne.symm hj)]⟩
 have sF:s.bad=false:=by simpa using c1
 rw[sF]at hb hg
 by_cases c2:s.aJ.length<8
 ·have c3:(xs.length:Int)<8:=by omega
  have c4:(s.aJ.length:Int)<8:=by omega
  apply aN.aK h0 func100 rfl
  focus(simp[show Tryz.f100.ntmps=_ from rfl,List.replicate];rfl)
  have gx:=An @hb (An @hg (@c3))
  refine aC ?_
  clear gx
  obtain⟨ρ9,rL⟩:=gn (τ.set id (.box (.agg [.slice z xs .any,.bool true])))
  rw[rL]
  have e:aM s=(0,⟨s.aJ,true⟩):=by unfold aM;rw[if_pos (.inr c2)]
  refine⟨_,_,rfl,?_⟩
  unfold lL
  rw[e]
  refine⟨rfl,⟨z,hz,by rw[<-rL,hxs];exact yAj hlt⟩,by rw[<-rL,yBd];omega,fun j _ hj=>by rw[<-rL,yAd (Ne.symm hj)]⟩
 have c3:¬(xs.length:Int)<8:=by omega
 apply aN.aK h0 func100 rfl
 focus(simp[show Tryz.f100.ntmps=_ from rfl,List.replicate];rfl)
 have gx:=An @hb (An @hg (@c3))
 refine aC ?_
 clear gx
 have z1:z=1:=by
  rcases hz with h|h
  ·rw[h]at c2;simp at c2
  ·exact h
 subst z1
 refine Wp.cJ (fun m fr σ=>∃(i:Nat) (N:Nat),∃gg:Nat->PD,(i+m=8/\N=le (s.aJ.take i))/\fr=[.ptr id 0,gg 1,gg 2,.int .u64 N,gg 4,gg 5,gg 6,gg 7,gg 8,gg 9,gg 10,gg 11,gg 12,gg 13,gg 14,gg 15,gg 16,gg 17,gg 18,gg 19,.int .i64 i,gg 21,gg 22,gg 23,gg 24,gg 25,gg 26,gg 27,gg 28,gg 29,gg 30,gg 31,gg 32,gg 33,gg 34,gg 35,gg 36,gg 37,gg 38,gg 39,gg 40,gg 41,gg 42,gg 43,gg 44,gg 45,gg 46]/\σ=τ) ?_ (8) (by refine⟨0,0,?_⟩;exact bW (⟨by omega,rfl⟩))
 rintro m fr σ ⟨i,N,gg,hI,rfl,rfl⟩
 obtain⟨hm,hN⟩:=hI
 by_cases hi:i<8
 ·have q1:(i:Int)<8:=by omega
  have hii:i<s.aJ.length:=by omega
  obtain⟨K,f1,f2,f3⟩:=aNw s.aJ i hi hii
  have hx:xs[i]?=some (.int .u8 (s.aJ[i].toNat:Int)):=by
   rw[<-hxs]
   unfold aG
   rw[yAo,yAh hii]
   rfl
  rw[<-hN]at f2 f3
  obtain⟨hix,hx2⟩:=yA.1 hx
  have AE:=s.aJ[i].toNat_lt
  obtain⟨b,hb0⟩:=gn (s.aJ[i].toNat)
  rw[hb0]at hx f1 hx2 AE
  have w1:IntKind.u64.wrap (b:Int)=b:=wrap_u64 (by omega) (by omega)
  have gx:=An @q1 (An @hb (An @hg (An @hx (An @hix (An @hx2 (An @w1 (An @f1 (@f2))))))))
  refine aC ?_
  clear gx
  refine bP.normal (m-1) (by omega) (by refine⟨i+1,N+K,?_⟩;exact bW (⟨by omega,by omega⟩))
 ·have q1:¬(i:Int)<8:=by omega
  have gx:=An @q1 (An @hb (@hg))
  refine aC ?_
  clear gx
  have hi8:i=8:=by omega
  subst hi8
  have hN0:N<18446744073709551616:=by
   have:=JV (s.aJ.take 8)
   rw[yAt,Nat.min_eq_left (by omega),<-hN]at this
   exact this
  have hw:IntKind.i64.wrap (N:Int)=dI (s.aJ.take 8):=by
   unfold dI
   rw[<-hN,IntKind.wrap_i64]
   split<;>omega
  have hd:(xs.drop 8).take (xs.length-8)=aG (s.aJ.drop 8):=by
   rw[yAz (by simp),<-hxs]
   unfold aG
   rw[List.map_drop]
  rw[hd]
  obtain⟨ρ9,rL⟩:=gn (σ.set id (.box (.agg [.slice 1 (aG (s.aJ.drop 8)) .any,.bool false])))
  have e:aM s=(dI (s.aJ.take 8),⟨s.aJ.drop 8,false⟩):=by unfold aM;rw[if_neg (by simp[sF];omega)]
  rw[rL,hw]
  refine⟨_,_,rfl,?_⟩
  unfold lL
  rw[e]
  refine⟨rfl,⟨1,.inr rfl,by rw[<-rL];exact yAj hlt⟩,by rw[<-rL,yBd];omega,fun j _ hj=>by rw[<-rL,yAd (Ne.symm hj)]⟩
end
end Go.Kz
namespace Go.Kz
open Go Go.Proofs
def aO(P:Program)(E:aD)(f:FuncId):Nat->List PD->List aB->Option (PD×List aB):=fun fl args σ=>if fl=0 then(match yD P E f 0 args σ with|some r=>some (r.1.strip,r.2)|none=>none)else none
theorem aN.st{P:Program}{E:aD}{f:FuncId}{args:List PD}{σ:List aB}{R:PD->List aB->Prop}(h:aN P E 0 (.inl f) args σ R)(kJ:σ≠[]):∃p σ',aO P E f 0 args σ=some (p.strip,σ')/\R p σ':=by
 obtain⟨p,σ',h1,h2⟩:=h.es kJ
 exact⟨p,σ',by unfold aO;rw[if_pos rfl,h1],h2⟩
theorem aE.eJ{P:Program}{E:aD}(hE:aE P E)(hP:P.follows .mixedOrders=true)(f:FuncId):aE P (E.add f (aO P E f)):=
 hE.aDP hP fun fl args σ p σ' h c vs _ hv=>by
  unfold aO at h
  split at h
  rotate_left
  ·cases h
  rename_i e
  subst e
  split at h
  rotate_left
  ·cases h
  rename_i r hr
  simp only[yAb,yAc]at h
  obtain⟨rfl,rfl⟩:=h
  unfold yD at hr
  split at hr
  rotate_left
  ·cases hr
  rename_i hx
  simp only[yAb]at hr
  have h1:=(Classical.choose_spec hx).1
  rw[hr]at h1
  exact⟨args,r.1,hv,h1,fun _ _ h=>h.strip⟩
theorem aI.st{P:Program}{E E0:aD}(hU:aI E){f:FuncId}:aI (E.add f (aO P E0 f)):=hU.other fun args p h=>by
 unfold aO yD at h
 rw[if_pos rfl,dif_neg (fun hx=>hx.choose_spec.2 rfl)]at h
 cases h
def j9{α:Type}(E:aD)(f:FuncId)(A:Nat->List PD)(d:iL α)(em:α->PD):Prop:=∀(τ:List aB) (id:Nat) (s:fP),bV τ id s->s.aJ.length<=1000000000->aN prog E 0 (.inl f) (A id) τ (lL d em id s τ)
abbrev kF:Nat->List PD:=fun id=>[.ptr id 0]
abbrev gO(f:FuncId):Nat->List PD:=fun id=>[.ptr id 0,.dA f [.ptr id 0]]
abbrev Reads{α:Type}(E:aD)(f:FuncId)(d:iL α)(em:α->PD):Prop:=j9 E f kF d em
theorem j9.at{α:Type}{E:aD}{f:FuncId}{A:Nat->List PD}{d:iL α}{em:α->PD}(h:j9 E f A d em){τ:List aB}{id:Nat}{s:fP}(hr:bV τ id s)(hl:s.aJ.length<=1000000000) :
  ∃yE,aO prog E f 0 (A id) τ=some (em (d s).1,yE)/\bV yE id (d s).2/\τ.length<=yE.length/\∀j,j<τ.length->j≠id->yE[j]?=τ[j]?:=by
 have hne:τ≠[]:=fun e=>by
  obtain⟨z,_,hb⟩:=hr
  rw[e]at hb
  simp at hb
 obtain⟨p,yE,h1,h2,h3⟩:=(h τ id s hr hl).st hne
 exact⟨yE,by rw[h1,h2],h3⟩
theorem bV.dH{τ yE:List aB}{id:Nat}{s:fP}(h:bV τ id s)(hk:yE[id]?=τ[id]?):bV yE id s:=by
 obtain⟨z,h1,h2⟩:=h
 exact⟨z,h1,by rw[hk];exact h2⟩
theorem bV.lt{τ:List aB}{id:Nat}{s:fP}(h:bV τ id s):id<τ.length:=by
 obtain⟨z,h1,h2⟩:=h
 exact(yA.1 h2).1
theorem bV.more{τ L:List aB}{id:Nat}{s:fP}(h:bV τ id s):bV (τ++L) id s:=h.dH (yAg h.lt)
structure Kp (τ σ:List aB) (id B:Nat) (X:PD):Prop where
 lt:B<σ.length
 fr:∀j,j<B->j≠id->σ[j]?=τ[j]?
 bx:σ[B]?=some (.box X)
theorem Kp.new{τ:List aB}{id:Nat}{X:PD}:Kp τ (τ++[.box X]) id τ.length X:=⟨by simp,fun j h _=>yAg h,by simp⟩
theorem Kp.set{τ σ:List aB}{id B:Nat}{X:PD}(h:Kp τ σ id B X)(Y:PD):Kp τ (σ.set B (.box Y)) id B Y:=⟨by rw[yBd];exact h.lt,fun j hj hn=>by rw[yAd (by omega)];exact h.fr j hj hn,yAj h.lt⟩
theorem bV.gQ{σ:List aB}{id B:Nat}{s:fP}{Y:aB}(h:bV σ id s)(hn:id<B):bV (σ.set B Y) id s:=h.dH (yAd (by omega))
theorem Kp.at{τ σ:List aB}{id B:Nat}{X:PD}(h:Kp τ σ id B X):∃hw:B<σ.length,σ[B]=.box X:=yA.1 h.bx
theorem j9.next{α:Type}{E:aD}{f:FuncId}{A:Nat->List PD}{d:iL α}{em:α->PD}(h:j9 E f A d em){τ σ:List aB}{id B:Nat}{X:PD}{s:fP}(hk:Kp τ σ id B X)(hr:bV σ id s)(hl:s.aJ.length<=1000000000)(hn:id<B) :
  ∃σ',aO prog E f 0 (A id) σ=some (em (d s).1,σ')/\Kp τ σ' id B X/\bV σ' id (d s).2:=by
 obtain⟨σ',h1,h2,h3,h4⟩:=h.at hr hl
 exact⟨σ',h1,⟨by have:=hk.lt;omega,fun j hj hn=>by rw[h4 j (by have:=hk.lt;omega) hn];exact hk.fr j hj hn,by rw[h4 B hk.lt (by omega)];exact hk.bx⟩,h2⟩
theorem aNv{α:Type}(em:Em α)(l:List α):(l.map em.U).map PD.strip=l.map em.U:=by
 rw[List.map_map]
 exact yBg fun x _=>em.str x
theorem rK{α:Type}(em:Em α)(k z:Nat)(l:List α)(hz:l=[]\/z=k)(tok:Tok):PD.strip (.slice z (l.map em.U) tok)=(em.list k).U l:=by
 rw[PD.lG,aNv,bJ,yAe]
 unfold sz
 rcases hz with h|h
 ·subst h;rfl
 ·subst h;rfl
end Go.Kz
namespace Go.Kz
open Go Go.Proofs
set_option maxRecDepth 100000
section
theorem zU:∀l:List UInt8,rO (aG l)=some l
 | []=>rfl
 |b::r=>by
  have ih:=zU r
  unfold aG at ih ⊢
  simp only[List.map_cons,rO,ih]
  simp
theorem bV.put{τ:List aB}{id:Nat}(h:id<τ.length){z:Nat}(aJ:List UInt8)(bad:Bool)(hz:aJ=[]\/z=1):bV (τ.set id (.box (.agg [.slice z (aG aJ) .any,.bool bad]))) id ⟨aJ,bad⟩:=
 ⟨z,hz,yAj h⟩
def cA.CE:cA (Int×Int):=((cA.one i64).pair (.one i64)).mA (fun r=>(r.1,r.2)) (fun x y h=>by cases x;cases y;simpa using h)
def Em.CE:Em (Int×Int):=.agg .CE
@[simp] theorem aS8{r:Int×Int}:Em.CE.U r=.agg [.int .i64 r.1,.int .i64 r.2]:=rfl
variable{E E0:aD}(hU:aI E)
include hU
theorem aJn(h0:E 71=none)(h1:E 100=some (aO prog E0 100))(H:Reads E0 100 aM i64.U):Reads E 71 iB PD.str:=by
 intro τ id s hr hl
 have hidt:=hr.lt
 obtain⟨jL,k1,r1,l1,f1⟩:=H.at hr hl
 have hd:iB s=(if (aM s).2.bad=true\/(aM s).1<0\/((aM s).2.aJ.length:Int)<(aM s).1 then([],⟨(aM s).2.aJ,true⟩)else((aM s).2.aJ.take (aM s).1.toNat,⟨(aM s).2.aJ.drop (aM s).1.toNat,false⟩)):=rfl
 have aDQ:=cH.len s
 have hrg:=aNu s
 obtain⟨n,hn⟩:=gn ((aM s).1)
 obtain⟨s1,hs1⟩:=gn ((aM s).2)
 rw[hn]at k1 hd hrg
 rw[hs1]at r1 hd aDQ
 have k1:aO prog E0 100 0 [.ptr id 0] τ=some (.int .i64 n,jL):=k1
 unfold lL
 obtain⟨z,hz,hb⟩:=r1
 obtain⟨hlt,hg⟩:=yA.1 hb
 have hle:=iD s1.aJ
 obtain⟨aJ,bad⟩:=s1
 simp only at hz hb hle hd aDQ hg
 have bwrite:∀Y,(τ.length<=(jL.set id Y).length/\∀j,j<τ.length->j≠id->(jL.set id Y)[j]?=τ[j]?):=fun Y=>⟨by rw[yBd];exact l1,fun j hj hne=>by rw[yAd (Ne.symm hne)];exact f1 j hj hne⟩
 by_cases c1:bad=true
 ·subst c1
  rw[if_pos (.inl rfl)]at hd
  rw[hd]
  have hp:=bV.put hlt aJ true hz
  obtain⟨xs,hxs⟩:=gn (aG aJ)
  rw[hxs]at hb hg hp
  apply aN.aK h0 func71 rfl
  focus(simp[show Tryz.f71.ntmps=_ from rfl,List.replicate];rfl)
  have gx:=An @h1 (An @k1 (An @hb (@hg)))
  refine aC ?_
  clear gx
  exact⟨_,_,rfl,rfl,hp,bwrite _⟩
 have sF:bad=false:=by simpa using c1
 subst sF
 by_cases c2:n<0
 ·rw[if_pos (.inr (.inl c2))]at hd
  rw[hd]
  have hp:=bV.put hlt aJ true hz
  obtain⟨xs,hxs⟩:=gn (aG aJ)
  rw[hxs]at hb hg hp
  apply aN.aK h0 func71 rfl
  focus(simp[show Tryz.f71.ntmps=_ from rfl,List.replicate];rfl)
  have gx:=An @h1 (An @k1 (An @hb (An @hg (@c2))))
  refine aC ?_
  clear gx
  exact⟨_,_,rfl,rfl,hp,bwrite _⟩
 by_cases c3:(aJ.length:Int)<n
 ·rw[if_pos (.inr (.inr c3))]at hd
  rw[hd]
  have hp:=bV.put hlt aJ true hz
  obtain⟨xs,hxs⟩:=gn (aG aJ)
  rw[hxs]at hb hg hp hle
  have JJ:(xs.length:Int)<n:=by omega
  apply aN.aK h0 func71 rfl
  focus(simp[show Tryz.f71.ntmps=_ from rfl,List.replicate];rfl)
  have gx:=An @h1 (An @k1 (An @hb (An @hg (An @c2 (@JJ)))))
  refine aC ?_
  clear gx
  exact⟨_,_,rfl,rfl,hp,bwrite _⟩
 rw[if_neg (by simp[c2,c3])]at hd
 rw[hd]
 obtain⟨k,rfl⟩:∃k:Nat,n=k:=⟨n.toNat,by omega⟩
 rw[Int.toNat_natCast]
 have hk:k<=aJ.length:=by omega
 by_cases MI:aJ=[]
 ·subst MI
  have zG:k=0:=by simpa using hk
  subst zG
  have hp:=bV.put (z:=z) hlt [] false (.inl rfl)
  simp only[aG,List.map_nil]at hb hg hp
  apply aN.aK h0 func71 rfl
  focus(simp[show Tryz.f71.ntmps=_ from rfl,List.replicate];rfl)
  have gx:=An @h1 (An @k1 (An @hb (An @hg (@c2))))
  refine aC ?_
  clear gx
  exact⟨_,_,rfl,rfl,hp,bwrite _⟩
 have z1:z=1:=hz.resolve_left MI
 subst z1
 have hp:=bV.put (z:=1) hlt (aJ.drop k) false (.inr rfl)
 have e1:(aG aJ).take k=aG (aJ.take k):=by unfold aG;rw[List.map_take]
 have e2:(aG aJ).drop k=aG (aJ.drop k):=by unfold aG;rw[List.map_drop]
 have e3:=zU (aJ.take k)
 rw[<-e1]at e3
 rw[<-e2]at hp
 obtain⟨xs,hxs⟩:=gn (aG aJ)
 rw[hxs]at hb hg hp hle e3
 have JJ:¬(xs.length:Int)<(k:Int):=by omega
 have c4:k<=xs.length:=by omega
 have e5:(xs.drop k).take (xs.length-k)=xs.drop k:=yAz (by simp)
 rw[<-e5]at hp
 apply aN.aK h0 func71 rfl
 focus(simp[show Tryz.f71.ntmps=_ from rfl,List.replicate];rfl)
 have gx:=An @h1 (An @k1 (An @hb (An @hg (An @c2 (An @JJ (An @c4 (@e3)))))))
 refine aC ?_
 clear gx
 exact⟨_,_,rfl,rfl,hp,bwrite _⟩
theorem aJp(h0:E 103=none)(h1:E 100=some (aO prog E0 100))(H:Reads E0 100 aM i64.U):Reads E 103 oR PD.bool:=by
 intro τ id s hr hl
 have hidt:=hr.lt
 obtain⟨jL,k1,r1,l1,f1⟩:=H.at hr hl
 have hd:oR s=(decide ((aM s).1=1),⟨(aM s).2.aJ,(aM s).2.bad||decide ((aM s).1<0)||decide (1<(aM s).1)⟩):=rfl
 obtain⟨n,hn⟩:=gn ((aM s).1)
 obtain⟨s1,hs1⟩:=gn ((aM s).2)
 rw[hn]at k1 hd
 rw[hs1]at r1 hd
 have k1:aO prog E0 100 0 [.ptr id 0] τ=some (.int .i64 n,jL):=k1
 unfold lL
 rw[hd]
 obtain⟨z,hz,hb⟩:=r1
 obtain⟨hlt,hg⟩:=yA.1 hb
 obtain⟨aJ,bad⟩:=s1
 simp only at hz hb hg ⊢
 have bwrite:∀Y,(τ.length<=(jL.set id Y).length/\∀j,j<τ.length->j≠id->(jL.set id Y)[j]?=τ[j]?):=fun Y=>⟨by rw[yBd];exact l1,fun j hj hne=>by rw[yAd (Ne.symm hne)];exact f1 j hj hne⟩
 have hp:=bV.put hlt aJ (bad||decide (n<0)||decide (1<n)) hz
 obtain⟨xs,hxs⟩:=gn (aG aJ)
 rw[hxs]at hb hg hp
 by_cases c1:bad=true
 ·subst c1
  apply aN.aK h0 func103 rfl
  focus(simp[show Tryz.f103.ntmps=_ from rfl,List.replicate];rfl)
  have gx:=An @h1 (An @k1 (An @hb (@hg)))
  refine aC ?_
  clear gx
  exact⟨_,_,rfl,rfl,hp,bwrite _⟩
 have sF:bad=false:=by simpa using c1
 subst sF
 by_cases c2:n<0
 ·have e:(false||decide (n<0)||decide (1<n))=true:=by simp[c2]
  rw[e]at hp ⊢
  apply aN.aK h0 func103 rfl
  focus(simp[show Tryz.f103.ntmps=_ from rfl,List.replicate];rfl)
  have gx:=An @h1 (An @k1 (An @hb (An @hg (@c2))))
  refine aC ?_
  clear gx
  exact⟨_,_,rfl,rfl,hp,bwrite _⟩
 have e:(false||decide (n<0)||decide (1<n))=decide (1<n):=by simp[c2]
 rw[e]at hp ⊢
 apply aN.aK h0 func103 rfl
 focus(simp[show Tryz.f103.ntmps=_ from rfl,List.replicate];rfl)
 have gx:=An @h1 (An @k1 (An @hb (An @hg (@c2))))
 refine aC ?_
 clear gx
 exact⟨_,_,rfl,rfl,hp,bwrite _⟩
theorem aJr(h0:E 101=none)(h1:E 100=some (aO prog E0 100))(H:Reads E0 100 aM i64.U):Reads E 101 sD Em.CE.U:=by
 intro τ id s hr hl
 have hid:=hr.lt
 have K0:Kp τ (τ++[.box (.agg [.int .i64 0,.int .i64 0])]) id τ.length (.agg [.int .i64 0,.int .i64 0]):=Kp.new
 have R0:bV (τ++[.box (.agg [.int .i64 0,.int .i64 0])]) id s:=hr.more
 obtain⟨σ1,k1,K1,R1⟩:=H.next K0 R0 hl hid
 have l1:=cH.len s
 obtain⟨σ2,k2,K2,R2⟩:=H.next K1 R1 (by omega) hid
 have e:sD s=(((aM s).1,(aM (aM s).2).1),(aM (aM s).2).2):=rfl
 obtain⟨a,ha⟩:=gn ((aM s).1)
 obtain⟨b,hb⟩:=gn ((aM (aM s).2).1)
 obtain⟨s2,hs2⟩:=gn ((aM (aM s).2).2)
 rw[ha,hb,hs2]at e
 rw[ha]at k1
 rw[hb]at k2
 rw[hs2]at R2
 replace k1:=k1.trans (show _=some (.int .i64 a,σ1)from rfl)
 replace k2:=k2.trans (show _=some (.int .i64 b,σ2)from rfl)
 have b2:=K2.bx
 obtain⟨w2,z2⟩:=K2.at
 simp only[kF]at k1 k2
 apply aN.aK h0 func101 rfl
 focus(simp[show Tryz.f101.ntmps=_ from rfl,List.replicate];rfl)
 have gx:=An @h1 (An @k1 (An @k2 (An @b2 (An @w2 (@z2)))))
 refine aC ?_
 clear gx
 have KK:=K2.set (.agg [.int .i64 a,.int .i64 b])
 have RR:=R2.gQ (Y:=.box (.agg [.int .i64 a,.int .i64 b])) hid
 refine⟨.agg [.int .i64 a,.int .i64 b],σ2.set τ.length (.box (.agg [.int .i64 a,.int .i64 b])),by simp[fR,w2],?_⟩
 unfold lL
 rw[e]
 exact⟨rfl,RR,Nat.le_of_lt KK.lt,fun j h1 h2=>KK.fr j h1 h2⟩
end
def jK(σ:List aB)(p:PD)(bs:List UInt8):Prop:=(bs=[]/\p=.slice 0 [] .full)\/(bs≠[]/\∃k v,p=.aF k v 0 bs.length 1/\σ[k]?=some (.row 5 1 v (aG bs)))
def kW(p:PD)(id:Nat):Prop:=∃v off n s,p=.aF id v off n s
theorem JS(a b:List UInt8):aG (a++b)=aG a++aG b:=by simp[aG]
theorem GO:∀l:List UInt8,(aG l).flatMap PD.cells=aG l
 | []=>rfl
 |b::r=>by
  have ih:=GO r
  unfold aG at ih ⊢
  simp only[List.map_cons,List.flatMap_cons,ih]
  rfl
theorem JR:∃i,prog.info? 5=some i/\i.zero=some (.int .u8 0)/\i.size=1/\i.bytes=1:=⟨_,rfl,rfl,rfl,rfl⟩
theorem aDK{n:Nat}(ht:iF 30 n=true){σ:List aB}{p x:PD}{bs ys:List UInt8}{z:Nat}{Y:List PD}(hx:mY σ x=some (z,Y))(hYl:Y.length=ys.length)(hYc:Y.flatMap PD.cells=aG ys)(ho:jK σ p bs)(hz:ys=[]\/z=1)(hl:(bs++ys).length<=1000000000) :
  ∃p' σ',dS prog n 0 σ 30 p x=some (p',σ')/\jK σ' p' (bs++ys)/\σ.length<=σ'.length/\(∀id o,¬kW p id->σ[id]?=some o->σ'[id]?=some o)/\(∀id,kW p' id->kW p id\/id=σ.length):=by
 obtain⟨i,hi,hiz,his,hib⟩:=JR
 have hyl:Y.length=ys.length:=hYl
 have hone:(Value.int IntKind.u8 0).cells.toList.all Value.oneCell'=true:=rfl
 have hcs:(Value.int IntKind.u8 0).cells.size=1:=rfl
 have rY:Y.length=0\/z=i.size:=by
  rcases hz with h|h
  ·exact .inl (by rw[hYl,h];rfl)
  ·exact .inr (by rw[h,his])
 rw[yAa]at hl
 have dT:(Y.length=0\/z=i.size)/\0<i.size/\(Value.int IntKind.u8 0).cells.size=i.size/\(Value.int IntKind.u8 0).cells.toList.all Value.oneCell'=true:=⟨rY,by omega,by rw[his];rfl,hone⟩
 rcases ho with⟨rfl,rfl⟩ | ⟨hne,k,v,rfl,hk⟩
 ·simp only[List.length_nil,yAp]at hl
  have hc2:(([]:List PD).length=0\/0=i.size)/\([]:List PD).length+Y.length<=maxLen/\(([]:List PD).length+Y.length)*i.bytes<=140737488355328/\Tok.full.fresh=true:=⟨.inl rfl,by simp only[maxLen,List.length_nil];omega,by rw[hib,List.length_nil];omega,rfl⟩
  have e:dS prog n 0 σ 30 (.slice 0 [] .full) x=(if Y.length=0 then some (.slice 0 [] .full,σ)else some (.aF σ.length 0 0 (([]:List PD).length+Y.length) i.size,σ++[.row 5 i.size 0 (([]++Y).flatMap PD.cells)])):=by
   unfold dS
   rw[if_pos ht]
   simp only[underlying30,hx,hi,hiz]
   rw[if_pos dT,if_pos hc2]
  rw[e]
  by_cases h0:ys=[]
  ·subst h0
   rw[if_pos (by rw[hyl];rfl)]
   exact⟨_,_,rfl,.inl ⟨rfl,rfl⟩,yAk _,fun _ _ _ h=>h,fun id h=>.inl h⟩
  ·have h1:¬Y.length=0:=fun e=>h0 (yAf (by omega))
   rw[if_neg h1,his]
   refine⟨_,_,rfl,.inr ⟨h0,σ.length,0,by simp[hyl],?_⟩,by simp,fun id o _ h=>by rw[yAg (yA.1 h).1];exact h,fun id h=>.inr ?_⟩
   ·rw[yBb]
    simp[hYc]
   ·obtain⟨_,_,_,_,e⟩:=h
    cases e
    rfl
 ·have hlt:=(yA.1 hk).1
  have hbl:(aG bs).length=bs.length:=iD bs
  have hc2:0<=k/\1=i.size/\bs.length+Y.length<=maxLen/\(bs.length+Y.length)*i.bytes<=140737488355328:=⟨yBf _,his.symm,by simp only[maxLen];omega,by rw[hib];omega⟩
  have e:dS prog n 0 σ 30 (.aF k v 0 bs.length 1) x=(if 0+(bs.length+Y.length)*i.size<=(aG bs).length then some (.aF k v 0 (bs.length+Y.length) i.size,σ.set k (.row 5 i.size v (cX (aG bs) (0+bs.length*i.size) (Y.flatMap PD.cells))))
    else if 0=0/\bs.length*i.size=(aG bs).length then some (.aF k (v+1) 0 (bs.length+Y.length) i.size,σ.set k (.row 5 i.size (v+1) (aG bs++Y.flatMap PD.cells)))else none):=by
   unfold dS
   rw[if_pos ht]
   simp only[underlying30,hx,hi,hiz]
   rw[if_pos dT,if_pos hc2]
   simp only[hk]
   rw[if_pos ⟨trivial,his.symm,trivial⟩]
  rw[e,his]
  have hkeep:∀(x:aB) id o,¬kW (.aF k v 0 bs.length 1) id->σ[id]?=some o->(σ.set k x)[id]?=some o:=fun x id o h1 h2=>by
   rw[yAd (fun e=>h1 ⟨v,0,bs.length,1,by rw[e]⟩)]
   exact h2
  have hid:∀w m id,kW (.aF k w 0 m 1) id->kW (.aF k v 0 bs.length 1) id\/id=σ.length:=fun w m id h=>by
   obtain⟨_,_,_,_,e⟩:=h
   cases e
   exact .inl ⟨v,0,bs.length,1,rfl⟩
  by_cases h0:ys=[]
  ·subst h0
   have aDL:Y.length=0:=by rw[hyl];rfl
   rw[if_pos (by simp[aDL,hbl])]
   refine⟨_,_,rfl,.inr ⟨by simpa using hne,k,v,by simp[aDL],?_⟩,by simp,hkeep _,hid _ _⟩
   rw[yAj hlt,hYc]
   simp[cX,aG,yAz]
  ·have h1:0<ys.length:=List.length_pos_iff.2 h0
   rw[if_neg (by omega),if_pos ⟨rfl,by omega⟩]
   refine⟨_,_,rfl,.inr ⟨by simp[hne],k,v+1,by rw[yAa,hyl],?_⟩,by simp,hkeep _,hid _ _⟩
   rw[yAj hlt,hYc,JS]
theorem tX{n:Nat}(ht:iF 30 n=true){σ:List aB}{p:PD}{bs ys:List UInt8}{z:Nat}{tok:Tok}(ho:jK σ p bs)(hz:ys=[]\/z=1)(hl:(bs++ys).length<=1000000000) :
  ∃p' σ',dS prog n 0 σ 30 p (.slice z (aG ys) tok)=some (p',σ')/\jK σ' p' (bs++ys)/\σ.length<=σ'.length/\(∀id o,¬kW p id->σ[id]?=some o->σ'[id]?=some o)/\(∀id,kW p' id->kW p id\/id=σ.length):=
 aDK ht (show mY σ (.slice z (aG ys) tok)=_ from rfl) (iD ys) (GO ys) ho hz hl
theorem JT:∀cs:List PD,(mX 1 cs.length cs).length=cs.length/\((∀d∈cs,PD.cells d=[d])->(mX 1 cs.length cs).flatMap PD.cells=cs)
 | []=>⟨rfl,fun _=>rfl⟩
 |x::xs=>by
  obtain⟨h1,h2⟩:=JT xs
  refine⟨by simp[mX,h1],fun h=>?_⟩
  simp only[List.length_cons,mX,List.flatMap_cons,List.take_succ_cons,List.take_zero,List.drop_succ_cons,List.drop_zero,h2 (fun d hd=>h d (by simp[hd]))]
  rfl
theorem OM{n:Nat}(ht:iF 30 n=true){σ:List aB}{p:PD}{bs ys:List UInt8}{k v:Nat}(ho:jK σ p bs)(hk:σ[k]?=some (.row 5 1 v (aG ys)))(hl:(bs++ys).length<=1000000000) :
  ∃p' σ',dS prog n 0 σ 30 p (.aF k v 0 ys.length 1)=some (p',σ')/\jK σ' p' (bs++ys)/\σ.length<=σ'.length/\(∀id o,¬kW p id->σ[id]?=some o->σ'[id]?=some o)/\(∀id,kW p' id->kW p id\/id=σ.length):=by
 have hx:mY σ (.aF k v 0 ys.length 1)=some (1,mX 1 (aG ys).length (aG ys)):=by
  simp[mY,hk,iD]
 exact aDK ht hx (by rw[(JT _).1,iD]) ((JT _).2 fun d hd=>by
  obtain⟨b,_,rfl⟩:=yAw.1 hd
  rfl) ho (.inr rfl) hl
theorem iS.of{P:Program}{E:aD}{f:FuncId}{args:List PD}{bs:List UInt8}(h:aN P E 0 (.inl f) args [] (fun p σ=>jK σ p bs)):iS P E 5 f args bs:=by
 obtain⟨p,σ,h1,h2⟩:=h.ex
 exact⟨p,σ,h1,h2⟩
section
theorem aDI(n:Int):IntKind.u64.wrap n=(oI n:Int):=by
 unfold oI
 simp[IntKind.wrap,IntKind.signed,IntKind.bits]
 try omega
theorem aDJ(n:Int){i:Nat}(hi:i<8):IntKind.u8.wrap ((oI n:Int).fdiv (2^min (8*(i:Int)).toNat IntKind.u64.bits))=((UInt8.ofNat (oI n/256^i)).toNat:Int):=by
 have e1:min (8*(i:Int)).toNat IntKind.u64.bits=8*i:=by
  have:IntKind.u64.bits=64:=rfl
  rw[this]
  omega
 have e2:((2:Int)^(8*i))=((256^i:Nat):Int):=by
  rw[Int.pow_mul]
  simp
 rw[e1,e2,Int.fdiv_eq_ediv_of_nonneg _ (Int.natCast_nonneg _),<-Int.natCast_ediv]
 simp[IntKind.wrap,IntKind.signed,IntKind.bits,UInt8.toNat_ofNat']
variable{E:aD}(hU:aI E)
include hU
theorem aJ8(h0:E 28=none)(n:Int):iS prog E 5 28 [.int .i64 n] (b8 n):=by
 refine iS.of ?_
 have hw:=aDI n
 apply aN.aK h0 func28 rfl
 focus(simp[show Tryz.f28.ntmps=_ from rfl,List.replicate];rfl)
 have gx:=True.intro
 refine aC ?_
 clear gx
 refine Wp.cJ (fun m fr σ=>∃(i:Nat) (p:PD) (bs:List UInt8) (σ1:List aB),∃gg:Nat->PD,(i+m=8/\bs=((List.range i).map fun i=>UInt8.ofNat (oI n/256^i))/\jK σ1 p bs)/\fr=[.int .i64 n,gg 1,gg 2,p,gg 4,.int .i64 i,gg 6,gg 7,gg 8,gg 9,gg 10,gg 11,gg 12,gg 13,gg 14,gg 15,gg 16,gg 17,gg 18]/\σ=σ1) ?_ (8) (by refine⟨0,.slice 0 [] .full,[],[],?_⟩;exact bW (⟨by omega,rfl,.inl ⟨rfl,rfl⟩⟩))
 rintro m fr σ ⟨i,p,bs,σ1,gg,hI,rfl,rfl⟩
 obtain⟨hm,hbs,ho⟩:=hI
 by_cases hi:i<8
 ·have q1:(i:Int)<8:=by omega
  have hv:=aDJ n hi
  obtain⟨c,hc⟩:=gn (UInt8.ofNat (oI n/256^i))
  rw[hc]at hv
  have ht:iF 30 19=true:=by decide
  obtain⟨p',σ',ap,ho',hlen,hkp,hid⟩:=tX ht (ys:=[c]) (z:=1) (tok:=.full) ho (.inr rfl) (by rw[hbs];simp;omega)
  replace ap:=(show dS prog 19 0 σ 30 p (.slice 1 [.int .u8 c.toNat] .full)=some (p',σ')from ap)
  have VO:bs++[c]=(List.range (i+1)).map fun i=>UInt8.ofNat (oI n/256^i):=by
   rw[List.range_succ,yBh,hbs,List.map_cons,List.map_nil,hc]
  have gx:=An @q1 (An @hw (An @hv (An @ht (@ap))))
  refine aC ?_
  clear gx
  refine bP.normal (m-1) (by omega) (by refine⟨i+1,p',bs++[c],σ',?_⟩;exact cW (⟨by omega,VO,ho'⟩) (by(first|rfl|(simp[hc];repeat(first|rfl|(apply And.intro)))|(simp[hc];done))) (by(first|rfl|(simp[hc];repeat(first|rfl|(apply And.intro)))|(simp[hc];done))))
 ·have q1:¬(i:Int)<8:=by omega
  have e8:i=8:=by omega
  subst e8
  have gx:=@q1
  refine aC ?_
  clear gx
  refine⟨_,_,rfl,?_⟩
  unfold b8
  rw[<-hbs]
  exact ho
end
section
def uS:List PD->Option (List UInt8)
 | [.int .i64 n]=>some (b8 n)
 |_=>none
theorem C3(fl:Nat)(n:Int)(σ:List aB):fV 5 uS fl [.int .i64 n] σ=some (.aF σ.length 0 0 8 1,σ++[.row 5 1 0 (aG (b8 n))]):=by
 have h:b8 n≠[]:=fun e=>by have:=cT n;rw[e]at this;cases this
 simp only[fV,List.map_cons,List.map_nil,PD.strip,uS,AA,if_neg h,cT]
 rfl
theorem aDH(n:Int):jK [.row 5 1 0 (aG (b8 n))] (.aF 0 0 0 8 1) (b8 n):=
 .inr ⟨fun e=>(by have:=cT n;rw[e]at this;cases this),0,0,by rw[cT],rfl⟩
theorem wJ(l:List Int):(l.flatMap b8).length=8*l.length:=by
 induction l with
 |nil=>rfl
 |cons x r ih=>rw[List.flatMap_cons,yAa,ih,cT,List.length_cons];omega
theorem jK.more{σ:List aB}{p:PD}{bs:List UInt8}(h:jK σ p bs)(τ:List aB):jK (σ++τ) p bs:=by
 rcases h with h | ⟨h,k,v,e,hk⟩
 ·exact .inl h
 ·exact .inr ⟨h,k,v,e,by rw[yAg (yA.1 hk).1];exact hk⟩
variable{E:aD}(hU:aI E)
include hU
theorem aKb(h0:E 66=none)(h1:E 28=some (fV 5 uS))(b:Bool):iS prog E 5 66 [.bool b] (eW b):=by
 refine iS.of ?_
 have hb:∀n:Int,jK [.row 5 1 0 (aG (b8 n))] (.aF 0 0 0 8 1) (b8 n):=fun n=>aDH n
 cases b
 apply aN.aK h0 func66 rfl
 focus(simp[show Tryz.f66.ntmps=_ from rfl,List.replicate];rfl)
 have gx:=An @h1 (@C3)
 refine aC ?_
 clear gx
 exact⟨_,_,rfl,hb 0⟩
 apply aN.aK h0 func66 rfl
 focus(simp[show Tryz.f66.ntmps=_ from rfl,List.replicate];rfl)
 have gx:=An @h1 (@C3)
 refine aC ?_
 clear gx
 exact⟨_,_,rfl,hb 1⟩
theorem aB6(h0:E 27=none)(h1:E 28=some (fV 5 uS))(s:List UInt8)(hs:s.length<=1000000):iS prog E 5 27 [.str s] (aZ s):=by
 refine iS.of ?_
 have ht:iF 30 8=true:=by decide
 obtain⟨p',σ',ap,ho',hlen,hkp,hid⟩:=tX ht (ys:=s) (z:=if s.length=0 then 0 else 1) (tok:=.any) (aDH s.length) (by
  by_cases h:s=[]
  ·exact .inl h
  ·exact .inr (if_neg fun e=>h (yAf e))) (by rw[yAa,cT];omega)
 replace ap:=(show dS prog 8 0 [.row 5 1 0 (aG (b8 s.length))] 30 (.aF 0 0 0 8 1) (wF s)=some (p',σ')from ap)
 apply aN.aK h0 func27 rfl
 focus(simp[show Tryz.f27.ntmps=_ from rfl,List.replicate];rfl)
 have gx:=An @h1 (An @C3 (An @ht (@ap)))
 refine aC ?_
 clear gx
 exact⟨_,_,rfl,ho'⟩
theorem aIb(h0:E 65=none)(h1:E 28=some (fV 5 uS))(l:List Int)(hs:l.length<=1000000)(z:Nat)(hz:l=[]\/z=1):iS prog E 5 65 [.slice z (l.map i64.U) .any] (l.flatMap b8):=by
 refine iS.of ?_
 obtain⟨tot,htot⟩:=gn (l.length)
 apply aN.aK h0 func65 rfl
 focus(simp[show Tryz.f65.ntmps=_ from rfl,List.replicate];rfl)
 have gx:=True.intro
 refine aC ?_
 clear gx
 rw[htot]
 refine Wp.cJ (fun m fr σ=>∃(i:Nat) (p:PD) (σ1:List aB),∃gg:Nat->PD,(i+m=tot/\jK σ1 p ((l.take i).flatMap b8))/\fr=[.slice z (l.map i64.U) .any,gg 1,gg 2,p,gg 4,gg 5,.slice z (l.map i64.U) .any,.int .i64 tot,.int .i64 i,gg 9,gg 10,gg 11,gg 12,gg 13,gg 14,gg 15,gg 16,gg 17]/\σ=σ1) ?_ (tot) (by refine⟨0,.slice 0 [] .full,[],?_⟩;exact bW (⟨by omega,.inl ⟨rfl,rfl⟩⟩))
 rintro m fr σ ⟨i,p,σ1,gg,hI,rfl,rfl⟩
 obtain⟨hm,ho⟩:=hI
 by_cases hi:i<tot
 ·have q1:(i:Int)<tot:=by omega
  have hil:i<l.length:=by omega
  have gL:z=1:=by
   rcases hz with h|h
   ·rw[h]at hil;simp at hil
   ·exact h
  subst gL
  obtain⟨x,hx⟩:=gn (l[i])
  have he:(l.map i64.U)[i]?=some (.int .i64 x):=by
   rw[yAo,yAh hil,hx]
   rfl
  have ht:iF 30 18=true:=by decide
  have hbl:((l.take i).flatMap b8).length=8*i:=by rw[wJ,yAt,Nat.min_eq_left (by omega)]
  obtain⟨p',σ',ap,ho',hlen,hkp,hid⟩:=OM ht (ys:=b8 x) (ho.more [.row 5 1 0 (aG (b8 x))]) (yBb) (by rw[yAa,hbl,cT];omega)
  rw[cT]at ap
  have hnx:(l.take i).flatMap b8++b8 x=(l.take (i+1)).flatMap b8:=by
   rw[List.take_add_one,yAh hil,hx]
   simp
  rw[hnx]at ho'
  have gx:=An @q1 (An @hx (An @hil (An @h1 (An @C3 (An @ht (@ap))))))
  refine aC ?_
  clear gx
  refine bP.normal (m-1) (by omega) (by refine⟨i+1,p',σ',?_⟩;exact cW (⟨by omega,ho'⟩) (by(first|rfl|(simp[hx];repeat(first|rfl|(apply And.intro)))|(simp[hx];done))) (by(first|rfl|(simp[hx];repeat(first|rfl|(apply And.intro)))|(simp[hx];done))))
 ·have q1:¬(i:Int)<tot:=by omega
  have ei:i=tot:=by omega
  rw[ei,<-htot,List.take_length]at ho
  have gx:=@q1
  refine aC ?_
  clear gx
  exact⟨_,_,rfl,ho⟩
end
section
def Em.byt:Em UInt8:=(Em.int .u8).mA (fun b=>(b.toNat:Int)) (fun x y h=>UInt8.toNat_inj.1 (by exact_mod_cast h))
def bH:Em (List UInt8):=Em.byt.list 1
def sB:Em (List (List UInt8)):=bH.list 1
theorem GN(l:List UInt8):bH.U l=.slice (sz 1 l) (aG l) .any:=rfl
theorem rE{l:List UInt8}(h:l≠[]):bH.U l=.slice 1 (aG l) .any:=by rw[GN,cG h]
theorem iS.free{P:Program}{E:aD}{e:TypeId}{f:FuncId}{args:List PD}{bs:List UInt8}(h:iS P E e f args bs):RunT P E f args (bH.U bs):=by
 obtain⟨p1,σ1,h1,h2⟩:=h
 rcases h2 with⟨rfl,rfl⟩ | ⟨hne,k,v,rfl,hk⟩
 ·refine⟨1,.slice 0 [] .full,σ1,h1,?_,?_⟩
  ·rfl
  ·rfl
 ·have hm:∀l:List UInt8,(l.map fun b=>PD.int .u8 b.toNat).map (bA σ1 1)=aG l:=fun l=>by
   rw[List.map_map];rfl
  have ht:bA σ1 2 (.aF k v 0 bs.length 1)=.slice 1 (aG bs) .any:=by
   have hl:0+bs.length*1<=(bs.map fun b=>PD.int .u8 b.toNat).length:=by simp
   simp only[bA,hk]
   rw[if_pos ⟨trivial,trivial,hl⟩]
   have e2:qF 1 bs.length (List.map (bA σ1 1) (List.drop 0 (bs.map fun b=>PD.int .u8 b.toNat)))=aG bs:=by
    rw[List.drop_zero,hm]
    unfold qF
    rw[if_pos rfl]
    exact yAz (by rw[iD];exact yAk _)
   rw[e2]
  refine⟨2,_,_,h1,?_,?_⟩
  ·rw[ht,<-rE hne]
   exact bH.str bs
  ·rw[ht,<-rE hne]
   exact bH.dU bs
def zN:=entry (b9 .text bH fun s=>dX (s.length<=1000000) (some (aZ s)))
def CG:=entry (b9 .bool bH fun b=>some (eW b))
def wG:=entry (b9 eD bH fun l=>dX (l.length<=1000000) (some (l.flatMap b8)))
theorem IH(s:List UInt8):aZ s≠[]:=fun e=>by
 have:=congrArg List.length e
 unfold aZ at this
 rw[yAa,cT]at this
 simp at this
theorem aDF(b:Bool):eW b≠[]:=fun e=>by
 have:=congrArg List.length e
 unfold eW at this
 rw[cT]at this
 cases this
theorem aNl(fl:Nat){s:List UInt8}(h:s.length<=1000000)(σ:List aB):zN fl [.str s] σ=some (.slice 1 (aG (aZ s)) .any,σ):=by
 have e1:Em.text.dec (.str s)=some s:=Em.dC (Em.text.str s)
 unfold zN entry b9
 simp only[e1,fB h,rE (IH s)]
theorem aNm(fl:Nat)(b:Bool)(σ:List aB):CG fl [.bool b] σ=some (.slice 1 (aG (eW b)) .any,σ):=by
 have e1:Em.bool.dec (.bool b)=some b:=Em.dC (Em.bool.str b)
 unfold CG entry b9
 simp only[e1,rE (aDF b)]
theorem aDD(fl:Nat){l:List Int}(h:l.length<=1000000){p:PD}(hp:p.strip=eD.U l)(σ:List aB):wG fl [p] σ=some (.slice (sz 1 l) (aG (l.flatMap b8)) .any,σ):=by
 have e1:eD.dec p=some l:=Em.dC hp
 have e2:sz 1 (l.flatMap b8)=sz 1 l:=by
  cases l with
  |nil=>rfl
  |cons x r=>
   have hb:(x::r).flatMap b8≠[]:=fun e=>by
    have:=congrArg List.length e
    rw[wJ]at this
    simp at this
   rw[cG hb,cG (List.cons_ne_nil x r)]
 unfold wG entry b9
 simp only[e1,fB h,GN,e2]
def rC:List PD->Option (List UInt8)
 | [a]=>match sB.dec a with
   |some l=>if l.flatten≠[]/\l.flatten.length<=100000000/\l.length<=1000 then some l.flatten else none
   |none=>none
 |_=>none
theorem aDG(fl:Nat){l:List (List UInt8)}{p:PD}(hp:p.strip=sB.U l)(h1:l.flatten≠[])(h2:l.flatten.length<=100000000)(h3:l.length<=1000)(σ:List aB) :
  fV 5 rC fl [p] σ=some (.aF σ.length 0 0 l.flatten.length 1,σ++[.row 5 1 0 (aG l.flatten)]):=by
 have e1:sB.dec p.strip=some l:=Em.dC (by rw[hp];exact sB.str l)
 simp only[fV,List.map_cons,List.map_nil,rC,e1]
 rw[if_pos ⟨h1,h2,h3⟩]
 simp only[AA,if_neg h1]
 rfl
def xW:Nat->List PD->List aB->Option (PD×List aB)
 |0,[.slice 0 [] .full,.int .i64 n],σ=>if 0<n/\n<=1000000000 then some (.aF σ.length 0 0 0 1,σ++[.row 5 1 0 (List.replicate n.toNat (.int .u8 0))])else none
 |_,_,_=>none
theorem aKe{E:aD}(hE:aE prog E)(hP:prog.follows .mixedOrders=true)(hU:aI E)(h0:E 90=none):aE prog (E.add 90 xW):=
 hE.add hP fun fl args σ p σ' h=>by
  unfold xW at h
  split at h
  ·rename_i wM n
   split at h
   ·rename_i hc
    obtain⟨m,rfl⟩:∃m:Nat,n=m:=⟨n.toNat,by omega⟩
    simp only[yAb,yAc,Int.toNat_natCast]at h
    obtain⟨rfl,rfl⟩:=h
    obtain⟨p,σ',h1,rfl,rfl⟩:=(aNo hU h0 m (by omega) (by omega) σ).ex
    exact h1
   ·cases h
  ·cases h
theorem aNp{n:Nat}(ht:iF 30 n=true){bs ys:List UInt8}{k z:Nat}{tok:Tok}(hz:ys=[]\/z=1)(hk:ys.length<=k)(hl:bs.length+ys.length<=1000000000) :
  dS prog n 0 [.row 5 1 0 (aG bs++List.replicate k (.int .u8 0))] 30 (.aF 0 0 0 bs.length 1) (.slice z (aG ys) tok)=some (.aF 0 0 0 (bs++ys).length 1,[.row 5 1 0 (aG (bs++ys)++List.replicate (k-ys.length) (.int .u8 0))]):=by
 obtain⟨i,hi,hiz,his,hib⟩:=JR
 have hyl:(aG ys).length=ys.length:=iD ys
 have hbl:(aG bs).length=bs.length:=iD bs
 have hone:(Value.int IntKind.u8 0).cells.toList.all Value.oneCell'=true:=rfl
 have rY:(aG ys).length=0\/z=i.size:=by
  rcases hz with h|h
  ·exact .inl (by rw[h];rfl)
  ·exact .inr (by rw[h,his])
 have dT:((aG ys).length=0\/z=i.size)/\0<i.size/\(Value.int IntKind.u8 0).cells.size=i.size/\(Value.int IntKind.u8 0).cells.toList.all Value.oneCell'=true:=⟨rY,by omega,by rw[his];rfl,hone⟩
 have hc2:0<=0/\1=i.size/\bs.length+(aG ys).length<=maxLen/\(bs.length+(aG ys).length)*i.bytes<=140737488355328:=⟨yAk _,his.symm,by simp only[maxLen];omega,by rw[hib];omega⟩
 unfold dS
 rw[if_pos ht]
 simp only[underlying30,mY,hi,hiz]
 rw[if_pos dT,if_pos hc2]
 simp only[List.getElem?_cons_zero]
 rw[if_pos ⟨trivial,his.symm,trivial⟩,his,if_pos (by rw[yAa,List.length_replicate];omega),yAa,hyl]
 have e:cX (aG bs++List.replicate k (PD.int .u8 0)) (0+bs.length*1) ((aG ys).flatMap PD.cells)=aG (bs++ys)++List.replicate (k-ys.length) (.int .u8 0):=by
  rw[GO,JS]
  unfold cX
  rw[yAp,Nat.mul_one,List.take_append_of_le_length (by omega),yAz (by omega),hyl]
  have:List.drop (bs.length+ys.length) (aG bs++List.replicate k (PD.int .u8 0))=List.replicate (k-ys.length) (.int .u8 0):=by
   rw[<-hbl,List.drop_append,List.drop_replicate]
   simp
  rw[this]
 rw[e]
 rfl
variable{E:aD}(hU:aI E)
include hU
theorem aIh(h0:E 58=none)(h1:E 90=some xW)(l:List (List UInt8))(g1:l.flatten≠[])(g2:l.flatten.length<=100000000)(g3:l.length<=1000):iS prog E 5 58 [sB.U l] l.flatten:=by
 have hne:l≠[]:=fun e=>g1 (by rw[e];rfl)
 have e1:sB.U l=.slice 1 (l.map bH.U) .any:=by rw[show sB.U l=.slice (sz 1 l) (l.map bH.U) .any from rfl,cG hne]
 rw[e1]
 refine iS.of ?_
 obtain⟨tot,htot⟩:=gn (l.length)
 obtain⟨T,hT⟩:=gn (l.flatten.length)
 have hTp:0<T:=by
  rw[<-hT]
  exact List.length_pos_iff.2 g1
 have hpre:∀i,((l.take i).flatten).length<=T:=fun i=>by
  have:l.flatten=(l.take i).flatten++(l.drop i).flatten:=by rw[<-List.flatten_append,List.take_append_drop]
  rw[<-hT,this,yAa]
  omega
 have hnx:∀i (h:i<l.length),(l.take (i+1)).flatten=(l.take i).flatten++l[i]:=fun i h=>by
  rw[List.take_add_one,yAh h,List.flatten_append]
  simp only[Option.toList,List.flatten_cons,List.flatten_nil,yAl]
 apply aN.aK h0 func58 rfl
 focus(simp[show Tryz.f58.ntmps=_ from rfl,List.replicate];rfl)
 have gx:=True.intro
 refine aC ?_
 clear gx
 rw[htot]
 refine Wp.cJ (fun m fr σ=>∃(i:Nat),∃gg:Nat->PD,(i+m=tot)/\fr=[.slice 1 (l.map bH.U) .any,gg 1,.slice 0 [] .full,.int .i64 ((l.take i).flatten.length),gg 4,gg 5,gg 6,gg 7,gg 8,.slice 1 (l.map bH.U) .any,.int .i64 tot,.int .i64 i,gg 12,gg 13,gg 14,gg 15,gg 16,gg 17,gg 18,gg 19,gg 20,gg 21,gg 22,gg 23,gg 24,gg 25,gg 26,gg 27,gg 28,gg 29,gg 30,gg 31,gg 32,gg 33,gg 34,gg 35]/\σ=[]) ?_ (tot) (by refine⟨0,?_⟩;exact bW ((by omega)))
 rintro m fr σ ⟨i,gg,hI,rfl,rfl⟩
 have hm:=hI
 by_cases hi:i<tot
 ·have q1:(i:Int)<tot:=by omega
  have hil:i<l.length:=by omega
  have hn:=hnx i hil
  have EK:=hpre i
  have eQ:=hpre (i+1)
  obtain⟨x,hx⟩:=gn (l[i])
  rw[hx]at hn
  obtain⟨a,ha⟩:=gn ((l.take i).flatten.length)
  have hb:(l.take (i+1)).flatten.length=a+x.length:=by rw[hn,yAa,ha]
  rw[ha]
  have q2:¬((a:Int)+x.length<0):=by omega
  have q3:IntKind.i64.wrap ((a:Int)+x.length)=a+x.length:=wrap_i64 (by omega) (by omega)
  have hul:=iD x
  have gx:=An @q1 (An @hx (An @hil (An @GN (An @hul (An @q3 (@q2))))))
  refine aC ?_
  clear gx
  refine bP.normal (m-1) (by omega) (by refine⟨i+1,?_⟩;exact cW ((by omega)) (by(first|rfl|(simp[hx,hb];repeat(first|rfl|(apply And.intro)))|(simp[hx,hb];done))) (by(first|rfl|(simp[hx,hb];repeat(first|rfl|(apply And.intro)))|(simp[hx,hb];done))))
 ·have q1:¬(i:Int)<tot:=by omega
  have ei:i=tot:=by omega
  have hG:xW 0 [.slice 0 [] .full,.int .i64 T] []=some (.aF 0 0 0 0 1,[.row 5 1 0 (List.replicate T (.int .u8 0))]):=by
   have e:(T:Int).toNat=T:=Int.toNat_natCast T
   simp only[xW]
   rw[if_pos ⟨by omega,by omega⟩,e]
   rfl
  rw[ei,<-htot,List.take_length,hT]
  clear hI hm hi q1 ei
  have q0:¬(l.length:Int)<l.length:=by omega
  have gx:=An @q0 (An @h1 (@hG))
  refine aC ?_
  clear gx
  rw[htot]
  refine Wp.cJ (fun m fr σ=>∃(i:Nat) (bs:List UInt8),∃gg:Nat->PD,(i+m=tot/\bs=(l.take i).flatten)/\fr=[.slice 1 (l.map bH.U) .any,gg 1,.slice 0 [] .full,.int .i64 T,gg 4,gg 5,.aF 0 0 0 bs.length 1,gg 7,gg 8,gg 9,gg 10,gg 11,gg 12,gg 13,gg 14,gg 15,gg 16,gg 17,gg 18,gg 19,gg 20,gg 21,gg 22,gg 23,gg 24,.slice 1 (l.map bH.U) .any,.int .i64 tot,.int .i64 i,gg 28,gg 29,gg 30,gg 31,gg 32,gg 33,gg 34,gg 35]/\σ=[.row 5 1 0 (aG bs++List.replicate (T-bs.length) (.int .u8 0))]) ?_ (tot) (by refine⟨0,[],?_⟩;exact bW (⟨by omega,rfl⟩))
  rintro m fr σ ⟨i,bs,gg,hI,rfl,rfl⟩
  obtain⟨hm,hbs⟩:=hI
  have ht:iF 30 36=true:=by decide
  by_cases hi:i<tot
  ·have q1:(i:Int)<tot:=by omega
   have hil:i<l.length:=by omega
   have hn:=hnx i hil
   have eQ:=hpre (i+1)
   obtain⟨x,hx⟩:=gn (l[i])
   rw[hx,<-hbs]at hn
   rw[hn,yAa]at eQ
   have ap:=aNp ht (bs:=bs) (ys:=x) (k:=T-bs.length) (z:=sz 1 x) (tok:=.any) (by unfold sz;by_cases h:x=[];exact .inl h;exact .inr (if_neg (fun e=>h (yAf e)))) (by omega) (by omega)
   have ek:T-bs.length-x.length=T-(bs++x).length:=by rw[yAa];omega
   rw[ek]at ap
   have gx:=An @q1 (An @hx (An @hil (An @GN (An @ht (@ap)))))
   refine aC ?_
   clear gx
   refine bP.normal (m-1) (by omega) (by refine⟨i+1,bs++x,?_⟩;exact cW (⟨by omega,hn.symm⟩) (by(first|rfl|(simp[hx];repeat(first|rfl|(apply And.intro)))|(simp[hx];done))) (by(first|rfl|(simp[hx];repeat(first|rfl|(apply And.intro)))|(simp[hx];done))))
  ·have q1:¬(i:Int)<tot:=by omega
   have ei:i=tot:=by omega
   rw[ei,<-htot,List.take_length]at hbs
   have ho:jK [.row 5 1 0 (aG bs++List.replicate (T-bs.length) (.int .u8 0))] (.aF 0 0 0 bs.length 1) l.flatten:=by
    refine .inr ⟨g1,0,0,by rw[hbs],?_⟩
    rw[hbs,hT,Nat.sub_self,List.replicate_zero,yAl]
    rfl
   have gx:=@q1
   refine aC ?_
   clear gx
   exact⟨_,_,rfl,ho⟩
end
section
theorem aNj(n:Nat)(xs:List PD)(t:Tok):(PD.slice n xs t).strip=(PD.slice n xs .any).strip:=by rw[PD.lG,PD.lG]
theorem aNk(w:List Int):sz 1 (w.flatMap b8)=sz 1 w:=by
 cases w with
 |nil=>rfl
 |cons x r=>
  have hb:(x::r).flatMap b8≠[]:=fun e=>by
   have:=congrArg List.length e
   rw[wJ]at this
   simp at this
  rw[cG hb,cG (List.cons_ne_nil x r)]
theorem JP(fl:Nat){l:List Int}(h:l.length<=1000000){p:PD}(hp:p.strip=eD.U l)(σ:List aB):wG fl [p] σ=some (bH.U (l.flatMap b8),σ++[]):=by
 rw[yAl,aDD fl h hp,GN,aNk]
theorem JO(fl:Nat){s:List UInt8}(h:s.length<=1000000)(σ:List aB):zN fl [.str s] σ=some (bH.U (aZ s),σ++[]):=by
 rw[yAl,aNl fl h,rE (IH s)]
theorem aDA(fl:Nat)(b:Bool)(σ:List aB):CG fl [.bool b] σ=some (bH.U (eW b),σ++[]):=by
 rw[yAl,aNm fl b,rE (aDF b)]
theorem ON(fl:Nat){l:List (List UInt8)}(hl:l≠[])(h1:l.flatten≠[])(h2:l.flatten.length<=100000000)(h3:l.length<=1000)(σ:List aB) :
  fV 5 rC fl [.slice 1 (l.map bH.U) .full] σ=some (.aF σ.length 0 0 l.flatten.length 1,σ++[.row 5 1 0 (aG l.flatten)]):=
 aDG fl (by
  rw[aNj]
  have:=sB.str l
  rw[show sB.U l=.slice (sz 1 l) (l.map bH.U) .any from rfl,cG hl]at this
  rw[this,show sB.U l=.slice (sz 1 l) (l.map bH.U) .any from rfl,cG hl]) h1 h2 h3 σ
theorem aNh(x0 x1:List UInt8):gG prog 129 2 [(0,bH.U x0),(1,bH.U x1)]=some (.slice 1 [bH.U x0,bH.U x1] .full):=by
 kernel_rfl
theorem aDB(x0 x1 x2:List UInt8):gG prog 129 3 [(0,bH.U x0),(1,bH.U x1),(2,bH.U x2)]=some (.slice 1 [bH.U x0,bH.U x1,bH.U x2] .full):=by
 kernel_rfl
theorem aNn(x0 x1 x2 x3:List UInt8):gG prog 129 4 [(0,bH.U x0),(1,bH.U x1),(2,bH.U x2),(3,bH.U x3)]=some (.slice 1 [bH.U x0,bH.U x1,bH.U x2,bH.U x3] .full):=by
 kernel_rfl
variable{E:aD}(hU:aI E)
include hU
theorem aKh(h0:E 29=none)(h1:E 27=some zN)(h2:E 65=some wG)(h4:E 66=some CG)(h3:E 58=some (fV 5 rC))
  (r:bM) (hn:r.name.length<=1000000) (ht:r.jN.length<=1000000) (hw:r.fJ.length<=1000000):iS prog E 5 29 [Em.aR.U r] (eT r):=by
 refine iS.of ?_
 obtain⟨nm,tn,a,b,c,w⟩:=r
 simp only at hn ht hw
 simp only[vT,bJ]
 apply aN.aK h0 func29 rfl
 focus(simp[show Tryz.f29.ntmps=_ from rfl,List.replicate];rfl)
 have k1:=kQ (fl:=0) (σ:=[.box (.agg [.str nm,.str tn,.int .i64 a,.int .i64 b,.int .i64 c,.slice (sz 1 w) (w.map i64.U) .any])]) h1 (fun fl=>JO fl hn _)
 have k2:=kQ (fl:=0) (σ:=[.box (.agg [.str nm,.str tn,.int .i64 a,.int .i64 b,.int .i64 c,.slice (sz 1 w) (w.map i64.U) .any])]) h1 (fun fl=>JO fl ht _)
 have k3:=kQ (fl:=0) (σ:=[.box (.agg [.str nm,.str tn,.int .i64 a,.int .i64 b,.int .i64 c,.slice (sz 1 w) (w.map i64.U) .any])]) (args:=[.slice 1 [.int .i64 a,.int .i64 b,.int .i64 c,.int .i64 w.length] .full]) h2 (fun fl=>JP fl (l:=[a,b,c,w.length]) (by simp) (by rfl) _)
 have k4:=kQ (fl:=0) (σ:=[.box (.agg [.str nm,.str tn,.int .i64 a,.int .i64 b,.int .i64 c,.slice (sz 1 w) (w.map i64.U) .any])]) (args:=[.slice (sz 1 w) (w.map i64.U) .any]) h2 (fun fl=>JP fl (l:=w) hw (eD.str w) _)
 have hE:([aZ nm,aZ tn,[a,b,c,(w.length:Int)].flatMap b8,w.flatMap b8]:List (List UInt8)).flatten=eT ⟨nm,tn,a,b,c,w⟩:=by
  simp[eT,pI,eList]
 obtain⟨L,hL⟩:∃l:List (List UInt8),[aZ nm,aZ tn,[a,b,c,(w.length:Int)].flatMap b8,w.flatMap b8]=l:=⟨_,rfl⟩
 have hlen:([aZ nm,aZ tn,[a,b,c,(w.length:Int)].flatMap b8,w.flatMap b8]:List (List UInt8)).flatten.length<=100000000:=by
  simp only[List.flatten_cons,List.flatten_nil,yAa,wJ,aZ,eW,cT,List.length_cons,List.length_nil]
  omega
 have hnE:([aZ nm,aZ tn,[a,b,c,(w.length:Int)].flatMap b8,w.flatMap b8]:List (List UInt8)).flatten≠[]:=fun e=>by
  have:=congrArg List.length e
  simp only[List.flatten_cons,List.flatten_nil,yAa,aZ,cT,List.length_nil]at this
  omega
 have k9:=kQ (fl:=0) (σ:=[.box (.agg [.str nm,.str tn,.int .i64 a,.int .i64 b,.int .i64 c,.slice (sz 1 w) (w.map i64.U) .any])]) h3 (fun fl=>ON fl (l:=[aZ nm,aZ tn,[a,b,c,(w.length:Int)].flatMap b8,w.flatMap b8]) (by simp) hnE hlen (by simp) _)
 rw[hE]at k9
 have hn:=aNn (aZ nm) (aZ tn) ([a,b,c,(w.length:Int)].flatMap b8) (w.flatMap b8)
 simp only[List.map_cons,List.map_nil]at k9
 have gA:=bH.str (aZ nm)
 obtain⟨p1,eQ⟩:=gn (bH.U (aZ nm))
 have gC:=bH.str (aZ tn)
 obtain⟨p2,rX⟩:=gn (bH.U (aZ tn))
 have iZ:=bH.str ([a,b,c,(w.length:Int)].flatMap b8)
 obtain⟨p3,tP⟩:=gn (bH.U ([a,b,c,(w.length:Int)].flatMap b8))
 have qK:=bH.str (w.flatMap b8)
 obtain⟨p4,hp4⟩:=gn (bH.U (w.flatMap b8))
 rw[eQ,rX,tP,hp4]at k9 hn
 rw[eQ]at gA k1
 rw[rX]at gC k2
 rw[tP]at iZ k3
 rw[hp4]at qK k4
 have iO:gG prog 129 4 (List.map (fun q=>(q.1,q.2.strip)) [((0:Nat),p1),((1:Nat),p2),((2:Nat),p3),((3:Nat),p4)])=some (.slice 1 [p1,p2,p3,p4] .full):=by
  simp only[List.map_cons,List.map_nil,gA,gC,iZ,qK]
  exact hn
 simp only[yAl,List.cons_append,List.nil_append,List.length_cons,List.length_nil,yAp]at k1 k2 k3 k4 k9
 clear hU
 have gx:=True.intro
 refine aC ?_
 clear gx
 refine Wp.seq (Wp.AB (by decide +kernel) ?_)
 have gx:=An @k1 (An @k2 (An @k3 (An @k4 (An @k9 (An @gA (An @gC (An @iZ (An @qK (An @iO (@hn))))))))))
 refine iN ?_
 clear gx
 apply SQ.nil
 have gx:=True.intro
 refine aC ?_
 clear gx
 rw[hE]at hnE
 exact⟨_,_,rfl,.inr ⟨hnE,1,0,rfl,rfl⟩⟩
theorem aKj(h0:E 31=none)(h1:E 27=some zN)(h2:E 65=some wG)(h4:E 66=some CG)(h3:E 58=some (fV 5 rC))
  (r:cF) (hn:r.name.length<=1000000):iS prog E 5 31 [Em.aP.U r] (fI r):=by
 refine iS.of ?_
 obtain⟨nm,a,b,c,t⟩:=r
 simp only at hn
 simp only[X2]
 apply aN.aK h0 func31 rfl
 focus(simp[show Tryz.f31.ntmps=_ from rfl,List.replicate];rfl)
 have k1:=kQ (fl:=0) (σ:=[.box (.agg [.str nm,.int .i64 a,.int .i64 b,.int .i64 c,.bool t])]) h1 (fun fl=>JO fl hn _)
 have k2:=kQ (fl:=0) (σ:=[.box (.agg [.str nm,.int .i64 a,.int .i64 b,.int .i64 c,.bool t])]) (args:=[.slice 1 [.int .i64 a,.int .i64 b,.int .i64 c] .full]) h2 (fun fl=>JP fl (l:=[a,b,c]) (by simp) (by rfl) _)
 have k3:=kQ (fl:=0) (σ:=[.box (.agg [.str nm,.int .i64 a,.int .i64 b,.int .i64 c,.bool t])]) h4 (fun fl=>aDA fl t _)
 have hE:([aZ nm,[a,b,c].flatMap b8,eW t]:List (List UInt8)).flatten=fI ⟨nm,a,b,c,t⟩:=by
  simp[fI]
 obtain⟨L,hL⟩:∃l:List (List UInt8),[aZ nm,[a,b,c].flatMap b8,eW t]=l:=⟨_,rfl⟩
 have hlen:([aZ nm,[a,b,c].flatMap b8,eW t]:List (List UInt8)).flatten.length<=100000000:=by
  simp only[List.flatten_cons,List.flatten_nil,yAa,wJ,aZ,eW,cT,List.length_cons,List.length_nil]
  omega
 have hnE:([aZ nm,[a,b,c].flatMap b8,eW t]:List (List UInt8)).flatten≠[]:=fun e=>by
  have:=congrArg List.length e
  simp only[List.flatten_cons,List.flatten_nil,yAa,aZ,cT,List.length_nil]at this
  omega
 have k9:=kQ (fl:=0) (σ:=[.box (.agg [.str nm,.int .i64 a,.int .i64 b,.int .i64 c,.bool t])]) h3 (fun fl=>ON fl (l:=[aZ nm,[a,b,c].flatMap b8,eW t]) (by simp) hnE hlen (by simp) _)
 rw[hE]at k9
 have hn:=aDB (aZ nm) ([a,b,c].flatMap b8) (eW t)
 simp only[List.map_cons,List.map_nil]at k9
 have gA:=bH.str (aZ nm)
 obtain⟨p1,eQ⟩:=gn (bH.U (aZ nm))
 have gC:=bH.str ([a,b,c].flatMap b8)
 obtain⟨p2,rX⟩:=gn (bH.U ([a,b,c].flatMap b8))
 have iZ:=bH.str (eW t)
 obtain⟨p3,tP⟩:=gn (bH.U (eW t))
 rw[eQ,rX,tP]at k9 hn
 rw[eQ]at gA k1
 rw[rX]at gC k2
 rw[tP]at iZ k3
 have iO:gG prog 129 3 (List.map (fun q=>(q.1,q.2.strip)) [((0:Nat),p1),((1:Nat),p2),((2:Nat),p3)])=some (.slice 1 [p1,p2,p3] .full):=by
  simp only[List.map_cons,List.map_nil,gA,gC,iZ]
  exact hn
 simp only[yAl,List.cons_append,List.nil_append,List.length_cons,List.length_nil,yAp]at k1 k2 k3 k9
 clear hU
 have gx:=True.intro
 refine aC ?_
 clear gx
 refine Wp.seq (Wp.AB (by decide +kernel) ?_)
 have gx:=An @k1 (An @k2 (An @k3 (An @k9 (An @gA (An @gC (An @iZ (An @iO (@hn))))))))
 refine iN ?_
 clear gx
 apply SQ.nil
 have gx:=True.intro
 refine aC ?_
 clear gx
 rw[hE]at hnE
 exact⟨_,_,rfl,.inr ⟨hnE,1,0,rfl,rfl⟩⟩
end
section
theorem sH{α:Type}(f:α->List UInt8)(l:List α)(i:Nat):((l.take i).flatMap f).length<=(l.flatMap f).length:=by
 have:l.flatMap f=(l.take i).flatMap f++(l.drop i).flatMap f:=by rw[<-List.flatMap_append,List.take_append_drop]
 rw[this,yAa]
 omega
theorem sG{α:Type}(f:α->List UInt8)(l:List α)(i:Nat)(h:i<l.length):(l.take (i+1)).flatMap f=(l.take i).flatMap f++f l[i]:=by
 rw[List.take_add_one,yAh h,List.flatMap_append]
 simp only[Option.toList,List.flatMap_cons,List.flatMap_nil,yAl]
theorem aDC(fl:Nat){l:List Int}(h0:l≠[])(h:l.length<=1000000){p:PD}(hp:p.strip=eD.U l){ys:List UInt8}(hy:l.flatMap b8=ys)(σ:List aB):wG fl [p] σ=some (.slice 1 (aG ys) .any,σ):=by
 rw[aDD fl h hp,cG h0,hy]
theorem jK.lt{σ:List aB}{p:PD}{bs:List UInt8}(h:jK σ p bs){id:Nat}(hi:σ.length<=id):¬kW p id:=by
 rintro⟨v,off,n,s,rfl⟩
 rcases h with⟨_,e⟩ | ⟨_,k,w,e,hk⟩
 ·cases e
 ·cases e
  have:=(yA.1 hk).1
  omega
theorem rJ{α:Type}{f:α->List UInt8}(hf:∀x,1<=(f x).length):∀l:List α,l.length<=(l.flatMap f).length
 | []=>yAk _
 |x::r=>by
  have:=rJ hf r
  have:=hf x
  rw[List.flatMap_cons,yAa,List.length_cons]
  omega
variable{E:aD}(hU:aI E)
include hU
theorem aKl(h0:E 67=none)(h1:E 27=some zN)(h2:E 65=some wG)(h3:E 58=some (fV 5 rC))
  (r:dG) (hn:r.name.length<=1000000) (hT:(fE r).length<=100000000):iS prog E 5 67 [Em.stop.U r] (fE r):=by
 refine iS.of ?_
 obtain⟨nm,a,b,gs⟩:=r
 simp only at hn
 simp only[vU,bJ]
 obtain⟨pre,hpre⟩:=gn (aZ nm++[a,b,(gs.length:Int)].flatMap b8)
 have hsp:fE ⟨nm,a,b,gs⟩=pre++gs.flatMap iT:=by rw[<-hpre];simp[fE,pI,eList]
 rw[hsp]at hT ⊢
 apply aN.aK h0 func67 rfl
 focus(simp[show Tryz.f67.ntmps=_ from rfl,List.replicate];rfl)
 clear hU
 have gx:=True.intro
 refine aC ?_
 clear gx
 have k1:=kQ (fl:=0) (σ:=[.box (.agg [.str nm,.int .i64 a,.int .i64 b,.slice (sz 3 gs) (gs.map Em.bL.U) .any])]) h1 (fun fl=>JO fl hn _)
 have k2:=kQ (fl:=0) (σ:=[.box (.agg [.str nm,.int .i64 a,.int .i64 b,.slice (sz 3 gs) (gs.map Em.bL.U) .any])]) (args:=[.slice 1 [.int .i64 a,.int .i64 b,.int .i64 gs.length] .full]) h2 (fun fl=>JP fl (l:=[a,b,gs.length]) (by simp) (by rfl) _)
 have hE:([aZ nm,[a,b,(gs.length:Int)].flatMap b8]:List (List UInt8)).flatten=pre:=by
  simp[<-hpre]
 have hlen:([aZ nm,[a,b,(gs.length:Int)].flatMap b8]:List (List UInt8)).flatten.length<=100000000:=by
  simp only[List.flatten_cons,List.flatten_nil,yAa,wJ,aZ,eW,cT,List.length_cons,List.length_nil]
  omega
 have hnE:([aZ nm,[a,b,(gs.length:Int)].flatMap b8]:List (List UInt8)).flatten≠[]:=fun e=>by
  have:=congrArg List.length e
  simp only[List.flatten_cons,List.flatten_nil,yAa,aZ,cT,List.length_nil]at this
  omega
 have k9:=kQ (fl:=0) (σ:=[.box (.agg [.str nm,.int .i64 a,.int .i64 b,.slice (sz 3 gs) (gs.map Em.bL.U) .any])]) h3 (fun fl=>ON fl (l:=[aZ nm,[a,b,(gs.length:Int)].flatMap b8]) (by simp) hnE hlen (by simp) _)
 rw[hE]at k9 hnE hlen
 have hn:=aNh (aZ nm) ([a,b,(gs.length:Int)].flatMap b8)
 simp only[List.map_cons,List.map_nil]at k9
 have gA:=bH.str (aZ nm)
 obtain⟨p1,eQ⟩:=gn (bH.U (aZ nm))
 have gC:=bH.str ([a,b,(gs.length:Int)].flatMap b8)
 obtain⟨p2,rX⟩:=gn (bH.U ([a,b,(gs.length:Int)].flatMap b8))
 rw[eQ,rX]at k9 hn
 rw[eQ]at gA k1
 rw[rX]at gC k2
 have iO:gG prog 129 2 (List.map (fun q=>(q.1,q.2.strip)) [((0:Nat),p1),((1:Nat),p2)])=some (.slice 1 [p1,p2] .full):=by
  simp only[List.map_cons,List.map_nil,gA,gC]
  exact hn
 simp only[yAl,List.cons_append,List.nil_append,List.length_cons,List.length_nil,yAp]at k1 k2 k9
 refine Wp.seq (Wp.AB (by decide +kernel) ?_)
 have gx:=An @k1 (An @k2 (An @k9 (An @gA (An @gC (An @iO (@hn))))))
 refine iN ?_
 clear gx
 apply SQ.nil
 obtain⟨tot,htot⟩:=gn (gs.length)
 have OO:jK [.box (.agg [.str nm,.int .i64 a,.int .i64 b,.slice (sz 3 gs) (gs.map Em.bL.U) .any]),.row 5 1 0 (aG pre)] (.aF 1 0 0 pre.length 1) pre:=.inr ⟨hnE,1,0,rfl,rfl⟩
 obtain⟨wM,wN⟩:=gn ([aB.box (.agg [.str nm,.int .i64 a,.int .i64 b,.slice (sz 3 gs) (gs.map Em.bL.U) .any]),.row 5 1 0 (aG pre)])
 rw[wN]at OO
 have hTl:pre.length+(gs.flatMap iT).length<=100000000:=by rw[yAa]at hT;exact hT
 have ht:iF 30 60=true:=by decide
 have htb:=rJ (f:=iT) (fun x=>by simp only[iT,yAa,cT];omega) gs
 obtain⟨A0,rH⟩:=gn (PD.agg [.str nm,.int .i64 a,.int .i64 b,.slice (sz 3 gs) (gs.map Em.bL.U) .any])
 have gx:=True.intro
 refine aC ?_
 clear gx
 rw[wN,htot]
 refine Wp.cJ (fun m fr σ=>∃(i:Nat) (p:PD) (σ1:List aB),∃gg:Nat->PD,(i+m=tot/\jK σ1 p (pre++(gs.take i).flatMap iT))/\fr=gg 0::gg 1::gg 2::p::gg 4::gg 5::gg 6::gg 7::gg 8::gg 9::gg 10::gg 11::gg 12::gg 13::gg 14::gg 15::gg 16::gg 17::gg 18::gg 19::gg 20::gg 21::gg 22::gg 23::gg 24::.slice (sz 3 gs) (gs.map Em.bL.U) .any::.int .i64 tot::.int .i64 i::gg 28::gg 29::gg 30::gg 31::gg 32::gg 33::gg 34::gg 35::gg 36::gg 37::gg 38::gg 39::gg 40::gg 41::gg 42::gg 43::gg 44::gg 45::gg 46::gg 47::gg 48::gg 49::gg 50::gg 51::gg 52::gg 53::gg 54::gg 55::gg 56::gg 57::gg 58::gg 59::[]/\σ=σ1) ?_ (tot) ⟨0,_,wM,bW (⟨by omega,(by simpa using OO)⟩)⟩
 rintro m fr σ ⟨i,p,σ1,gg,hI,rfl,rfl⟩
 obtain⟨M,rfl⟩:∃M,M=m:=⟨_,rfl⟩
 obtain⟨gq,rfl⟩:∃M,M=gg:=⟨_,rfl⟩
 obtain⟨hm,ho⟩:=hI
 by_cases hi:i<tot
 ·have q1:(i:Int)<tot:=by omega
  have hil:i<gs.length:=by omega
  have hz:sz 3 gs=3:=cG (fun e=>by rw[e]at hil;simp at hil)
  have hpn:=sG iT gs i hil
  have hpl:=sH iT gs (i+1)
  obtain⟨⟨lo,hg,ds⟩,hx⟩:∃x,gs[i]=x:=⟨_,rfl⟩
  rw[hx]at hpn
  have hes:iT ⟨lo,hg,ds⟩=[lo,hg,(ds.length:Int)].flatMap b8++ds.flatMap jJ:=by simp[iT,eList]
  rw[hes]at hpn
  rw[hpn]at hpl
  simp only[yAa]at hpl
  obtain⟨cur,hcur⟩:=gn (pre++(gs.take i).flatMap iT)
  have hcl:=congrArg List.length hcur
  rw[yAa]at hcl
  rw[hcur]at ho
  obtain⟨ys,hys⟩:=gn ([lo,hg,(ds.length:Int)].flatMap b8)
  have hG:=fun σ=>aDC 0 (l:=[lo,hg,(ds.length:Int)]) (by simp) (by simp) (p:=.slice 1 [.int .i64 lo,.int .i64 hg,.int .i64 ds.length] .full) (by rfl) hys σ
  rw[hys]at hpn hpl
  obtain⟨p',σ',ap,ho',hlen',hkp,hid⟩:=tX ht (ys:=ys) (z:=1) (tok:=.any) (ho.more [.box (.agg [.int .i64 lo,.int .i64 hg,.slice (sz 2 ds) (ds.map Em.draw.U) .any])]) (.inr rfl) (by rw[yAa];omega)
  have pC:=hkp σ.length _ ((ho.lt (yAk _))) (yBb)
  obtain⟨w2,z2⟩:=yA.1 pC
  have es:∀X Y,(σ++[aB.box X]).set σ.length (.box Y)=σ++[.box Y]:=fun X Y=>by simp
  have cY:∀X:aB,(σ++[X])[σ.length]?=some X:=fun X=>by simp
  obtain⟨dt,hdt⟩:=gn (ds.length)
  rw[hdt]at hG
  have gx:=An @q1 (An @hx (An @hil (An @hz (An @h2 (An @hG (An @ht (An @ap (An @cY (An @es (An @pC (An @w2 (An @z2 (@hdt)))))))))))))
  refine aC ?_
  clear gx
  have hdb:=rJ (f:=jJ) (fun x=>by simp only[jJ,yAa,cT];omega) ds
  obtain⟨QO,VN⟩:=gn (cur++ys)
  have aNi:=congrArg List.length VN
  rw[yAa]at aNi
  rw[VN]at ho'
  clear hkp hid ap pC z2
  refine Wp.cJ (fun m fr σ=>∃(j:Nat) (p:PD) (σ1:List aB),∃gg:Nat->PD,(j+m=dt/\jK σ1 p (QO++(ds.take j).flatMap jJ))/\fr=gg 0::gg 1::gg 2::p::gg 4::gg 5::gg 6::gg 7::gg 8::gg 9::gg 10::gg 11::gg 12::gg 13::gg 14::gg 15::gg 16::gg 17::gg 18::gg 19::gg 20::gg 21::gg 22::gg 23::gg 24::.slice (sz 3 gs) (gs.map Em.bL.U) .any::.int .i64 tot::.int .i64 i::gg 28::gg 29::gg 30::gg 31::gg 32::gg 33::gg 34::gg 35::gg 36::gg 37::gg 38::gg 39::gg 40::gg 41::gg 42::.slice (sz 2 ds) (ds.map Em.draw.U) .any::.int .i64 dt::.int .i64 j::gg 46::gg 47::gg 48::gg 49::gg 50::gg 51::gg 52::gg 53::gg 54::gg 55::gg 56::gg 57::gg 58::gg 59::[]/\σ=σ1) ?_ (dt) ⟨0,_,σ',bW (⟨by omega,(by simpa using ho')⟩)⟩
  rintro m fr σ ⟨j,p,σ1,gg,hI,rfl,rfl⟩
  obtain⟨hm2,jV⟩:=hI
  by_cases hj:j<dt
  ·have q2:(j:Int)<dt:=by omega
   have hjl:j<ds.length:=by omega
   have xP:sz 2 ds=2:=cG (fun e=>by rw[e]at hjl;simp at hjl)
   have JQ:=sG jJ ds j hjl
   have aDE:=sH jJ ds (j+1)
   obtain⟨⟨rk,sh⟩,hx2⟩:∃x,ds[j]=x:=⟨_,rfl⟩
   rw[hx2]at JQ
   have hed:jJ ⟨rk,sh⟩=[rk,sh].flatMap b8:=by simp[jJ]
   rw[hed]at JQ
   obtain⟨zs,hzs⟩:=gn ([rk,sh].flatMap b8)
   have hG2:=fun σ=>aDC 0 (l:=[rk,sh]) (by simp) (by simp) (p:=.slice 1 [.int .i64 rk,.int .i64 sh] .full) (by rfl) hzs σ
   rw[hzs]at JQ
   rw[JQ]at aDE
   simp only[yAa]at aDE
   obtain⟨p2,σ2,ap2,ho3,_,_,_⟩:=tX ht (ys:=zs) (z:=1) (tok:=.any) (jV.more [.box (.agg [.int .i64 rk,.int .i64 sh])]) (.inr rfl) (by rw[yAa,yAa];omega)
   have es:∀X Y,(σ++[aB.box X]).set σ.length (.box Y)=σ++[.box Y]:=fun X Y=>by simp
   have cY:∀X:aB,(σ++[X])[σ.length]?=some X:=fun X=>by simp
   rw[yAi,<-JQ]at ho3
   have gx:=An @q2 (An @hx2 (An @hjl (An @xP (An @h2 (An @hG2 (An @ht (An @ap2 (An @cY (@es)))))))))
   refine aC ?_
   clear gx
   refine bP.normal (m-1) (by omega) (by refine⟨j+1,p2,σ2,?_⟩;exact cW (⟨by omega,ho3⟩) (by(first|rfl|(simp[hx2];repeat(first|rfl|(apply And.intro)))|(simp[hx2];done))) (by(first|rfl|(simp[hx2];repeat(first|rfl|(apply And.intro)))|(simp[hx2];done))))
  ·have q2:¬(j:Int)<dt:=by omega
   have ej:j=dt:=by omega
   rw[ej,<-hdt,List.take_length,<-VN,<-hcur,yAi,yAi,<-hpn]at jV
   have gx:=@q2
   refine aC ?_
   clear gx
   refine bP.normal (M-1) (by omega) (by refine⟨i+1,p,σ,?_⟩;exact cW (⟨by omega,jV⟩) (by(first|rfl|(simp[hx];repeat(first|rfl|(apply And.intro)))|(simp[hx];done))) (by(first|rfl|(simp[hx];repeat(first|rfl|(apply And.intro)))|(simp[hx];done))))
 ·have q1:¬(i:Int)<tot:=by omega
  have ei:i=tot:=by omega
  rw[ei,<-htot,List.take_length]at ho
  have gx:=@q1
  refine aC ?_
  clear gx
  exact⟨_,_,rfl,ho⟩
end
end Go.Kz
end
