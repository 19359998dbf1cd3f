/-
  Part D8 of the way: an interpreter over pure data, its soundness, walks through functions.
-/
import Derived.Test.YtefkonhamghgfaaGreatDoorP5
import Derived.Test.YtefkonhamghgfaaGreatDoorD1
set_option linter.all false

set_option maxHeartbeats 40000000
open Go.Proofs.Tryz
namespace Go.Kz
open Go Go.Proofs
set_option maxRecDepth 100000
section
variable{E:aD}(hU:aI E)
include hU
theorem aLO(h0:E 47=none)(h1:E 48=some (mB Em.aR s9))(l r:List bM)(hl:l.length<=1000000/\∀x∈l,s9 x)(hr:r.length<=1000000/\∀x∈r,s9 x) :
  aS prog E 47 [(aX).U l,(aX).U r,.func 48 []] (Em.bool.U (decide (l=r))):=by
 have uG:=hl.1
 have mF:=hr.1
 apply aS.aK h0 func47 rfl
 focus(simp[show Tryz.f47.ntmps=_ from rfl,List.replicate];rfl)
 by_cases hq:l.length=r.length
 ·have eC:(l.length:Int)=(r.length:Int):=by omega
  obtain⟨B,hB⟩:∃B,decide (l=r)=B:=⟨_,rfl⟩
  rw[hB]
  have gx:=An @hq (@eC)
  refine aC ?_
  clear gx
  refine Wp.cJ (fun m fr σ=>∃(i:Nat) (σ1:List aB),∃gg:Nat->PD,(i+m=l.length/\decide (l.drop i=r.drop i)=B)/\fr=[(aX).U l,(aX).U r,.func 48 [],gg 3,gg 4,gg 5,.bool false,gg 7,gg 8,gg 9,(aX).U l,gg 11,gg 12,gg 13,gg 14,(aX).U l,.int .i64 l.length,.int .i64 i,gg 18,gg 19,gg 20,gg 21,gg 22,gg 23,gg 24,gg 25,gg 26,gg 27,gg 28,gg 29,gg 30,gg 31]/\σ=σ1) ?_ (l.length) (by refine⟨0,[],?_⟩;exact cW (⟨by omega,hB⟩) (by(first|rfl|(simp[hq];repeat(first|rfl|(apply And.intro)))|(simp[hq];done))) (by(first|rfl|(simp[hq];repeat(first|rfl|(apply And.intro)))|(simp[hq];done))))
  rintro m fr σ ⟨i,σ1,gg,hI,rfl,rfl⟩
  obtain⟨hm,hs⟩:=hI
  by_cases hi:i<l.length
  ·have q1:(i:Int)<(l.length:Int):=by omega
   have hir:i<r.length:=by omega
   obtain⟨a,ha⟩:=gn (l[i])
   obtain⟨b,hb⟩:=gn (r[i])
   have dT:l.drop i=a::l.drop (i+1):=by rw[yAq hi,ha]
   have hc2:r.drop i=b::r.drop (i+1):=by rw[yAq hir,hb]
   rw[dT,hc2,A5]at hs
   have j0:∀x y:aB,(σ++[x,y])[σ.length]?=some x:=fun x y=>by simp
   have j1:∀x y:aB,(σ++[x,y])[σ.length+1]?=some y:=fun x y=>by simp
   have q2:(i:Int)<(r.length:Int):=by omega
   have hE:=fun fl σ=>wX (a:=Em.aR) (hl.2 a (ha▸yAm hi)) (hr.2 b (hb▸yAm hir)) fl σ
   by_cases hab:a=b
   rotate_left
   ·rw[decide_eq_false hab,Bool.false_and]at hs
    rw[decide_eq_false hab]at hE
    simp only[vT,bJ]at hE
    have eU:B=false:=hs.symm
    have gx:=An @q1 (An @q2 (An @hi (An @hir (An @ha (An @hb (An @j0 (@j1)))))))
    refine aC ?_
    clear gx
    first|refine Wp.seq ?_|skip
    apply Wp.jQ
    have gx:=An @h1 (An @hE (An @j0 (@j1)))
    refine iN ?_
    clear gx
    apply SQ.nil
    have gx:=@q1
    refine aC ?_
    clear gx
    simp(disch:=first|omega|(simp;done)|(simp;omega)) [yAu,eU]<;>try rfl
   ·rw[decide_eq_true hab,Bool.true_and]at hs
    rw[decide_eq_true hab]at hE
    simp only[vT,bJ]at hE
    have gx:=An @q1 (An @q2 (An @hi (An @hir (An @ha (An @hb (An @j0 (@j1)))))))
    refine aC ?_
    clear gx
    first|refine Wp.seq ?_|skip
    apply Wp.jQ
    have gx:=An @h1 (An @hE (An @j0 (@j1)))
    refine iN ?_
    clear gx
    apply SQ.nil
    have gx:=@q1
    refine aC ?_
    clear gx
    refine bP.normal (m-1) (by omega) ⟨i+1,_,bW (⟨by omega,hs⟩)⟩
  ·have q1:¬(i:Int)<(l.length:Int):=by omega
   rw[yAs (by omega),yAs (by omega)]at hs
   have eU:B=true:=hs.symm
   have q2:¬(i:Int)<(r.length:Int):=by omega
   have gx:=An @q1 (@q2)
   refine aC ?_
   clear gx
   simp(disch:=first|omega|(simp;done)|(simp;omega)) [yAu,eU]<;>try rfl
 ·have eC:¬(l.length:Int)=(r.length:Int):=by omega
  have hF:=A6 hq
  have gx:=An @hq (@eC)
  refine aC ?_
  clear gx
  simp(disch:=first|omega|(simp;done)|(simp;omega)) [yAu,hF]<;>try rfl
theorem aLS(h0:E 44=none)(h1:E 41=some (mB Em.bL yL))(l r:List fY)(hl:l.length<=1000000/\∀x∈l,yL x)(hr:r.length<=1000000/\∀x∈r,yL x) :
  aS prog E 44 [(jA).U l,(jA).U r,.func 41 []] (Em.bool.U (decide (l=r))):=by
 have uG:=hl.1
 have mF:=hr.1
 apply aS.aK h0 func44 rfl
 focus(simp[show Tryz.f44.ntmps=_ from rfl,List.replicate];rfl)
 by_cases hq:l.length=r.length
 ·have eC:(l.length:Int)=(r.length:Int):=by omega
  obtain⟨B,hB⟩:∃B,decide (l=r)=B:=⟨_,rfl⟩
  rw[hB]
  have gx:=An @hq (@eC)
  refine aC ?_
  clear gx
  refine Wp.cJ (fun m fr σ=>∃(i:Nat) (σ1:List aB),∃gg:Nat->PD,(i+m=l.length/\decide (l.drop i=r.drop i)=B)/\fr=[(jA).U l,(jA).U r,.func 41 [],gg 3,gg 4,gg 5,.bool false,gg 7,gg 8,gg 9,(jA).U l,gg 11,gg 12,gg 13,gg 14,(jA).U l,.int .i64 l.length,.int .i64 i,gg 18,gg 19,gg 20,gg 21,gg 22,gg 23,gg 24,gg 25,gg 26,gg 27,gg 28,gg 29,gg 30,gg 31]/\σ=σ1) ?_ (l.length) (by refine⟨0,[],?_⟩;exact cW (⟨by omega,hB⟩) (by(first|rfl|(simp[hq];repeat(first|rfl|(apply And.intro)))|(simp[hq];done))) (by(first|rfl|(simp[hq];repeat(first|rfl|(apply And.intro)))|(simp[hq];done))))
  rintro m fr σ ⟨i,σ1,gg,hI,rfl,rfl⟩
  obtain⟨hm,hs⟩:=hI
  by_cases hi:i<l.length
  ·have q1:(i:Int)<(l.length:Int):=by omega
   have hir:i<r.length:=by omega
   obtain⟨a,ha⟩:=gn (l[i])
   obtain⟨b,hb⟩:=gn (r[i])
   have dT:l.drop i=a::l.drop (i+1):=by rw[yAq hi,ha]
   have hc2:r.drop i=b::r.drop (i+1):=by rw[yAq hir,hb]
   rw[dT,hc2,A5]at hs
   have j0:∀x y:aB,(σ++[x,y])[σ.length]?=some x:=fun x y=>by simp
   have j1:∀x y:aB,(σ++[x,y])[σ.length+1]?=some y:=fun x y=>by simp
   have q2:(i:Int)<(r.length:Int):=by omega
   have hE:=fun fl σ=>wX (a:=Em.bL) (hl.2 a (ha▸yAm hi)) (hr.2 b (hb▸yAm hir)) fl σ
   by_cases hab:a=b
   rotate_left
   ·rw[decide_eq_false hab,Bool.false_and]at hs
    rw[decide_eq_false hab]at hE
    simp only[GY,bJ]at hE
    have eU:B=false:=hs.symm
    have gx:=An @q1 (An @q2 (An @hi (An @hir (An @ha (An @hb (An @j0 (@j1)))))))
    refine aC ?_
    clear gx
    first|refine Wp.seq ?_|skip
    apply Wp.jQ
    have gx:=An @h1 (An @hE (An @j0 (@j1)))
    refine iN ?_
    clear gx
    apply SQ.nil
    have gx:=@q1
    refine aC ?_
    clear gx
    simp(disch:=first|omega|(simp;done)|(simp;omega)) [yAu,eU]<;>try rfl
   ·rw[decide_eq_true hab,Bool.true_and]at hs
    rw[decide_eq_true hab]at hE
    simp only[GY,bJ]at hE
    have gx:=An @q1 (An @q2 (An @hi (An @hir (An @ha (An @hb (An @j0 (@j1)))))))
    refine aC ?_
    clear gx
    first|refine Wp.seq ?_|skip
    apply Wp.jQ
    have gx:=An @h1 (An @hE (An @j0 (@j1)))
    refine iN ?_
    clear gx
    apply SQ.nil
    have gx:=@q1
    refine aC ?_
    clear gx
    refine bP.normal (m-1) (by omega) ⟨i+1,_,bW (⟨by omega,hs⟩)⟩
  ·have q1:¬(i:Int)<(l.length:Int):=by omega
   rw[yAs (by omega),yAs (by omega)]at hs
   have eU:B=true:=hs.symm
   have q2:¬(i:Int)<(r.length:Int):=by omega
   have gx:=An @q1 (@q2)
   refine aC ?_
   clear gx
   simp(disch:=first|omega|(simp;done)|(simp;omega)) [yAu,eU]<;>try rfl
 ·have eC:¬(l.length:Int)=(r.length:Int):=by omega
  have hF:=A6 hq
  have gx:=An @hq (@eC)
  refine aC ?_
  clear gx
  simp(disch:=first|omega|(simp;done)|(simp;omega)) [yAu,hF]<;>try rfl
end
section
theorem aPc{P:Program}{σ:List aB}{t e:TypeId}{k b s z:Nat}{xs ys:List PD}{tk tok:Tok}(hu:P.underlying t=some (.slice e))(hi:mS P e=some (k,b))(hs:xs=[]\/s=k)(hz:ys=[]\/z=k)(hr:cV σ tok e k xs.length)
  (hm:xs.length+ys.length<=100000000000000) (hb:(xs.length+ys.length)*b<=140737488355328) :
  ∃bQ σ',fZ P 0 σ t (.slice s xs tok) (.slice z ys tk)=some (.slice (if ys.length=0 then s else k) (xs++ys) bQ,σ')/\cV σ' bQ e k (xs.length+ys.length)/\σ.length<=σ'.length/\(∀id o,tok≠.own id->σ[id]?=some o->σ'[id]?=some o)/\(∀id,bQ=.own id->tok=.own id\/id=σ.length):=by
 unfold mS at hi
 split at hi
 ·rename_i i h1
  split at hi
  ·rename_i z0 h2
   split at hi
   ·rename_i h3
    simp only[yAb,yAc]at hi
    obtain⟨rfl,rfl⟩:=hi
    have hs':xs.length=0\/s=i.size:=hs.imp (fun h=>by rw[h];rfl) (fun h=>h)
    have rY:ys.length=0\/z=i.size:=hz.imp (fun h=>by rw[h];rfl) (fun h=>h)
    have hmm:xs.length+ys.length<=maxLen:=by simp only[maxLen];omega
    by_cases h0:ys.length=0
    ·have hy:ys=[]:=yAf h0
     subst hy
     refine⟨tok,σ,?_,by simpa using hr,yAk _,fun _ _ _ h=>h,fun _ h=>.inl h⟩
     simp only[fZ,hu,h1,h2,List.length_nil,true_or,hs',h3.1,h3.2,and_self,Nat.add_zero]at hmm hb ⊢
     simp[hmm,hb]
    have gL:z=i.size:=rY.resolve_left h0
    rcases hr with⟨hn,rfl⟩ | ⟨hpos,id,rfl,hid⟩
    ·refine⟨.own σ.length,σ++[.own e i.size (xs.length+ys.length)],?_,.inr ⟨by omega,_,rfl,yBb⟩,by simp,fun id o _ h=>?_,fun id h=>?_⟩
     ·simp only[fZ,hu,h1,h2,gL,hs',h3.2,h3.1,hmm,hb,or_true,and_self,if_true,h0,if_false]
     ·rw[yAg (yA.1 h).1];exact h
     ·right;simpa using h.symm
    ·have hlt:=(yA.1 hid).1
     have hsz:s=i.size:=hs'.resolve_left (by omega)
     refine⟨.own id,σ.set id (.own e i.size (xs.length+ys.length)),?_,.inr ⟨by omega,id,rfl,by rw[yAj hlt]⟩,by simp,fun j o hj h=>?_,fun j h=>.inl h⟩
     ·simp only[fZ,hu,h1,h2,gL,h3.2,h3.1,hmm,hb,or_true,and_self,if_true,h0,if_false,hsz,yBf,hid]
     ·have hne:id≠j:=fun e=>hj (by rw[e])
      rw[yAd hne];exact h
   ·cases hi
  ·cases hi
 ·cases hi
def mN(bs:List UInt8)(tok:Tok):PD:=.slice (sz 1 bs) (aG bs) tok
def gT(σ:List aB)(id:Nat)(tok:Tok)(bs:List UInt8):Prop:=σ[id]?=some (.box (.agg [mN bs tok]))/\cV σ tok 5 1 bs.length
def iC(τ σ:List aB)(id:Nat)(tok bQ:Tok):Prop:=τ.length<=σ.length/\(∀j,j<τ.length->j≠id->tok≠.own j->σ[j]?=τ[j]?)/\∀j,bQ=.own j->tok=.own j\/τ.length<=j
theorem iC.refl{τ:List aB}{id:Nat}{p:Tok}:iC τ τ id p p:=⟨yAk _,fun _ _ _ _=>rfl,fun _ h=>.inl h⟩
theorem iC.trans{τ σ ρ:List aB}{id:Nat}{p p1 p2:Tok}(h:iC τ σ id p p1)(k:iC σ ρ id p1 p2):iC τ ρ id p p2:=by
 obtain⟨h1,h2,h3⟩:=h
 obtain⟨k1,k2,k3⟩:=k
 refine⟨by omega,fun j a b c=>?_,fun j a=>?_⟩
 ·rw[k2 j (by omega) b (fun e=>(h3 j e).elim c (fun _=>by omega))]
  exact h2 j a b c
 ·rcases k3 j a with e|e
  ·exact h3 j e
  ·exact .inr (by omega)
theorem gT.lt{σ:List aB}{id:Nat}{p:Tok}{bs:List UInt8}(h:gT σ id p bs):id<σ.length:=(yA.1 h.1).1
theorem gT.at{σ:List aB}{id:Nat}{p:Tok}{bs:List UInt8}(h:gT σ id p bs):∃w:id<σ.length,σ[id]=.box (.agg [mN bs p]):=yA.1 h.1
theorem gT.ne{σ:List aB}{id:Nat}{p:Tok}{bs:List UInt8}(h:gT σ id p bs):p≠.own id:=fun e=>by
 rcases h.2 with⟨_,e2⟩ | ⟨_,j,e2,h2⟩
 ·rw[e]at e2;cases e2
 ·rw[e]at e2;cases e2
  rw[h.1]at h2;cases h2
theorem gT.more{σ:List aB}{id:Nat}{p:Tok}{bs:List UInt8}(h:gT σ id p bs)(ρ:List aB):gT (σ++ρ) id p bs:=by
 refine⟨?_,h.2.more⟩
 rw[yAg h.lt]
 exact h.1
theorem gT.app{σ:List aB}{id:Nat}{tok tk:Tok}{bs ys:List UInt8}{z:Nat}(h:gT σ id tok bs)(hz:ys=[]\/z=1)(hl:(bs++ys).length<=1000000000) :
  ∃bQ σ',fZ prog 0 σ 30 (mN bs tok) (.slice z (aG ys) tk)=some (mN (bs++ys) bQ,σ')/\σ'[id]?=some (.box (.agg [mN bs tok]))/\id<σ'.length/\gT (σ'.set id (.box (.agg [mN (bs++ys) bQ]))) id bQ (bs++ys)/\iC σ (σ'.set id (.box (.agg [mN (bs++ys) bQ]))) id tok bQ:=by
 have hne:=h.ne
 obtain⟨h1,h2⟩:=h
 have hlt:=(yA.1 h1).1
 rw[yAa]at hl
 obtain⟨bQ,σ',ap,hr,hle,hk,hi⟩:=aPc (P:=prog) (t:=30) (e:=5) (k:=1) (b:=1) (s:=sz 1 bs) (xs:=aG bs) (ys:=aG ys) (z:=z) (tk:=tk) underlying30 (by kernel_rfl) (by
  by_cases e:bs=[]
  ·exact .inl (by rw[e];rfl)
  ·exact .inr (cG e)) (hz.imp (fun e=>by rw[e];rfl) (fun e=>e)) (by rw[iD];exact h2) (by rw[iD,iD];omega) (by rw[iD,iD];omega)
 have hp:PD.slice (if (aG ys).length=0 then sz 1 bs else 1) (aG bs++aG ys) bQ=mN (bs++ys) bQ:=by
  unfold mN aG
  rw[yBh,yAe]
  congr 1
  by_cases e:ys=[]
  ·rw[e];simp
  ·rw[if_neg (fun h=>e (yAf h)),cG (by simp[e])]
 rw[hp]at ap
 rw[iD,iD]at hr
 have hn:bQ≠.own id:=fun e=>(hi id e).elim hne (fun e=>by omega)
 refine⟨bQ,σ',ap,hk id _ hne h1,by omega,⟨yAj (by omega),?_⟩,by rw[yBd];exact hle,fun j a b c=>?_,fun j a=>?_⟩
 ·rw[yAa]
  refine hr.dH fun q o e h=>?_
  rw[yAd (fun e2=>hn (by rw[e2];exact e))]
  exact h
 ·rw[yAd (fun e=>b e.symm),yAh a]
  exact hk j _ c (yAh a)
 ·rcases hi j a with e|e
  ·exact .inl e
  ·exact .inr (by omega)
def cI(E:aD)(f:FuncId)(A:Nat->List PD)(enc:List UInt8):Prop:=∀(τ:List aB) (id:Nat) (p:Tok) (bs:List UInt8),gT τ id p bs->(bs++enc).length<=1000000000 ->
 aN prog E 0 (.inl f) (A id) τ (fun r σ=>r.strip=.aH []/\∃p',gT σ id p' (bs++enc)/\iC τ σ id p p')
theorem cI.at{E:aD}{f:FuncId}{A:Nat->List PD}{enc:List UInt8}(h:cI E f A enc){τ:List aB}{id:Nat}{p:Tok}{bs:List UInt8}(hw:gT τ id p bs)(hl:(bs++enc).length<=1000000000) :
  ∃σ p',aO prog E f 0 (A id) τ=some (.aH [],σ)/\gT σ id p' (bs++enc)/\iC τ σ id p p':=by
 have hne:τ≠[]:=fun e=>by
  have:=hw.lt
  rw[e]at this
  exact absurd this (Nat.not_lt_zero _)
 obtain⟨r,σ,h1,h2,p',h3⟩:=(h τ id p bs hw hl).st hne
 exact⟨σ,p',by rw[h1,h2],h3⟩
variable{E E1:aD}(hU:aI E)
include hU
theorem aKx(h0:E 92=none)(n:Int):cI E 92 (fun id=>[.ptr id 0,.int .i64 n]) (b8 n):=by
 intro τ id p0 gV eO hl0
 have hw:=aDI n
 apply aN.aK h0 func92 rfl
 focus(simp[show Tryz.f92.ntmps=_ from rfl,List.replicate];rfl)
 have gx:=True.intro
 refine aC ?_
 clear gx
 refine Wp.cJ (fun m fr σ=>∃(i:Nat) (p:Tok) (bs:List UInt8) (σ1:List aB),∃gg:Nat->PD,(i+m=8/\bs=((List.range i).map fun i=>UInt8.ofNat (oI n/256^i))/\gT σ1 id p (gV++bs)/\iC τ σ1 id p0 p)/\fr=[.ptr id 0,.int .i64 n,gg 2,gg 3,gg 4,.int .i64 i,gg 6,gg 7,gg 8,gg 9,gg 10,gg 11,gg 12,gg 13,gg 14,gg 15,gg 16,gg 17,gg 18,gg 19,gg 20,gg 21,gg 22,gg 23]/\σ=σ1) ?_ (8) (by refine⟨0,p0,[],τ,?_⟩;exact bW (⟨by omega,rfl,by simpa using eO,iC.refl⟩))
 rintro m fr σ ⟨i,p,bs,σ1,gg,hI,rfl,rfl⟩
 obtain⟨hm,hbs,ho,hf⟩:=hI
 by_cases hi:i<8
 ·have q1:(i:Int)<8:=by omega
  have hv:=aDJ n hi
  obtain⟨c,hc⟩:=gn (UInt8.ofNat (oI n/256^i))
  rw[hc]at hv
  rw[yAa,cT]at hl0
  obtain⟨p',σ',ap,hb',hlt',ho',hf'⟩:=ho.app (ys:=[c]) (z:=1) (tk:=.any) (.inr rfl) (by rw[hbs];simp;omega)
  replace ap:=(show fZ prog 0 σ 30 (mN (gV++bs) p) (.slice 1 [.int .u8 c.toNat] .any)=some (mN (gV++bs++[c]) p',σ')from ap)
  have VO:bs++[c]=(List.range (i+1)).map fun i=>UInt8.ofNat (oI n/256^i):=by
   rw[List.range_succ,yBh,hbs,List.map_cons,List.map_nil,hc]
  have b1:=ho.1
  obtain⟨w1,z1⟩:=ho.at
  obtain⟨w2,z2⟩:=yA.1 hb'
  obtain⟨w2,z2⟩:=yA.1 hb'
  rw[yAi]at ap
  obtain⟨o1,e1⟩:=gn (mN (gV++bs) p)
  obtain⟨o2,e2⟩:=gn (mN (gV++(bs++[c])) p')
  have hpl:PD.plain o2=true:=by rw[<-e2];rfl
  have hcl:PD.cells o2=[o2]:=by rw[<-e2];rfl
  unfold PD.plain at hpl
  unfold PD.cells at hcl
  rw[e1]at ap b1 z1 hb' z2
  rw[e2]at ap
  have gx:=An @q1 (An @hw (An @hv (An @ap (An @b1 (An @w1 (An @z1 (An @hb' (An @w2 (An @z2 (An @hpl (@hcl)))))))))))
  refine aC ?_
  clear gx
  rw[<-e2]
  refine bP.normal (m-1) (by omega) ⟨i+1,p',bs++[c],_,cW (⟨by omega,VO,by rw[<-yAi];exact ho',hf.trans hf'⟩) (by(first|rfl|(simp[hc];repeat(first|rfl|(apply And.intro)))|(simp[hc];done))) (by(first|rfl|(simp[hc];repeat(first|rfl|(apply And.intro)))|(simp[hc];done)))⟩
 ·have q1:¬(i:Int)<8:=by omega
  have e8:i=8:=by omega
  subst e8
  have gx:=@q1
  refine aC ?_
  clear gx
  exact⟨_,_,rfl,rfl,p,by unfold b8;rw[<-hbs];exact ho,hf⟩
end
section
structure WK (τ σ:List aB) (id:Nat) (t0 t:Tok) (bs:List UInt8) (X:PD):Prop where
 wr:gT σ id t bs
 fr:iC (τ++[.box X]) σ id t0 t
 bx:σ[τ.length]?=some (.box X)
 lt:id<τ.length
theorem WK.new{τ:List aB}{id:Nat}{t:Tok}{bs:List UInt8}(h:gT τ id t bs)(X:PD):WK τ (τ++[.box X]) id t t bs X:=⟨h.more _,iC.refl,by simp,h.lt⟩
theorem WK.at{τ σ:List aB}{id:Nat}{t0 t:Tok}{bs:List UInt8}{X:PD}(h:WK τ σ id t0 t bs X):∃w:τ.length<σ.length,σ[τ.length]=.box X:=yA.1 h.bx
theorem cV.WW{σ:List aB}{t:Tok}{e:TypeId}{k n j:Nat}{X:PD}(h:cV σ t e k n)(hb:σ[j]?=some (.box X)):t≠.own j:=fun e=>by
 rcases h with⟨_,e2⟩ | ⟨_,q,e2,h2⟩
 ·rw[e]at e2;cases e2
 ·rw[e]at e2;cases e2
  rw[hb]at h2;cases h2
theorem WK.next{τ σ:List aB}{id:Nat}{t0 t:Tok}{bs:List UInt8}{X:PD}(h:WK τ σ id t0 t bs X){E:aD}{f:FuncId}{A:Nat->List PD}{enc:List UInt8}(H:cI E f A enc)(hl:(bs++enc).length<=1000000000) :
  ∃σ' t',aO prog E f 0 (A id) σ=some (.aH [],σ')/\WK τ σ' id t0 t' (bs++enc) X:=by
 obtain⟨σ',t',k,w,f⟩:=H.at h.wr hl
 refine⟨σ',t',k,w,h.fr.trans f,?_,h.lt⟩
 rw[f.2.1 τ.length (yA.1 h.bx).1 (by have:=h.lt;omega) (h.wr.2.WW h.bx)]
 exact h.bx
theorem WK.done{τ σ:List aB}{id:Nat}{t0 t:Tok}{bs:List UInt8}{X:PD}(h:WK τ σ id t0 t bs X):iC τ σ id t0 t:=by
 obtain⟨h1,h2,h3⟩:=h.fr
 rw[yAa]at h1 h2 h3
 refine⟨by omega,fun j a b c=>?_,fun j a=>(h3 j a).imp (fun e=>e) (fun e=>by omega)⟩
 rw[h2 j (by omega) b c,yAg a]
variable{E E1:aD}(hU:aI E)
include hU
theorem aKz(h0:E 93=none)(h1:E 92=some (aO prog E1 92))(H:∀n,cI E1 92 (fun id=>[.ptr id 0,.int .i64 n]) (b8 n))(s:List UInt8):cI E 93 (fun id=>[.ptr id 0,.str s]) (aZ s):=by
 intro τ id p0 gV eO hl0
 unfold aZ at hl0 ⊢
 obtain⟨σ1,t1,k1,w1,f1⟩:=(H s.length).at eO (by simp only[yAa]at hl0 ⊢;omega)
 obtain⟨p',σ',ap,hb',hlt',ho',hf'⟩:=w1.app (ys:=s) (z:=if s.length=0 then 0 else 1) (tk:=.any) (by
  by_cases h:s=[]
  ·exact .inl h
  ·exact .inr (if_neg fun e=>h (yAf e))) (by simp only[yAa]at hl0 ⊢;omega)
 replace ap:=(show fZ prog 0 σ1 30 (mN (gV++b8 s.length) t1) (wF s)=some (mN (gV++b8 s.length++s) p',σ')from ap)
 have b1:=w1.1
 obtain⟨v1,z1⟩:=w1.at
 obtain⟨v2,z2⟩:=yA.1 hb'
 have hfin:iC τ (σ'.set id (.box (.agg [mN (gV++b8 s.length++s) p']))) id p0 p':=f1.trans hf'
 obtain⟨o1,e1⟩:=gn (mN (gV++b8 s.length) t1)
 obtain⟨o2,e2⟩:=gn (mN (gV++b8 s.length++s) p')
 have hpl:PD.plain o2=true:=by rw[<-e2];rfl
 have hcl:PD.cells o2=[o2]:=by rw[<-e2];rfl
 unfold PD.plain at hpl
 unfold PD.cells at hcl
 rw[e1]at ap b1 z1 hb' z2
 rw[e2]at ap ho' hfin
 apply aN.aK h0 func93 rfl
 focus(simp[show Tryz.f93.ntmps=_ from rfl,List.replicate];rfl)
 have gx:=An @h1 (An @k1 (An @ap (An @b1 (An @v1 (An @z1 (An @hb' (An @v2 (An @z2 (An @hpl (@hcl))))))))))
 refine aC ?_
 clear gx
 exact⟨_,_,rfl,rfl,p',by rw[<-yAi];exact ho',hfin⟩
theorem aKB(h0:E 132=none)(h1:E 92=some (aO prog E1 92))(H:∀n,cI E1 92 (fun id=>[.ptr id 0,.int .i64 n]) (b8 n))(b:Bool):cI E 132 (fun id=>[.ptr id 0,.bool b]) (eW b):=by
 intro τ id p0 gV eO hl0
 obtain⟨σ1,t1,k1,w1,f1⟩:=(H (if b=true then 1 else 0)).at eO hl0
 cases b with
 |false=>
  replace k1:=(show aO prog E1 92 0 [.ptr id 0,.int .i64 0] τ=_ from k1)
  apply aN.aK h0 func132 rfl
  focus(simp[show Tryz.f132.ntmps=_ from rfl,List.replicate];rfl)
  have gx:=An @h1 (@k1)
  refine aC ?_
  clear gx
  exact⟨_,_,rfl,rfl,t1,w1,f1⟩
 |true=>
  replace k1:=(show aO prog E1 92 0 [.ptr id 0,.int .i64 1] τ=_ from k1)
  apply aN.aK h0 func132 rfl
  focus(simp[show Tryz.f132.ntmps=_ from rfl,List.replicate];rfl)
  have gx:=An @h1 (@k1)
  refine aC ?_
  clear gx
  exact⟨_,_,rfl,rfl,t1,w1,f1⟩
theorem aKD(h0:E 130=none)(h1:E 92=some (aO prog E1 92))(H:∀n,cI E1 92 (fun id=>[.ptr id 0,.int .i64 n]) (b8 n))(x:Int×Int):cI E 130 (fun id=>[.ptr id 0,.agg [.int .i64 x.1,.int .i64 x.2]]) (pI x):=by
 intro τ id p0 gV eO hl0
 obtain⟨a,b⟩:=x
 unfold pI at hl0 ⊢
 simp only at hl0 ⊢
 have K0:=WK.new eO (.agg [.int .i64 a,.int .i64 b])
 obtain⟨σ1,t1,k1,K1⟩:=K0.next (H a) (by simp only[yAa]at hl0 ⊢;omega)
 obtain⟨σ2,t2,k2,K2⟩:=K1.next (H b) (by simp only[yAa]at hl0 ⊢;omega)
 obtain⟨w0,z0⟩:=K0.at
 obtain⟨w1,z1⟩:=K1.at
 obtain⟨w2,z2⟩:=K2.at
 have b1:=K1.bx
 apply aN.aK h0 func130 rfl
 focus(simp[show Tryz.f130.ntmps=_ from rfl,List.replicate];rfl)
 have gx:=An @h1 (An @k1 (An @k2 (An @b1 (An @w1 (@z1)))))
 refine aC ?_
 clear gx
 exact⟨_,_,rfl,rfl,t2,by rw[<-yAi];exact K2.wr,K2.done⟩
end
section
theorem iC.less{τ ρ σ:List aB}{id:Nat}{p p':Tok}(h:iC (τ++ρ) σ id p p'):iC τ σ id p p':=by
 obtain⟨h1,h2,h3⟩:=h
 rw[yAa]at h1 h2 h3
 refine⟨by omega,fun j a b c=>?_,fun j a=>(h3 j a).imp (fun e=>e) (fun e=>by omega)⟩
 rw[h2 j (by omega) b c,yAg a]
def qG(E:aD)(f:FuncId)(A:Nat->Nat->List PD)(enc:List UInt8):Prop:=∀(τ:List aB) (id bw:Nat) (p:Tok) (bs:List UInt8),gT τ id p bs->τ[bw]?=some (.box (.ptr id 0))->(bs++enc).length<=1000000000 ->
 aN prog E 0 (.inl f) (A id bw) τ (fun r σ=>r.strip=.aH []/\∃p',gT σ id p' (bs++enc)/\iC τ σ id p p')
theorem qG.at{E:aD}{f:FuncId}{A:Nat->Nat->List PD}{enc:List UInt8}(h:qG E f A enc){τ:List aB}{id bw:Nat}{p:Tok}{bs:List UInt8}(hw:gT τ id p bs)(hb:τ[bw]?=some (.box (.ptr id 0)))(hl:(bs++enc).length<=1000000000) :
  ∃σ p',aO prog E f 0 (A id bw) τ=some (.aH [],σ)/\gT σ id p' (bs++enc)/\iC τ σ id p p':=by
 have hne:τ≠[]:=fun e=>by
  have:=hw.lt
  rw[e]at this
  exact absurd this (Nat.not_lt_zero _)
 obtain⟨r,σ,h1,h2,p',h3⟩:=(h τ id bw p bs hw hb hl).st hne
 exact⟨σ,p',by rw[h1,h2],h3⟩
theorem iC.ptr{τ σ:List aB}{id bw:Nat}{p p':Tok}{bs:List UInt8}(h:iC τ σ id p p')(hw:gT τ id p bs)(hb:τ[bw]?=some (.box (.ptr id 0))):σ[bw]?=some (.box (.ptr id 0)):=by
 have hne:bw≠id:=fun e=>by
  rw[e,hw.1]at hb
  cases hb
 rw[h.2.1 bw (yA.1 hb).1 hne (hw.2.WW hb)]
 exact hb
variable{E E1 E2:aD}(hU:aI E)
include hU
theorem aKF(h0:E 131=none)(h1:E 92=some (aO prog E1 92))(H1:∀n,cI E1 92 (fun id=>[.ptr id 0,.int .i64 n]) (b8 n))(h2:E 92=some (aO prog E2 92))(H2:∀x:Int,cI E2 92 (fun id=>[.ptr id 0,.int .i64 x]) (b8 x))(l:List Int) :
  cI E 131 (fun id=>[.ptr id 0,.slice (sz 1 l) (l.map i64.U) .any,.dA 92 [.ptr id 0]]) (eList b8 l):=by
 intro τ id p0 gV eO hl0
 unfold eList at hl0 ⊢
 obtain⟨σ1,t1,k1,w1,f1⟩:=(H1 l.length).at eO (by simp only[yAa]at hl0 ⊢;omega)
 obtain⟨tot,htot⟩:=gn (l.length)
 have htb:=rJ (f:=b8) (fun x=>by rw[cT];omega) l
 have hlim:l.length<=1000000000:=by simp only[yAa]at hl0;omega
 apply aN.aK h0 func131 rfl
 focus(simp[show Tryz.f131.ntmps=_ from rfl,List.replicate];rfl)
 have gx:=An @h1 (@k1)
 refine aC ?_
 clear gx
 rw[htot]at hl0 w1 ⊢
 clear k1 eO
 refine Wp.cJ (fun m fr σ=>∃(i:Nat) (t:Tok) (σ1:List aB),∃gg:Nat->PD,(i+m=tot/\gT σ1 id t (gV++(b8 tot++(l.take i).flatMap b8))/\iC τ σ1 id p0 t)/\fr=[.ptr id 0,.slice (sz 1 l) (l.map i64.U) .any,.dA 92 [.ptr id 0],gg 3,gg 4,gg 5,gg 6,gg 7,gg 8,gg 9,gg 10,gg 11,.slice (sz 1 l) (l.map i64.U) .any,.int .i64 tot,.int .i64 i,gg 15,gg 16,gg 17,gg 18,gg 19,gg 20,gg 21]/\σ=σ1) ?_ (tot) (by refine⟨0,t1,σ1,?_⟩;exact bW (⟨by omega,by simpa using w1,f1⟩))
 rintro m fr σ ⟨i,t,σ1,gg,hI,rfl,rfl⟩
 obtain⟨hm,ho,hf⟩:=hI
 by_cases hi:i<tot
 ·have q1:(i:Int)<tot:=by omega
  have hil:i<l.length:=by omega
  have hz:sz 1 l=1:=cG (fun e=>by rw[e]at hil;simp at hil)
  have hpn:=sG b8 l i hil
  have hpl:=sH b8 l (i+1)
  obtain⟨x,hx⟩:=gn (l[i])
  rw[hx]at hpn
  rw[hpn]at hpl
  simp only[yAa]at hpl hl0
  obtain⟨σ2,t2,k2,w2,f2⟩:=(H2 x).at ho (by simp only[yAa];omega)
  rw[yAi,yAi,<-hpn]at w2
  have gx:=An @q1 (An @hx (An @hil (@hz)))
  refine aC ?_
  clear gx
  first|refine Wp.seq ?_|skip
  apply Wp.jQ
  have gx:=An @h2 (@k2)
  refine iN ?_
  clear gx
  apply SQ.nil
  have gx:=True.intro
  refine aC ?_
  clear gx
  refine bP.normal (m-1) (by omega) (by refine⟨i+1,t2,σ2,?_⟩;exact cW (⟨by omega,w2,hf.trans f2⟩) (by(first|rfl|(simp[hx];repeat(first|rfl|(apply And.intro)))|(simp[hx];done))) (by(first|rfl|(simp[hx];repeat(first|rfl|(apply And.intro)))|(simp[hx];done))))
 ·have q1:¬(i:Int)<tot:=by omega
  have ei:i=tot:=by omega
  rw[ei,yAz (by omega)]at ho
  have gx:=@q1
  refine aC ?_
  clear gx
  exact⟨_,_,rfl,rfl,t,ho,hf⟩
theorem aKJ(h0:E 112=none)(h1:E 92=some (aO prog E1 92))(H1:∀n,cI E1 92 (fun id=>[.ptr id 0,.int .i64 n]) (b8 n))(h2:E 94=some (aO prog E2 94))(H2:∀x:bM,cI E2 94 (fun id=>[.ptr id 0,Em.aR.U x]) (eT x))(l:List bM) :
  cI E 112 (fun id=>[.ptr id 0,.slice (sz 6 l) (l.map Em.aR.U) .any,.dA 94 [.ptr id 0]]) (eList eT l):=by
 intro τ id p0 gV eO hl0
 unfold eList at hl0 ⊢
 obtain⟨σ1,t1,k1,w1,f1⟩:=(H1 l.length).at eO (by simp only[yAa]at hl0 ⊢;omega)
 obtain⟨tot,htot⟩:=gn (l.length)
 have htb:=rJ (f:=eT) (fun x=>by simp only[eT,aZ,yAa,cT];omega) l
 have hlim:l.length<=1000000000:=by simp only[yAa]at hl0;omega
 apply aN.aK h0 func112 rfl
 focus(simp[show Tryz.f112.ntmps=_ from rfl,List.replicate];rfl)
 have gx:=An @h1 (@k1)
 refine aC ?_
 clear gx
 rw[htot]at hl0 w1 ⊢
 clear k1 eO
 refine Wp.cJ (fun m fr σ=>∃(i:Nat) (t:Tok) (σ1:List aB),∃gg:Nat->PD,(i+m=tot/\gT σ1 id t (gV++(b8 tot++(l.take i).flatMap eT))/\iC τ σ1 id p0 t)/\fr=[.ptr id 0,.slice (sz 6 l) (l.map Em.aR.U) .any,.dA 94 [.ptr id 0],gg 3,gg 4,gg 5,gg 6,gg 7,gg 8,gg 9,gg 10,gg 11,.slice (sz 6 l) (l.map Em.aR.U) .any,.int .i64 tot,.int .i64 i,gg 15,gg 16,gg 17,gg 18,gg 19,gg 20,gg 21]/\σ=σ1) ?_ (tot) (by refine⟨0,t1,σ1,?_⟩;exact bW (⟨by omega,by simpa using w1,f1⟩))
 rintro m fr σ ⟨i,t,σ1,gg,hI,rfl,rfl⟩
 obtain⟨hm,ho,hf⟩:=hI
 by_cases hi:i<tot
 ·have q1:(i:Int)<tot:=by omega
  have hil:i<l.length:=by omega
  have hz:sz 6 l=6:=cG (fun e=>by rw[e]at hil;simp at hil)
  have hpn:=sG eT l i hil
  have hpl:=sH eT l (i+1)
  obtain⟨⟨sn,st,sa,sb,sc,sw⟩,hx⟩:∃x,l[i]=x:=⟨_,rfl⟩
  rw[hx]at hpn
  rw[hpn]at hpl
  simp only[yAa]at hpl hl0
  obtain⟨σ2,t2,k2,w2,f2⟩:=(H2 ⟨sn,st,sa,sb,sc,sw⟩).at (ho.more [.box (.agg [.str sn,.str st,.int .i64 sa,.int .i64 sb,.int .i64 sc,.slice (sz 1 sw) (sw.map i64.U) .any])]) (by simp only[yAa];omega)
  rw[yAi,yAi,<-hpn]at w2
  replace k2:=(show aO prog E2 94 0 [.ptr id 0,.agg [.str sn,.str st,.int .i64 sa,.int .i64 sb,.int .i64 sc,.slice (sz 1 sw) (sw.map i64.U) .any]] (σ++[.box (.agg [.str sn,.str st,.int .i64 sa,.int .i64 sb,.int .i64 sc,.slice (sz 1 sw) (sw.map i64.U) .any])])=some (.aH [],σ2)from k2)
  have es:∀X Y,(σ++[aB.box X]).set σ.length (.box Y)=σ++[.box Y]:=fun X Y=>by simp
  have cY:∀X:aB,(σ++[X])[σ.length]?=some X:=fun X=>by simp
  have gx:=An @q1 (An @hx (An @hil (An @hz (An @es (@cY)))))
  refine aC ?_
  clear gx
  first|refine Wp.seq ?_|skip
  apply Wp.jQ
  have gx:=An @h2 (An @k2 (An @es (@cY)))
  refine iN ?_
  clear gx
  apply SQ.nil
  have gx:=True.intro
  refine aC ?_
  clear gx
  refine bP.normal (m-1) (by omega) (by refine⟨i+1,t2,σ2,?_⟩;exact cW (⟨by omega,w2,hf.trans f2.less⟩) (by(first|rfl|(simp[hx];repeat(first|rfl|(apply And.intro)))|(simp[hx];done))) (by(first|rfl|(simp[hx];repeat(first|rfl|(apply And.intro)))|(simp[hx];done))))
 ·have q1:¬(i:Int)<tot:=by omega
  have ei:i=tot:=by omega
  rw[ei,yAz (by omega)]at ho
  have gx:=@q1
  refine aC ?_
  clear gx
  exact⟨_,_,rfl,rfl,t,ho,hf⟩
theorem aK4(h0:E 113=none)(h1:E 92=some (aO prog E1 92))(H1:∀n,cI E1 92 (fun id=>[.ptr id 0,.int .i64 n]) (b8 n))(h2:E 95=some (aO prog E2 95))(H2:∀x:cU,cI E2 95 (fun id=>[.ptr id 0,Em.div.U x]) (eX x))(l:List cU) :
  cI E 113 (fun id=>[.ptr id 0,.slice (sz 5 l) (l.map Em.div.U) .any,.dA 95 [.ptr id 0]]) (eList eX l):=by
 intro τ id p0 gV eO hl0
 unfold eList at hl0 ⊢
 obtain⟨σ1,t1,k1,w1,f1⟩:=(H1 l.length).at eO (by simp only[yAa]at hl0 ⊢;omega)
 obtain⟨tot,htot⟩:=gn (l.length)
 have htb:=rJ (f:=eX) (fun x=>by simp only[eX,aZ,yAa,cT];omega) l
 have hlim:l.length<=1000000000:=by simp only[yAa]at hl0;omega
 apply aN.aK h0 func113 rfl
 focus(simp[show Tryz.f113.ntmps=_ from rfl,List.replicate];rfl)
 have gx:=An @h1 (@k1)
 refine aC ?_
 clear gx
 rw[htot]at hl0 w1 ⊢
 clear k1 eO
 refine Wp.cJ (fun m fr σ=>∃(i:Nat) (t:Tok) (σ1:List aB),∃gg:Nat->PD,(i+m=tot/\gT σ1 id t (gV++(b8 tot++(l.take i).flatMap eX))/\iC τ σ1 id p0 t)/\fr=[.ptr id 0,.slice (sz 5 l) (l.map Em.div.U) .any,.dA 95 [.ptr id 0],gg 3,gg 4,gg 5,gg 6,gg 7,gg 8,gg 9,gg 10,gg 11,.slice (sz 5 l) (l.map Em.div.U) .any,.int .i64 tot,.int .i64 i,gg 15,gg 16,gg 17,gg 18,gg 19,gg 20,gg 21]/\σ=σ1) ?_ (tot) (by refine⟨0,t1,σ1,?_⟩;exact bW (⟨by omega,by simpa using w1,f1⟩))
 rintro m fr σ ⟨i,t,σ1,gg,hI,rfl,rfl⟩
 obtain⟨hm,ho,hf⟩:=hI
 by_cases hi:i<tot
 ·have q1:(i:Int)<tot:=by omega
  have hil:i<l.length:=by omega
  have hz:sz 5 l=5:=cG (fun e=>by rw[e]at hil;simp at hil)
  have hpn:=sG eX l i hil
  have hpl:=sH eX l (i+1)
  obtain⟨⟨sn,sp,sa,sb,sw⟩,hx⟩:∃x,l[i]=x:=⟨_,rfl⟩
  rw[hx]at hpn
  rw[hpn]at hpl
  simp only[yAa]at hpl hl0
  obtain⟨σ2,t2,k2,w2,f2⟩:=(H2 ⟨sn,sp,sa,sb,sw⟩).at (ho.more [.box (.agg [.str sn,.bool sp,.int .i64 sa,.int .i64 sb,.slice (sz 4 sw) (sw.map Em.stop.U) .any])]) (by simp only[yAa];omega)
  rw[yAi,yAi,<-hpn]at w2
  replace k2:=(show aO prog E2 95 0 [.ptr id 0,.agg [.str sn,.bool sp,.int .i64 sa,.int .i64 sb,.slice (sz 4 sw) (sw.map Em.stop.U) .any]] (σ++[.box (.agg [.str sn,.bool sp,.int .i64 sa,.int .i64 sb,.slice (sz 4 sw) (sw.map Em.stop.U) .any])])=some (.aH [],σ2)from k2)
  have es:∀X Y,(σ++[aB.box X]).set σ.length (.box Y)=σ++[.box Y]:=fun X Y=>by simp
  have cY:∀X:aB,(σ++[X])[σ.length]?=some X:=fun X=>by simp
  have gx:=An @q1 (An @hx (An @hil (An @hz (An @es (@cY)))))
  refine aC ?_
  clear gx
  first|refine Wp.seq ?_|skip
  apply Wp.jQ
  have gx:=An @h2 (An @k2 (An @es (@cY)))
  refine iN ?_
  clear gx
  apply SQ.nil
  have gx:=True.intro
  refine aC ?_
  clear gx
  refine bP.normal (m-1) (by omega) (by refine⟨i+1,t2,σ2,?_⟩;exact cW (⟨by omega,w2,hf.trans f2.less⟩) (by(first|rfl|(simp[hx];repeat(first|rfl|(apply And.intro)))|(simp[hx];done))) (by(first|rfl|(simp[hx];repeat(first|rfl|(apply And.intro)))|(simp[hx];done))))
 ·have q1:¬(i:Int)<tot:=by omega
  have ei:i=tot:=by omega
  rw[ei,yAz (by omega)]at ho
  have gx:=@q1
  refine aC ?_
  clear gx
  exact⟨_,_,rfl,rfl,t,ho,hf⟩
theorem aLa(h0:E 114=none)(h1:E 92=some (aO prog E1 92))(H1:∀n,cI E1 92 (fun id=>[.ptr id 0,.int .i64 n]) (b8 n))(h2:E 97=some (aO prog E2 97))(H2:∀x:cF,cI E2 97 (fun id=>[.ptr id 0,Em.aP.U x]) (fI x))(l:List cF) :
  cI E 114 (fun id=>[.ptr id 0,.slice (sz 5 l) (l.map Em.aP.U) .any,.dA 97 [.ptr id 0]]) (eList fI l):=by
 intro τ id p0 gV eO hl0
 unfold eList at hl0 ⊢
 obtain⟨σ1,t1,k1,w1,f1⟩:=(H1 l.length).at eO (by simp only[yAa]at hl0 ⊢;omega)
 obtain⟨tot,htot⟩:=gn (l.length)
 have htb:=rJ (f:=fI) (fun x=>by simp only[fI,aZ,yAa,cT];omega) l
 have hlim:l.length<=1000000000:=by simp only[yAa]at hl0;omega
 apply aN.aK h0 func114 rfl
 focus(simp[show Tryz.f114.ntmps=_ from rfl,List.replicate];rfl)
 have gx:=An @h1 (@k1)
 refine aC ?_
 clear gx
 rw[htot]at hl0 w1 ⊢
 clear k1 eO
 refine Wp.cJ (fun m fr σ=>∃(i:Nat) (t:Tok) (σ1:List aB),∃gg:Nat->PD,(i+m=tot/\gT σ1 id t (gV++(b8 tot++(l.take i).flatMap fI))/\iC τ σ1 id p0 t)/\fr=[.ptr id 0,.slice (sz 5 l) (l.map Em.aP.U) .any,.dA 97 [.ptr id 0],gg 3,gg 4,gg 5,gg 6,gg 7,gg 8,gg 9,gg 10,gg 11,.slice (sz 5 l) (l.map Em.aP.U) .any,.int .i64 tot,.int .i64 i,gg 15,gg 16,gg 17,gg 18,gg 19,gg 20,gg 21]/\σ=σ1) ?_ (tot) (by refine⟨0,t1,σ1,?_⟩;exact bW (⟨by omega,by simpa using w1,f1⟩))
 rintro m fr σ ⟨i,t,σ1,gg,hI,rfl,rfl⟩
 obtain⟨hm,ho,hf⟩:=hI
 by_cases hi:i<tot
 ·have q1:(i:Int)<tot:=by omega
  have hil:i<l.length:=by omega
  have hz:sz 5 l=5:=cG (fun e=>by rw[e]at hil;simp at hil)
  have hpn:=sG fI l i hil
  have hpl:=sH fI l (i+1)
  obtain⟨⟨sn,sa,sb,sc,sp⟩,hx⟩:∃x,l[i]=x:=⟨_,rfl⟩
  rw[hx]at hpn
  rw[hpn]at hpl
  simp only[yAa]at hpl hl0
  obtain⟨σ2,t2,k2,w2,f2⟩:=(H2 ⟨sn,sa,sb,sc,sp⟩).at (ho.more [.box (.agg [.str sn,.int .i64 sa,.int .i64 sb,.int .i64 sc,.bool sp])]) (by simp only[yAa];omega)
  rw[yAi,yAi,<-hpn]at w2
  replace k2:=(show aO prog E2 97 0 [.ptr id 0,.agg [.str sn,.int .i64 sa,.int .i64 sb,.int .i64 sc,.bool sp]] (σ++[.box (.agg [.str sn,.int .i64 sa,.int .i64 sb,.int .i64 sc,.bool sp])])=some (.aH [],σ2)from k2)
  have es:∀X Y,(σ++[aB.box X]).set σ.length (.box Y)=σ++[.box Y]:=fun X Y=>by simp
  have cY:∀X:aB,(σ++[X])[σ.length]?=some X:=fun X=>by simp
  have gx:=An @q1 (An @hx (An @hil (An @hz (An @es (@cY)))))
  refine aC ?_
  clear gx
  first|refine Wp.seq ?_|skip
  apply Wp.jQ
  have gx:=An @h2 (An @k2 (An @es (@cY)))
  refine iN ?_
  clear gx
  apply SQ.nil
  have gx:=True.intro
  refine aC ?_
  clear gx
  refine bP.normal (m-1) (by omega) (by refine⟨i+1,t2,σ2,?_⟩;exact cW (⟨by omega,w2,hf.trans f2.less⟩) (by(first|rfl|(simp[hx];repeat(first|rfl|(apply And.intro)))|(simp[hx];done))) (by(first|rfl|(simp[hx];repeat(first|rfl|(apply And.intro)))|(simp[hx];done))))
 ·have q1:¬(i:Int)<tot:=by omega
  have ei:i=tot:=by omega
  rw[ei,yAz (by omega)]at ho
  have gx:=@q1
  refine aC ?_
  clear gx
  exact⟨_,_,rfl,rfl,t,ho,hf⟩
theorem aKY(h0:E 133=none)(h1:E 92=some (aO prog E1 92))(H1:∀n,cI E1 92 (fun id=>[.ptr id 0,.int .i64 n]) (b8 n))(h2:E 96=some (aO prog E2 96))(H2:∀x:dG,cI E2 96 (fun id=>[.ptr id 0,Em.stop.U x]) (fE x))(l:List dG) :
  cI E 133 (fun id=>[.ptr id 0,.slice (sz 4 l) (l.map Em.stop.U) .any,.dA 96 [.ptr id 0]]) (eList fE l):=by
 intro τ id p0 gV eO hl0
 unfold eList at hl0 ⊢
 obtain⟨σ1,t1,k1,w1,f1⟩:=(H1 l.length).at eO (by simp only[yAa]at hl0 ⊢;omega)
 obtain⟨tot,htot⟩:=gn (l.length)
 have htb:=rJ (f:=fE) (fun x=>by simp only[fE,aZ,yAa,cT];omega) l
 have hlim:l.length<=1000000000:=by simp only[yAa]at hl0;omega
 apply aN.aK h0 func133 rfl
 focus(simp[show Tryz.f133.ntmps=_ from rfl,List.replicate];rfl)
 have gx:=An @h1 (@k1)
 refine aC ?_
 clear gx
 rw[htot]at hl0 w1 ⊢
 clear k1 eO
 refine Wp.cJ (fun m fr σ=>∃(i:Nat) (t:Tok) (σ1:List aB),∃gg:Nat->PD,(i+m=tot/\gT σ1 id t (gV++(b8 tot++(l.take i).flatMap fE))/\iC τ σ1 id p0 t)/\fr=[.ptr id 0,.slice (sz 4 l) (l.map Em.stop.U) .any,.dA 96 [.ptr id 0],gg 3,gg 4,gg 5,gg 6,gg 7,gg 8,gg 9,gg 10,gg 11,.slice (sz 4 l) (l.map Em.stop.U) .any,.int .i64 tot,.int .i64 i,gg 15,gg 16,gg 17,gg 18,gg 19,gg 20,gg 21]/\σ=σ1) ?_ (tot) (by refine⟨0,t1,σ1,?_⟩;exact bW (⟨by omega,by simpa using w1,f1⟩))
 rintro m fr σ ⟨i,t,σ1,gg,hI,rfl,rfl⟩
 obtain⟨hm,ho,hf⟩:=hI
 by_cases hi:i<tot
 ·have q1:(i:Int)<tot:=by omega
  have hil:i<l.length:=by omega
  have hz:sz 4 l=4:=cG (fun e=>by rw[e]at hil;simp at hil)
  have hpn:=sG fE l i hil
  have hpl:=sH fE l (i+1)
  obtain⟨⟨sn,sa,sb,sw⟩,hx⟩:∃x,l[i]=x:=⟨_,rfl⟩
  rw[hx]at hpn
  rw[hpn]at hpl
  simp only[yAa]at hpl hl0
  obtain⟨σ2,t2,k2,w2,f2⟩:=(H2 ⟨sn,sa,sb,sw⟩).at (ho.more [.box (.agg [.str sn,.int .i64 sa,.int .i64 sb,.slice (sz 3 sw) (sw.map Em.bL.U) .any])]) (by simp only[yAa];omega)
  rw[yAi,yAi,<-hpn]at w2
  replace k2:=(show aO prog E2 96 0 [.ptr id 0,.agg [.str sn,.int .i64 sa,.int .i64 sb,.slice (sz 3 sw) (sw.map Em.bL.U) .any]] (σ++[.box (.agg [.str sn,.int .i64 sa,.int .i64 sb,.slice (sz 3 sw) (sw.map Em.bL.U) .any])])=some (.aH [],σ2)from k2)
  have es:∀X Y,(σ++[aB.box X]).set σ.length (.box Y)=σ++[.box Y]:=fun X Y=>by simp
  have cY:∀X:aB,(σ++[X])[σ.length]?=some X:=fun X=>by simp
  have gx:=An @q1 (An @hx (An @hil (An @hz (An @es (@cY)))))
  refine aC ?_
  clear gx
  first|refine Wp.seq ?_|skip
  apply Wp.jQ
  have gx:=An @h2 (An @k2 (An @es (@cY)))
  refine iN ?_
  clear gx
  apply SQ.nil
  have gx:=True.intro
  refine aC ?_
  clear gx
  refine bP.normal (m-1) (by omega) (by refine⟨i+1,t2,σ2,?_⟩;exact cW (⟨by omega,w2,hf.trans f2.less⟩) (by(first|rfl|(simp[hx];repeat(first|rfl|(apply And.intro)))|(simp[hx];done))) (by(first|rfl|(simp[hx];repeat(first|rfl|(apply And.intro)))|(simp[hx];done))))
 ·have q1:¬(i:Int)<tot:=by omega
  have ei:i=tot:=by omega
  rw[ei,yAz (by omega)]at ho
  have gx:=@q1
  refine aC ?_
  clear gx
  exact⟨_,_,rfl,rfl,t,ho,hf⟩
theorem aKS(h0:E 134=none)(h1:E 92=some (aO prog E1 92))(H1:∀n,cI E1 92 (fun id=>[.ptr id 0,.int .i64 n]) (b8 n))(h2:E 135=some (aO prog E2 135))(H2:∀x:fY,qG E2 135 (fun id bw=>[Em.bL.U x,.ptr bw 0]) (iT x))(l:List fY) :
  qG E 134 (fun id bw=>[.ptr id 0,.slice (sz 3 l) (l.map Em.bL.U) .any,.func 135 [.ptr bw 0]]) (eList iT l):=by
 intro τ id bw p0 gV eO hbw hl0
 unfold eList at hl0 ⊢
 obtain⟨σ1,t1,k1,w1,f1⟩:=(H1 l.length).at eO (by simp only[yAa]at hl0 ⊢;omega)
 obtain⟨tot,htot⟩:=gn (l.length)
 have htb:=rJ (f:=iT) (fun x=>by simp only[iT,yAa,cT];omega) l
 have hlim:l.length<=1000000000:=by simp only[yAa]at hl0;omega
 have WX:=f1.ptr eO hbw
 apply aN.aK h0 func134 rfl
 focus(simp[show Tryz.f134.ntmps=_ from rfl,List.replicate];rfl)
 have gx:=An @h1 (@k1)
 refine aC ?_
 clear gx
 rw[htot]at hl0 w1 ⊢
 clear k1 eO
 refine Wp.cJ (fun m fr σ=>∃(i:Nat) (t:Tok) (σ1:List aB),∃gg:Nat->PD,(i+m=tot/\gT σ1 id t (gV++(b8 tot++(l.take i).flatMap iT))/\iC τ σ1 id p0 t/\σ1[bw]?=some (.box (.ptr id 0)))/\fr=[.ptr id 0,.slice (sz 3 l) (l.map Em.bL.U) .any,.func 135 [.ptr bw 0],gg 3,gg 4,gg 5,gg 6,gg 7,gg 8,gg 9,gg 10,gg 11,.slice (sz 3 l) (l.map Em.bL.U) .any,.int .i64 tot,.int .i64 i,gg 15,gg 16,gg 17,gg 18,gg 19,gg 20,gg 21]/\σ=σ1) ?_ (tot) (by refine⟨0,t1,σ1,?_⟩;exact bW (⟨by omega,by simpa using w1,f1,WX⟩))
 rintro m fr σ ⟨i,t,σ1,gg,hI,rfl,rfl⟩
 obtain⟨hm,ho,hf,hbo⟩:=hI
 by_cases hi:i<tot
 ·have q1:(i:Int)<tot:=by omega
  have hil:i<l.length:=by omega
  have hz:sz 3 l=3:=cG (fun e=>by rw[e]at hil;simp at hil)
  have hpn:=sG iT l i hil
  have hpl:=sH iT l (i+1)
  obtain⟨⟨sa,sb,sw⟩,hx⟩:∃x,l[i]=x:=⟨_,rfl⟩
  rw[hx]at hpn
  rw[hpn]at hpl
  simp only[yAa]at hpl hl0
  obtain⟨σ2,t2,k2,w2,f2⟩:=(H2 ⟨sa,sb,sw⟩).at (ho.more [.box (.agg [.int .i64 sa,.int .i64 sb,.slice (sz 2 sw) (sw.map Em.draw.U) .any])]) (by rw[yAg (yA.1 hbo).1];exact hbo) (by simp only[yAa];omega)
  rw[yAi,yAi,<-hpn]at w2
  have WY:=f2.ptr (ho.more _) (by rw[yAg (yA.1 hbo).1];exact hbo)
  replace k2:=(show aO prog E2 135 0 [.agg [.int .i64 sa,.int .i64 sb,.slice (sz 2 sw) (sw.map Em.draw.U) .any],.ptr bw 0] (σ++[.box (.agg [.int .i64 sa,.int .i64 sb,.slice (sz 2 sw) (sw.map Em.draw.U) .any])])=some (.aH [],σ2)from k2)
  have es:∀X Y,(σ++[aB.box X]).set σ.length (.box Y)=σ++[.box Y]:=fun X Y=>by simp
  have cY:∀X:aB,(σ++[X])[σ.length]?=some X:=fun X=>by simp
  have gx:=An @q1 (An @hx (An @hil (An @hz (An @es (@cY)))))
  refine aC ?_
  clear gx
  first|refine Wp.seq ?_|skip
  apply Wp.jQ
  have gx:=An @h2 (An @k2 (An @es (@cY)))
  refine iN ?_
  clear gx
  apply SQ.nil
  have gx:=True.intro
  refine aC ?_
  clear gx
  refine bP.normal (m-1) (by omega) (by refine⟨i+1,t2,σ2,?_⟩;exact cW (⟨by omega,w2,hf.trans f2.less,WY⟩) (by(first|rfl|(simp[hx];repeat(first|rfl|(apply And.intro)))|(simp[hx];done))) (by(first|rfl|(simp[hx];repeat(first|rfl|(apply And.intro)))|(simp[hx];done))))
 ·have q1:¬(i:Int)<tot:=by omega
  have ei:i=tot:=by omega
  rw[ei,yAz (by omega)]at ho
  have gx:=@q1
  refine aC ?_
  clear gx
  exact⟨_,_,rfl,rfl,t,ho,hf⟩
theorem aKN(h0:E 136=none)(h1:E 92=some (aO prog E1 92))(H1:∀n,cI E1 92 (fun id=>[.ptr id 0,.int .i64 n]) (b8 n))(h2:E 137=some (aO prog E2 137))(H2:∀x:fA,qG E2 137 (fun id bw=>[Em.draw.U x,.ptr bw 0]) (jJ x))(l:List fA) :
  qG E 136 (fun id bw=>[.ptr id 0,.slice (sz 2 l) (l.map Em.draw.U) .any,.func 137 [.ptr bw 0]]) (eList jJ l):=by
 intro τ id bw p0 gV eO hbw hl0
 unfold eList at hl0 ⊢
 obtain⟨σ1,t1,k1,w1,f1⟩:=(H1 l.length).at eO (by simp only[yAa]at hl0 ⊢;omega)
 obtain⟨tot,htot⟩:=gn (l.length)
 have htb:=rJ (f:=jJ) (fun x=>by simp only[jJ,yAa,cT];omega) l
 have hlim:l.length<=1000000000:=by simp only[yAa]at hl0;omega
 have WX:=f1.ptr eO hbw
 apply aN.aK h0 func136 rfl
 focus(simp[show Tryz.f136.ntmps=_ from rfl,List.replicate];rfl)
 have gx:=An @h1 (@k1)
 refine aC ?_
 clear gx
 rw[htot]at hl0 w1 ⊢
 clear k1 eO
 refine Wp.cJ (fun m fr σ=>∃(i:Nat) (t:Tok) (σ1:List aB),∃gg:Nat->PD,(i+m=tot/\gT σ1 id t (gV++(b8 tot++(l.take i).flatMap jJ))/\iC τ σ1 id p0 t/\σ1[bw]?=some (.box (.ptr id 0)))/\fr=[.ptr id 0,.slice (sz 2 l) (l.map Em.draw.U) .any,.func 137 [.ptr bw 0],gg 3,gg 4,gg 5,gg 6,gg 7,gg 8,gg 9,gg 10,gg 11,.slice (sz 2 l) (l.map Em.draw.U) .any,.int .i64 tot,.int .i64 i,gg 15,gg 16,gg 17,gg 18,gg 19,gg 20,gg 21]/\σ=σ1) ?_ (tot) (by refine⟨0,t1,σ1,?_⟩;exact bW (⟨by omega,by simpa using w1,f1,WX⟩))
 rintro m fr σ ⟨i,t,σ1,gg,hI,rfl,rfl⟩
 obtain⟨hm,ho,hf,hbo⟩:=hI
 by_cases hi:i<tot
 ·have q1:(i:Int)<tot:=by omega
  have hil:i<l.length:=by omega
  have hz:sz 2 l=2:=cG (fun e=>by rw[e]at hil;simp at hil)
  have hpn:=sG jJ l i hil
  have hpl:=sH jJ l (i+1)
  obtain⟨⟨sa,sb⟩,hx⟩:∃x,l[i]=x:=⟨_,rfl⟩
  rw[hx]at hpn
  rw[hpn]at hpl
  simp only[yAa]at hpl hl0
  obtain⟨σ2,t2,k2,w2,f2⟩:=(H2 ⟨sa,sb⟩).at (ho.more [.box (.agg [.int .i64 sa,.int .i64 sb])]) (by rw[yAg (yA.1 hbo).1];exact hbo) (by simp only[yAa];omega)
  rw[yAi,yAi,<-hpn]at w2
  have WY:=f2.ptr (ho.more _) (by rw[yAg (yA.1 hbo).1];exact hbo)
  replace k2:=(show aO prog E2 137 0 [.agg [.int .i64 sa,.int .i64 sb],.ptr bw 0] (σ++[.box (.agg [.int .i64 sa,.int .i64 sb])])=some (.aH [],σ2)from k2)
  have es:∀X Y,(σ++[aB.box X]).set σ.length (.box Y)=σ++[.box Y]:=fun X Y=>by simp
  have cY:∀X:aB,(σ++[X])[σ.length]?=some X:=fun X=>by simp
  have gx:=An @q1 (An @hx (An @hil (An @hz (An @es (@cY)))))
  refine aC ?_
  clear gx
  first|refine Wp.seq ?_|skip
  apply Wp.jQ
  have gx:=An @h2 (An @k2 (An @es (@cY)))
  refine iN ?_
  clear gx
  apply SQ.nil
  have gx:=True.intro
  refine aC ?_
  clear gx
  refine bP.normal (m-1) (by omega) (by refine⟨i+1,t2,σ2,?_⟩;exact cW (⟨by omega,w2,hf.trans f2.less,WY⟩) (by(first|rfl|(simp[hx];repeat(first|rfl|(apply And.intro)))|(simp[hx];done))) (by(first|rfl|(simp[hx];repeat(first|rfl|(apply And.intro)))|(simp[hx];done))))
 ·have q1:¬(i:Int)<tot:=by omega
  have ei:i=tot:=by omega
  rw[ei,yAz (by omega)]at ho
  have gx:=@q1
  refine aC ?_
  clear gx
  exact⟨_,_,rfl,rfl,t,ho,hf⟩
end
section
structure l8 (τ σ:List aB) (id:Nat) (t0 t:Tok) (bs:List UInt8) (L:List PD):Prop where
 wr:gT σ id t bs
 fr:iC (τ++L.map aB.box) σ id t0 t
 bx:∀i X,L[i]?=some X->σ[τ.length+i]?=some (.box X)
 lt:id<τ.length
theorem l8.new{τ:List aB}{id:Nat}{t:Tok}{bs:List UInt8}(h:gT τ id t bs)(L:List PD):l8 τ (τ++L.map aB.box) id t t bs L:=⟨h.more _,iC.refl,fun i X hX=>by
 rw[List.getElem?_append_right (by omega),Nat.add_sub_cancel_left,yAo,hX]
 rfl,h.lt⟩
theorem l8.at{τ σ:List aB}{id:Nat}{t0 t:Tok}{bs:List UInt8}{L:List PD}(h:l8 τ σ id t0 t bs L)(i:Nat){X:PD}(hX:L[i]?=some X):∃w:τ.length+i<σ.length,σ[τ.length+i]=.box X:=yA.1 (h.bx i X hX)
theorem l8.of{τ σ σ':List aB}{id:Nat}{t0 t t':Tok}{bs bs':List UInt8}{L:List PD}(h:l8 τ σ id t0 t bs L)(w:gT σ' id t' bs')(f:iC σ σ' id t t'):l8 τ σ' id t0 t' bs' L:=⟨w,h.fr.trans f,fun i X hX=>by
 have hb:=h.bx i X hX
 rw[f.2.1 _ (yA.1 hb).1 (by have:=h.lt;omega) (h.wr.2.WW hb)]
 exact hb,h.lt⟩
theorem l8.next{τ σ:List aB}{id:Nat}{t0 t:Tok}{bs:List UInt8}{L:List PD}(h:l8 τ σ id t0 t bs L){E:aD}{f:FuncId}{A:Nat->List PD}{enc:List UInt8}(H:cI E f A enc)(hl:(bs++enc).length<=1000000000) :
  ∃σ' t',aO prog E f 0 (A id) σ=some (.aH [],σ')/\l8 τ σ' id t0 t' (bs++enc) L:=by
 obtain⟨σ',t',k,w,f⟩:=H.at h.wr hl
 exact⟨σ',t',k,h.of w f⟩
theorem l8.aEx{τ σ:List aB}{id bw:Nat}{t0 t:Tok}{bs:List UInt8}{L:List PD}(h:l8 τ σ id t0 t bs L)(hb:σ[bw]?=some (.box (.ptr id 0))){E:aD}{f:FuncId}{A:Nat->Nat->List PD}{enc:List UInt8}(H:qG E f A enc)(hl:(bs++enc).length<=1000000000) :
  ∃σ' t',aO prog E f 0 (A id bw) σ=some (.aH [],σ')/\l8 τ σ' id t0 t' (bs++enc) L/\σ'[bw]?=some (.box (.ptr id 0)):=by
 obtain⟨σ',t',k,w,f⟩:=H.at h.wr hb hl
 exact⟨σ',t',k,h.of w f,f.ptr h.wr hb⟩
theorem l8.done{τ σ:List aB}{id:Nat}{t0 t:Tok}{bs:List UInt8}{L:List PD}(h:l8 τ σ id t0 t bs L):iC τ σ id t0 t:=h.fr.less
variable{E E1 E2 E3 E4 E5 E6 E7 E8:aD}(hU:aI E)
include hU
theorem aKH(h0:E 94=none)(h1:E 93=some (aO prog E1 93))(H1:∀s,cI E1 93 (fun id=>[.ptr id 0,.str s]) (aZ s))(h2:E 130=some (aO prog E2 130))(H2:∀x:Int×Int,cI E2 130 (fun id=>[.ptr id 0,.agg [.int .i64 x.1,.int .i64 x.2]]) (pI x))(h3:E 92=some (aO prog E3 92))(H3:∀n,cI E3 92 (fun id=>[.ptr id 0,.int .i64 n]) (b8 n))(h4:E 131=some (aO prog E4 131))(H4:∀l:List Int,cI E4 131 (fun id=>[.ptr id 0,.slice (sz 1 l) (l.map i64.U) .any,.dA 92 [.ptr id 0]]) (eList b8 l))(x:bM):cI E 94 (fun id=>[.ptr id 0,Em.aR.U x]) (eT x):=by
 intro τ id p0 gV eO hl0
 obtain⟨nm,tn,a,b,c,w⟩:=x
 have he:eT ⟨nm,tn,a,b,c,w⟩=aZ nm++aZ tn++pI (a,b)++b8 c++eList b8 w:=by simp[eT]
 rw[he]at hl0 ⊢
 clear he
 simp only[yAa]at hl0
 have K0:=l8.new eO [.agg [.str nm,.str tn,.int .i64 a,.int .i64 b,.int .i64 c,.slice (sz 1 w) (w.map i64.U) .any]]
 obtain⟨w0,z0⟩:=K0.at 0 rfl
 have b0:=K0.bx 0 _ rfl
 obtain⟨σ1,t1,k1,K1⟩:=K0.next (H1 nm) (by simp only[yAa];omega)
 obtain⟨w1,z1⟩:=K1.at 0 rfl
 have b1:=K1.bx 0 _ rfl
 obtain⟨σ2,t2,k2,K2⟩:=K1.next (H1 tn) (by simp only[yAa];omega)
 obtain⟨w2,z2⟩:=K2.at 0 rfl
 have b2:=K2.bx 0 _ rfl
 obtain⟨σ3,t3,k3,K3⟩:=K2.next (H2 (a,b)) (by simp only[yAa];omega)
 obtain⟨w3,z3⟩:=K3.at 0 rfl
 have b3:=K3.bx 0 _ rfl
 obtain⟨bK,t4,k4,K4⟩:=K3.next (H3 c) (by simp only[yAa];omega)
 obtain⟨w4,z4⟩:=K4.at 0 rfl
 have b4:=K4.bx 0 _ rfl
 obtain⟨vL,t5,k5,K5⟩:=K4.next (H4 w) (by simp only[yAa];omega)
 obtain⟨w5,z5⟩:=K5.at 0 rfl
 have b5:=K5.bx 0 _ rfl
 simp only[Nat.add_zero,List.map_cons,List.map_nil]at w0 w1 w2 w3 w4 w5 z0 b0 z1 b1 z2 b2 z3 b3 z4 b4 z5 b5 k1 k2 k3 k4 k5
 apply aN.aK h0 func94 rfl
 focus(simp[show Tryz.f94.ntmps=_ from rfl,List.replicate];rfl)
 have gx:=An @h1 (An @h2 (An @h3 (An @h4 (An @w0 (An @z0 (An @b0 (An @k1 (An @w1 (An @z1 (An @b1 (An @k2 (An @w2 (An @z2 (An @b2 (An @k3 (An @w3 (An @z3 (An @b3 (An @k4 (An @w4 (An @z4 (An @b4 (An @k5 (An @w5 (An @z5 (@b5))))))))))))))))))))))))))
 refine aC ?_
 clear gx
 exact⟨_,_,rfl,rfl,t5,by simpa [yAi]using K5.wr,K5.done⟩
theorem aK7(h0:E 97=none)(h1:E 93=some (aO prog E1 93))(H1:∀s,cI E1 93 (fun id=>[.ptr id 0,.str s]) (aZ s))(h2:E 92=some (aO prog E2 92))(H2:∀n,cI E2 92 (fun id=>[.ptr id 0,.int .i64 n]) (b8 n))(h3:E 132=some (aO prog E3 132))(H3:∀b,cI E3 132 (fun id=>[.ptr id 0,.bool b]) (eW b))(x:cF):cI E 97 (fun id=>[.ptr id 0,Em.aP.U x]) (fI x):=by
 intro τ id p0 gV eO hl0
 obtain⟨nm,a,b,c,p⟩:=x
 have he:fI ⟨nm,a,b,c,p⟩=aZ nm++b8 a++b8 b++b8 c++eW p:=by simp[fI]
 rw[he]at hl0 ⊢
 clear he
 simp only[yAa]at hl0
 have K0:=l8.new eO [.agg [.str nm,.int .i64 a,.int .i64 b,.int .i64 c,.bool p]]
 obtain⟨w0,z0⟩:=K0.at 0 rfl
 have b0:=K0.bx 0 _ rfl
 obtain⟨σ1,t1,k1,K1⟩:=K0.next (H1 nm) (by simp only[yAa];omega)
 obtain⟨w1,z1⟩:=K1.at 0 rfl
 have b1:=K1.bx 0 _ rfl
 obtain⟨σ2,t2,k2,K2⟩:=K1.next (H2 a) (by simp only[yAa];omega)
 obtain⟨w2,z2⟩:=K2.at 0 rfl
 have b2:=K2.bx 0 _ rfl
 obtain⟨σ3,t3,k3,K3⟩:=K2.next (H2 b) (by simp only[yAa];omega)
 obtain⟨w3,z3⟩:=K3.at 0 rfl
 have b3:=K3.bx 0 _ rfl
 obtain⟨bK,t4,k4,K4⟩:=K3.next (H2 c) (by simp only[yAa];omega)
 obtain⟨w4,z4⟩:=K4.at 0 rfl
 have b4:=K4.bx 0 _ rfl
 obtain⟨vL,t5,k5,K5⟩:=K4.next (H3 p) (by simp only[yAa];omega)
 obtain⟨w5,z5⟩:=K5.at 0 rfl
 have b5:=K5.bx 0 _ rfl
 simp only[Nat.add_zero,List.map_cons,List.map_nil]at w0 w1 w2 w3 w4 w5 z0 b0 z1 b1 z2 b2 z3 b3 z4 b4 z5 b5 k1 k2 k3 k4 k5
 apply aN.aK h0 func97 rfl
 focus(simp[show Tryz.f97.ntmps=_ from rfl,List.replicate];rfl)
 have gx:=An @h1 (An @h2 (An @h3 (An @w0 (An @z0 (An @b0 (An @k1 (An @w1 (An @z1 (An @b1 (An @k2 (An @w2 (An @z2 (An @b2 (An @k3 (An @w3 (An @z3 (An @b3 (An @k4 (An @w4 (An @z4 (An @b4 (An @k5 (An @w5 (An @z5 (@b5)))))))))))))))))))))))))
 refine aC ?_
 clear gx
 exact⟨_,_,rfl,rfl,t5,by simpa [yAi]using K5.wr,K5.done⟩
theorem aK1(h0:E 95=none)(h1:E 93=some (aO prog E1 93))(H1:∀s,cI E1 93 (fun id=>[.ptr id 0,.str s]) (aZ s))(h2:E 132=some (aO prog E2 132))(H2:∀b,cI E2 132 (fun id=>[.ptr id 0,.bool b]) (eW b))(h3:E 92=some (aO prog E3 92))(H3:∀n,cI E3 92 (fun id=>[.ptr id 0,.int .i64 n]) (b8 n))(h4:E 133=some (aO prog E4 133))(H4:∀l:List dG,cI E4 133 (fun id=>[.ptr id 0,.slice (sz 4 l) (l.map Em.stop.U) .any,.dA 96 [.ptr id 0]]) (eList fE l))(x:cU):cI E 95 (fun id=>[.ptr id 0,Em.div.U x]) (eX x):=by
 intro τ id p0 gV eO hl0
 obtain⟨nm,p,a,b,w⟩:=x
 have he:eX ⟨nm,p,a,b,w⟩=aZ nm++eW p++b8 a++b8 b++eList fE w:=by simp[eX]
 rw[he]at hl0 ⊢
 clear he
 simp only[yAa]at hl0
 have K0:=l8.new eO [.agg [.str nm,.bool p,.int .i64 a,.int .i64 b,.slice (sz 4 w) (w.map Em.stop.U) .any]]
 obtain⟨w0,z0⟩:=K0.at 0 rfl
 have b0:=K0.bx 0 _ rfl
 obtain⟨σ1,t1,k1,K1⟩:=K0.next (H1 nm) (by simp only[yAa];omega)
 obtain⟨w1,z1⟩:=K1.at 0 rfl
 have b1:=K1.bx 0 _ rfl
 obtain⟨σ2,t2,k2,K2⟩:=K1.next (H2 p) (by simp only[yAa];omega)
 obtain⟨w2,z2⟩:=K2.at 0 rfl
 have b2:=K2.bx 0 _ rfl
 obtain⟨σ3,t3,k3,K3⟩:=K2.next (H3 a) (by simp only[yAa];omega)
 obtain⟨w3,z3⟩:=K3.at 0 rfl
 have b3:=K3.bx 0 _ rfl
 obtain⟨bK,t4,k4,K4⟩:=K3.next (H3 b) (by simp only[yAa];omega)
 obtain⟨w4,z4⟩:=K4.at 0 rfl
 have b4:=K4.bx 0 _ rfl
 obtain⟨vL,t5,k5,K5⟩:=K4.next (H4 w) (by simp only[yAa];omega)
 obtain⟨w5,z5⟩:=K5.at 0 rfl
 have b5:=K5.bx 0 _ rfl
 simp only[Nat.add_zero,List.map_cons,List.map_nil]at w0 w1 w2 w3 w4 w5 z0 b0 z1 b1 z2 b2 z3 b3 z4 b4 z5 b5 k1 k2 k3 k4 k5
 apply aN.aK h0 func95 rfl
 focus(simp[show Tryz.f95.ntmps=_ from rfl,List.replicate];rfl)
 have gx:=An @h1 (An @h2 (An @h3 (An @h4 (An @w0 (An @z0 (An @b0 (An @k1 (An @w1 (An @z1 (An @b1 (An @k2 (An @w2 (An @z2 (An @b2 (An @k3 (An @w3 (An @z3 (An @b3 (An @k4 (An @w4 (An @z4 (An @b4 (An @k5 (An @w5 (An @z5 (@b5))))))))))))))))))))))))))
 refine aC ?_
 clear gx
 exact⟨_,_,rfl,rfl,t5,by simpa [yAi]using K5.wr,K5.done⟩
theorem aLd(h0:E 86=none)(h1:E 93=some (aO prog E1 93))(H1:∀s,cI E1 93 (fun id=>[.ptr id 0,.str s]) (aZ s))(h2:E 112=some (aO prog E2 112))(H2:∀l:List bM,cI E2 112 (fun id=>[.ptr id 0,.slice (sz 6 l) (l.map Em.aR.U) .any,.dA 94 [.ptr id 0]]) (eList eT l))(h3:E 113=some (aO prog E3 113))(H3:∀l:List cU,cI E3 113 (fun id=>[.ptr id 0,.slice (sz 5 l) (l.map Em.div.U) .any,.dA 95 [.ptr id 0]]) (eList eX l))(h4:E 114=some (aO prog E4 114))(H4:∀l:List cF,cI E4 114 (fun id=>[.ptr id 0,.slice (sz 5 l) (l.map Em.aP.U) .any,.dA 97 [.ptr id 0]]) (eList fI l))(x:bY):cI E 86 (fun id=>[.ptr id 0,Em.aT.U x]) (aW x):=by
 intro τ id p0 gV eO hl0
 obtain⟨nm,a,b,c⟩:=x
 have he:aW ⟨nm,a,b,c⟩=aZ nm++eList eT a++eList eX b++eList fI c:=by simp[aW]
 rw[he]at hl0 ⊢
 clear he
 simp only[yAa]at hl0
 have K0:=l8.new eO [.agg [.str nm,.slice (sz 6 a) (a.map Em.aR.U) .any,.slice (sz 5 b) (b.map Em.div.U) .any,.slice (sz 5 c) (c.map Em.aP.U) .any]]
 obtain⟨w0,z0⟩:=K0.at 0 rfl
 have b0:=K0.bx 0 _ rfl
 obtain⟨σ1,t1,k1,K1⟩:=K0.next (H1 nm) (by simp only[yAa];omega)
 obtain⟨w1,z1⟩:=K1.at 0 rfl
 have b1:=K1.bx 0 _ rfl
 obtain⟨σ2,t2,k2,K2⟩:=K1.next (H2 a) (by simp only[yAa];omega)
 obtain⟨w2,z2⟩:=K2.at 0 rfl
 have b2:=K2.bx 0 _ rfl
 obtain⟨σ3,t3,k3,K3⟩:=K2.next (H3 b) (by simp only[yAa];omega)
 obtain⟨w3,z3⟩:=K3.at 0 rfl
 have b3:=K3.bx 0 _ rfl
 obtain⟨bK,t4,k4,K4⟩:=K3.next (H4 c) (by simp only[yAa];omega)
 obtain⟨w4,z4⟩:=K4.at 0 rfl
 have b4:=K4.bx 0 _ rfl
 simp only[Nat.add_zero,List.map_cons,List.map_nil]at w0 w1 w2 w3 w4 z0 b0 z1 b1 z2 b2 z3 b3 z4 b4 k1 k2 k3 k4
 apply aN.aK h0 func86 rfl
 focus(simp[show Tryz.f86.ntmps=_ from rfl,List.replicate];rfl)
 have gx:=An @h1 (An @h2 (An @h3 (An @h4 (An @w0 (An @z0 (An @b0 (An @k1 (An @w1 (An @z1 (An @b1 (An @k2 (An @w2 (An @z2 (An @b2 (An @k3 (An @w3 (An @z3 (An @b3 (An @k4 (An @w4 (An @z4 (@b4))))))))))))))))))))))
 refine aC ?_
 clear gx
 exact⟨_,_,rfl,rfl,t4,by simpa [yAi]using K4.wr,K4.done⟩
theorem aKL(h0:E 137=none)(h1:E 92=some (aO prog E1 92))(H1:∀n,cI E1 92 (fun id=>[.ptr id 0,.int .i64 n]) (b8 n))(x:fA):qG E 137 (fun id bw=>[Em.draw.U x,.ptr bw 0]) (jJ x):=by
 intro τ id bw p0 gV eO hbw hl0
 obtain⟨a,b⟩:=x
 have he:jJ ⟨a,b⟩=b8 a++b8 b:=by simp[jJ]
 rw[he]at hl0 ⊢
 clear he
 simp only[yAa]at hl0
 have K0:=l8.new eO [.agg [.int .i64 a,.int .i64 b]]
 obtain⟨w0,z0⟩:=K0.at 0 rfl
 have b0:=K0.bx 0 _ rfl
 have a0:(τ++List.map aB.box [.agg [.int .i64 a,.int .i64 b]])[bw]?=some (.box (.ptr id 0)):=by rw[yAg (yA.1 hbw).1];exact hbw
 obtain⟨v0,y0⟩:=yA.1 a0
 have Q1:=K0.next (H1 a) (by simp only[yAa];omega)
 obtain⟨σ1,t1,k1,W1,F1⟩:=(H1 a).at K0.wr (by simp only[yAa];omega)
 have K1:=K0.of W1 F1
 have a1:=F1.ptr K0.wr a0
 obtain⟨w1,z1⟩:=K1.at 0 rfl
 have b1:=K1.bx 0 _ rfl
 obtain⟨v1,y1⟩:=yA.1 a1
 have Q2:=K1.next (H1 b) (by simp only[yAa];omega)
 obtain⟨σ2,t2,k2,W2,F2⟩:=(H1 b).at K1.wr (by simp only[yAa];omega)
 have K2:=K1.of W2 F2
 have a2:=F2.ptr K1.wr a1
 obtain⟨w2,z2⟩:=K2.at 0 rfl
 have b2:=K2.bx 0 _ rfl
 obtain⟨v2,y2⟩:=yA.1 a2
 simp only[Nat.add_zero,List.map_cons,List.map_nil]at w0 w1 w2 z0 b0 z1 b1 z2 b2 y0 a0 y1 a1 y2 a2 k1 k2
 apply aN.aK h0 func137 rfl
 focus(simp[show Tryz.f137.ntmps=_ from rfl,List.replicate];rfl)
 have gx:=An @h1 (An @w0 (An @z0 (An @b0 (An @v0 (An @y0 (An @a0 (An @k1 (An @w1 (An @z1 (An @b1 (An @v1 (An @y1 (An @a1 (An @k2 (An @w2 (An @z2 (An @b2 (An @v2 (An @y2 (@a2))))))))))))))))))))
 refine aC ?_
 clear gx
 exact⟨_,_,rfl,rfl,t2,by simpa [yAi]using K2.wr,K2.done⟩
theorem aKP(h0:E 135=none)(h1:E 92=some (aO prog E1 92))(H1:∀n,cI E1 92 (fun id=>[.ptr id 0,.int .i64 n]) (b8 n))(h2:E 136=some (aO prog E2 136))(H2:∀l:List fA,qG E2 136 (fun id bw=>[.ptr id 0,.slice (sz 2 l) (l.map Em.draw.U) .any,.func 137 [.ptr bw 0]]) (eList jJ l))(x:fY):qG E 135 (fun id bw=>[Em.bL.U x,.ptr bw 0]) (iT x):=by
 intro τ id bw p0 gV eO hbw hl0
 obtain⟨a,b,w⟩:=x
 have he:iT ⟨a,b,w⟩=b8 a++b8 b++eList jJ w:=by simp[iT]
 rw[he]at hl0 ⊢
 clear he
 simp only[yAa]at hl0
 have K0:=l8.new eO [.agg [.int .i64 a,.int .i64 b,.slice (sz 2 w) (w.map Em.draw.U) .any]]
 obtain⟨w0,z0⟩:=K0.at 0 rfl
 have b0:=K0.bx 0 _ rfl
 have a0:(τ++List.map aB.box [.agg [.int .i64 a,.int .i64 b,.slice (sz 2 w) (w.map Em.draw.U) .any]])[bw]?=some (.box (.ptr id 0)):=by rw[yAg (yA.1 hbw).1];exact hbw
 obtain⟨v0,y0⟩:=yA.1 a0
 have Q1:=K0.next (H1 a) (by simp only[yAa];omega)
 obtain⟨σ1,t1,k1,W1,F1⟩:=(H1 a).at K0.wr (by simp only[yAa];omega)
 have K1:=K0.of W1 F1
 have a1:=F1.ptr K0.wr a0
 obtain⟨w1,z1⟩:=K1.at 0 rfl
 have b1:=K1.bx 0 _ rfl
 obtain⟨v1,y1⟩:=yA.1 a1
 have Q2:=K1.next (H1 b) (by simp only[yAa];omega)
 obtain⟨σ2,t2,k2,W2,F2⟩:=(H1 b).at K1.wr (by simp only[yAa];omega)
 have K2:=K1.of W2 F2
 have a2:=F2.ptr K1.wr a1
 obtain⟨w2,z2⟩:=K2.at 0 rfl
 have b2:=K2.bx 0 _ rfl
 obtain⟨v2,y2⟩:=yA.1 a2
 obtain⟨σ3,t3,k3,K3,a3⟩:=K2.aEx (bw:=bw) a2 (H2 w) (by simp only[yAa];omega)
 obtain⟨w3,z3⟩:=K3.at 0 rfl
 have b3:=K3.bx 0 _ rfl
 obtain⟨v3,y3⟩:=yA.1 a3
 simp only[Nat.add_zero,List.map_cons,List.map_nil]at w0 w1 w2 w3 z0 b0 z1 b1 z2 b2 z3 b3 y0 a0 y1 a1 y2 a2 y3 a3 k1 k2 k3
 apply aN.aK h0 func135 rfl
 focus(simp[show Tryz.f135.ntmps=_ from rfl,List.replicate];rfl)
 have gx:=An @h1 (An @h2 (An @w0 (An @z0 (An @b0 (An @v0 (An @y0 (An @a0 (An @k1 (An @w1 (An @z1 (An @b1 (An @v1 (An @y1 (An @a1 (An @k2 (An @w2 (An @z2 (An @b2 (An @v2 (An @y2 (An @a2 (An @k3 (An @w3 (An @z3 (An @b3 (An @v3 (An @y3 (@a3))))))))))))))))))))))))))))
 refine aC ?_
 clear gx
 exact⟨_,_,rfl,rfl,t3,by simpa [yAi]using K3.wr,K3.done⟩
theorem aKV(h0:E 96=none)(h1:E 93=some (aO prog E1 93))(H1:∀s,cI E1 93 (fun id=>[.ptr id 0,.str s]) (aZ s))(h2:E 130=some (aO prog E2 130))(H2:∀x:Int×Int,cI E2 130 (fun id=>[.ptr id 0,.agg [.int .i64 x.1,.int .i64 x.2]]) (pI x))(h3:E 134=some (aO prog E3 134))(H3:∀l:List fY,qG E3 134 (fun id bw=>[.ptr id 0,.slice (sz 3 l) (l.map Em.bL.U) .any,.func 135 [.ptr bw 0]]) (eList iT l))(x:dG):cI E 96 (fun id=>[.ptr id 0,Em.stop.U x]) (fE x):=by
 intro τ id p0 gV eO hl0
 obtain⟨nm,a,b,w⟩:=x
 have he:fE ⟨nm,a,b,w⟩=aZ nm++pI (a,b)++eList iT w:=by simp[fE]
 rw[he]at hl0 ⊢
 clear he
 simp only[yAa]at hl0
 have K0:=l8.new eO [.ptr id 0,.agg [.str nm,.int .i64 a,.int .i64 b,.slice (sz 3 w) (w.map Em.bL.U) .any]]
 obtain⟨w0,z0⟩:=K0.at 1 rfl
 have b0:=K0.bx 1 _ rfl
 obtain⟨v0,y0⟩:=K0.at 0 rfl
 have a0:=K0.bx 0 _ rfl
 obtain⟨σ1,t1,k1,K1⟩:=K0.next (H1 nm) (by simp only[yAa];omega)
 have a1:=K1.bx 0 _ rfl
 obtain⟨w1,z1⟩:=K1.at 1 rfl
 have b1:=K1.bx 1 _ rfl
 obtain⟨v1,y1⟩:=yA.1 a1
 obtain⟨σ2,t2,k2,K2⟩:=K1.next (H2 (a,b)) (by simp only[yAa];omega)
 have a2:=K2.bx 0 _ rfl
 obtain⟨w2,z2⟩:=K2.at 1 rfl
 have b2:=K2.bx 1 _ rfl
 obtain⟨v2,y2⟩:=yA.1 a2
 obtain⟨σ3,t3,k3,K3,a3⟩:=K2.aEx (bw:=(τ.length+0)) a2 (H3 w) (by simp only[yAa];omega)
 obtain⟨w3,z3⟩:=K3.at 1 rfl
 have b3:=K3.bx 1 _ rfl
 obtain⟨v3,y3⟩:=yA.1 a3
 simp only[Nat.add_zero,List.map_cons,List.map_nil]at w0 w1 w2 w3 z0 b0 z1 b1 z2 b2 z3 b3 y0 a0 y1 a1 y2 a2 y3 a3 k1 k2 k3
 apply aN.aK h0 func96 rfl
 focus(simp[show Tryz.f96.ntmps=_ from rfl,List.replicate];rfl)
 have gx:=An @h1 (An @h2 (An @h3 (An @w0 (An @z0 (An @b0 (An @v0 (An @y0 (An @a0 (An @k1 (An @w1 (An @z1 (An @b1 (An @v1 (An @y1 (An @a1 (An @k2 (An @w2 (An @z2 (An @b2 (An @v2 (An @y2 (An @a2 (An @k3 (An @w3 (An @z3 (An @b3 (An @v3 (An @y3 (@a3)))))))))))))))))))))))))))))
 refine aC ?_
 clear gx
 exact⟨_,_,rfl,rfl,t3,by simpa [yAi]using K3.wr,K3.done⟩
end
end Go.Kz
