/-
  Part D3 of the way: an interpreter over pure data, its soundness, walks through functions.
-/
import Derived.Test.YtefkonhamghgfaaGreatDoorD1
set_option linter.all false

set_option maxHeartbeats 40000000
open Go.Proofs.Tryz
namespace Go.Kz
open Go Go.Proofs
set_option maxRecDepth 100000
section
theorem aQn(x:Int):gG prog 64 1 [(0,i64.U x)]=some (.slice 1 [i64.U x] .full):=by
 kernel_rfl
variable{E E1 E2:aD}(hU:aI E)
include hU
theorem aJt(h0:E 102=none)(h1:E 100=some (aO prog E1 100))(H1:Reads E1 100 aM i64.U)(h2:E 100=some (aO prog E2 100))(H2:Reads E2 100 aM i64.U):j9 E 102 (gO 100) (dList aM) eD.U:=by
 intro τ id s hr hl
 have hid:=hr.lt
 obtain⟨jL,k1,r1,l1,f1⟩:=H1.at hr hl
 have hd:dList aM s=bG aM (aM s).1.toNat ⟨(aM s).2.aJ,(aM s).2.bad||decide ((aM s).1<0)⟩:=rfl
 have hln:=cH.len s
 obtain⟨n,hn⟩:=gn ((aM s).1)
 obtain⟨s1,hs1⟩:=gn ((aM s).2)
 rw[hn]at k1 hd
 rw[hs1]at r1 hd hln
 replace k1:=k1.trans (show _=some (.int .i64 n,jL)from rfl)
 simp only[kF]at k1
 obtain⟨aJ,bad⟩:=s1
 obtain⟨z,hz,hb⟩:=r1
 simp only at hz hb hd hln
 obtain⟨hlt,hg⟩:=yA.1 hb
 obtain⟨N,hN⟩:=gn (n.toNat)
 rw[hN]at hd
 have R2:=bV.put (bad:=bad||decide (n<0)) hlt aJ hz
 obtain⟨s2,hs2⟩:=gn (fP.mk aJ (bad||decide (n<0)))
 rw[hs2]at R2 hd
 have hi2:s2.aJ=aJ:=by rw[<-hs2]
 obtain⟨nZ,nK⟩:=gn (aG aJ)
 rw[nK]at hb hg R2
 obtain⟨dY,bO⟩:=gn (jL.set id (.box (.agg [.slice z nZ .any,.bool (bad||decide (n<0))])))
 rw[bO]at R2
 have l2:τ.length<=dY.length:=by rw[<-bO,yBd];exact l1
 have f2:∀j,j<τ.length->j≠id->dY[j]?=τ[j]?:=fun j h1 h2=>by rw[<-bO,yAd (Ne.symm h2)];exact f1 j h1 h2
 obtain⟨bn,hbn⟩:=gn ((bad||decide (n<0)))
 rw[hbn]at bO
 have hsp:∀x:Int,PD.strip (i64.U x)=i64.U x:=fun x=>i64.str x
 have hns:=aQn
 obtain⟨fin,hfin⟩:=gn (bG aM N s2)
 rw[hfin]at hd
 unfold lL
 rw[hd]
 clear hd
 simp only[gO]
 apply aN.aK h0 func102 rfl
 focus(simp[show Tryz.f102.ntmps=_ from rfl,List.replicate];rfl)
 have qD:bad=true\/(bad=false/\n<0)\/(bad=false/\¬n<0):=by
  cases bad
  ·exact .inr (by by_cases c:n<0;exact .inl ⟨rfl,c⟩;exact .inr ⟨rfl,c⟩)
  ·exact .inl rfl
 have pR:s2.aJ.length<=s.aJ.length:=by rw[hi2];exact hln
 clear hr hi2 hs2 hln hz nK
 rcases qD with rfl | ⟨rfl,c2⟩ | ⟨rfl,c2⟩
 rw[show bn=true by rw[<-hbn];simp]at bO
 have gx:=An @h1 (An @k1 (An @hb (An @hg (@bO))))
 refine aC ?_
 clear gx
 rotate_left
 rw[show bn=true by rw[<-hbn];simp[c2]]at bO
 have gx:=An @h1 (An @k1 (An @hb (An @hg (An @bO (@c2)))))
 refine aC ?_
 clear gx
 rotate_left
 rw[show bn=false by rw[<-hbn];simp[c2]]at bO
 have gx:=An @h1 (An @k1 (An @hb (An @hg (An @bO (@c2)))))
 refine aC ?_
 clear gx
 all_goals (
 clear hb hg bO hbn k1 f1 l1
 refine Wp.cJ (fun m fr σ=>∃(i:Nat) (xs:List Int) (tok:Tok) (st:fP) (σ1:List aB),∃gg:Nat->PD,(i+m=N/\xs.length=i/\bV σ1 id st/\cV σ1 tok 3 1 i/\(∀q,tok=.own q->τ.length<=q)/\τ.length<=σ1.length/\(∀j,j<τ.length->j≠id->σ1[j]?=τ[j]?)/\8*i<=s.aJ.length+8/\(st.bad=false->st.aJ.length+8*i<=s.aJ.length)/\st.aJ.length<=s.aJ.length/\fin=(xs++(bG aM (N-i) st).1,(bG aM (N-i) st).2))/\fr=[.ptr id 0,.dA 100 [.ptr id 0],gg 2,gg 3,gg 4,.int .i64 n,.slice (sz 1 xs) (xs.map i64.U) tok,.int .i64 i,gg 8,gg 9,gg 10,gg 11,gg 12,gg 13,gg 14,gg 15,gg 16,gg 17,gg 18,gg 19,gg 20,gg 21,gg 22,gg 23,gg 24,gg 25,gg 26,gg 27,gg 28,gg 29,gg 30,gg 31,gg 32,gg 33,gg 34,gg 35,gg 36,gg 37,gg 38]/\σ=σ1) ?_ (N) (by refine⟨0,[],.full,s2,dY,?_⟩;exact bW (⟨by omega,rfl,R2,.inl ⟨rfl,rfl⟩,(fun q h=>by cases h),l2,f2,by omega,(fun _=>by omega),pR,(by rw[Nat.sub_zero,hfin];rfl)⟩))
 rintro m fr σ ⟨i,xs,tok,st,σ1,gg,hI,rfl,rfl⟩
 obtain⟨hm,hxl,hR,hrow,hown,hlo,hfr,AE,hbd,hLe,hfi⟩:=hI
 obtain⟨z,hz,hb⟩:=hR
 obtain⟨hlt,hg⟩:=yA.1 hb
 by_cases hi:i<N
 ·have q1:(i:Int)<n:=by omega
  cases hst:st.bad with
  |true=>
   rw[hst]at hb hg
   have dO:bV σ id st:=⟨z,hz,by rw[hst];exact hb⟩
   rw[AF _ _ hst,yAl]at hfi
   obtain⟨ys,hys⟩:=gn (aG st.aJ)
   rw[hys]at hb hg
   have hfs:=rK i64 1 (sz 1 xs) xs (by unfold sz;by_cases h:xs=[];exact .inl h;exact .inr (if_neg (fun e=>h (yAf e)))) tok
   have gx:=An @q1 (An @hb (@hg))
   refine aC ?_
   clear gx
   exact⟨_,_,rfl,by rw[hfi];exact hfs,by rw[hfi];exact dO,hlo,hfr⟩
  |false=>
   rw[hst]at hb hg
   have dO:bV σ id st:=⟨z,hz,by rw[hst];exact hb⟩
   obtain⟨cB,k7,R7,l7,f7⟩:=H2.at dO (by omega)
   have hu:=cH.use st
   have sS:=cH.len st
   have hdl:bG aM (N-i) st=((aM st).1::(bG aM (N-(i+1)) (aM st).2).1,(bG aM (N-(i+1)) (aM st).2).2):=by
    rw[show N-i=(N-(i+1))+1 by omega]
    simp[bG,hst]
   rw[hdl]at hfi
   obtain⟨x,hx⟩:=gn ((aM st).1)
   obtain⟨dZ,pU⟩:=gn ((aM st).2)
   rw[hx]at k7 hfi
   rw[pU]at R7 hfi hu sS
   have hs1:=hsp x
   have iO:gG prog 64 1 (List.map (fun q=>(q.1,q.2.strip)) [((0:Nat),i64.U x)])=some (.slice 1 [i64.U x] .full):=by
    simp only[List.map_cons,List.map_nil,hs1]
    exact hns x
   have hmap:(xs++[x]).map i64.U=xs.map i64.U++[i64.U x]:=by simp
   obtain⟨ex,hex⟩:=gn (i64.U x)
   rw[hex]at k7 hs1 iO hmap
   simp only[kF]at k7
   have sT:cV cB tok 3 1 (xs.map i64.U).length:=by
    rw[yAe,hxl]
    exact hrow.dH fun q o e h=>by
     rw[f7 q (yA.1 h).1 (by have:=hown q e;omega)]
     exact h
   obtain⟨bQ,bZ,ap,ra,kp,ow⟩:=pY (P:=prog) (t:=64) (e:=3) (k:=1) (b:=8) (s:=sz 1 xs) (p:=ex) (tk:=.any) underlying64 (by kernel_rfl) (by unfold sz;by_cases h:xs=[];exact .inl (by rw[h];rfl);exact .inr (if_neg (fun e=>h (yAf e)))) sT (by rw[yAe];omega) (by rw[yAe];omega)
   obtain⟨ys,hys⟩:=gn (aG st.aJ)
   rw[hys]at hb hg
   have hsz:sz 1 (xs++[x])=1:=cG (by simp)
   have GW:cB.length<=bZ.length:=by
    rcases Nat.lt_or_ge bZ.length cB.length with h|h
    ·exfalso
     obtain⟨o,ho⟩:∃o,cB[cB.length-1]?=some o:=⟨_,yAh (by omega)⟩
     by_cases e:tok=.own (cB.length-1)
     ·rcases ra with⟨h1,_⟩ | ⟨_,q,h1,h2⟩
      ·omega
      ·have h3:=(yA.1 h2).1
       rcases ow q h1 with h4|h4
       ·rw[e]at h4;cases h4;omega
       ·omega
     ·have h3:=(yA.1 (kp _ _ e ho)).1
      omega
    ·exact h
   have nL:∀j,j<cB.length->tok≠.own j->bZ[j]?=cB[j]?:=fun j h1 h2=>by rw[kp j _ h2 (yAh h1),yAh h1]
   have sU:tok≠.own id:=fun e=>by
    have:=hown id e
    omega
   have hlow:∀j,j<τ.length->tok≠.own j:=fun j hj e=>by
    have:=hown j e
    omega
   have sV:∀q,bQ=.own q->τ.length<=q:=fun q e=>by
    rcases ow q e with h|h
    ·exact hown q h
    ·omega
   have sW:bV bZ id dZ:=R7.dH (nL id R7.lt sU)
   have sX:cV bZ bQ 3 1 (i+1):=by rw[yAe,hxl]at ra;exact ra
   have sY:∀j,j<τ.length->j≠id->bZ[j]?=τ[j]?:=fun j h1 h2=>by rw[nL j (by omega) (hlow j h1),f7 j (by omega) h2];exact hfr j h1 h2
   have s6:8*(i+1)<=s.aJ.length+8:=by have:=hbd hst;omega
   have s7:dZ.bad=false->dZ.aJ.length+8*(i+1)<=s.aJ.length:=fun h=>by have:=hu h;have:=hbd hst;omega
   have s8:fin=((xs++[x])++(bG aM (N-(i+1)) dZ).1,(bG aM (N-(i+1)) dZ).2):=by rw[hfi];simp
   have gx:=An @q1 (An @hb (@hg))
   refine aC ?_
   clear gx
   first|refine Wp.seq ?_|skip
   apply Wp.jQ
   have gx:=An @h2 (An @k7 (An @hs1 (@ap)))
   refine iN ?_
   clear gx
   apply SQ.nil
   have gx:=An @q1 (An @hb (@hg))
   refine aC ?_
   clear gx
   refine bP.normal (m-1) (by omega) (by refine⟨i+1,xs++[x],bQ,dZ,bZ,?_⟩;exact cW (⟨by omega,by simp[hxl],sW,sX,sV,by omega,sY,s6,s7,by omega,s8⟩) (by(first|rfl|(simp[hmap,hsz];repeat(first|rfl|(apply And.intro)))|(simp[hmap,hsz];done))) (by(first|rfl|(simp[hmap,hsz];repeat(first|rfl|(apply And.intro)))|(simp[hmap,hsz];done))))
 ·have q1:¬(i:Int)<n:=by omega
  have dO:bV σ id st:=⟨z,hz,hb⟩
  rw[show N-i=0 by omega]at hfi
  simp only[bG,yAl]at hfi
  have hfs:=rK i64 1 (sz 1 xs) xs (by unfold sz;by_cases h:xs=[];exact .inl h;exact .inr (if_neg (fun e=>h (yAf e)))) tok
  have gx:=@q1
  refine aC ?_
  clear gx
  exact⟨_,_,rfl,by rw[hfi];exact hfs,by rw[hfi];exact dO,hlo,hfr⟩)
end
section
theorem aQo(x:bM):gG prog 32 1 [(0,Em.aR.U x)]=some (.slice 6 [Em.aR.U x] .full):=by
 kernel_rfl
variable{E E1 E2:aD}(hU:aI E)
include hU
theorem aJx(h0:E 72=none)(h1:E 100=some (aO prog E1 100))(H1:Reads E1 100 aM i64.U)(h2:E 73=some (aO prog E2 73))(H2:Reads E2 73 jD Em.aR.U):j9 E 72 (gO 73) (dList jD) aX.U:=by
 intro τ id s hr hl
 have hid:=hr.lt
 obtain⟨jL,k1,r1,l1,f1⟩:=H1.at hr hl
 have hd:dList jD s=bG jD (aM s).1.toNat ⟨(aM s).2.aJ,(aM s).2.bad||decide ((aM s).1<0)⟩:=rfl
 have hln:=cH.len s
 obtain⟨n,hn⟩:=gn ((aM s).1)
 obtain⟨s1,hs1⟩:=gn ((aM s).2)
 rw[hn]at k1 hd
 rw[hs1]at r1 hd hln
 replace k1:=k1.trans (show _=some (.int .i64 n,jL)from rfl)
 simp only[kF]at k1
 obtain⟨aJ,bad⟩:=s1
 obtain⟨z,hz,hb⟩:=r1
 simp only at hz hb hd hln
 obtain⟨hlt,hg⟩:=yA.1 hb
 obtain⟨N,hN⟩:=gn (n.toNat)
 rw[hN]at hd
 have R2:=bV.put (bad:=bad||decide (n<0)) hlt aJ hz
 obtain⟨s2,hs2⟩:=gn (fP.mk aJ (bad||decide (n<0)))
 rw[hs2]at R2 hd
 have hi2:s2.aJ=aJ:=by rw[<-hs2]
 obtain⟨nZ,nK⟩:=gn (aG aJ)
 rw[nK]at hb hg R2
 obtain⟨dY,bO⟩:=gn (jL.set id (.box (.agg [.slice z nZ .any,.bool (bad||decide (n<0))])))
 rw[bO]at R2
 have l2:τ.length<=dY.length:=by rw[<-bO,yBd];exact l1
 have f2:∀j,j<τ.length->j≠id->dY[j]?=τ[j]?:=fun j h1 h2=>by rw[<-bO,yAd (Ne.symm h2)];exact f1 j h1 h2
 obtain⟨bn,hbn⟩:=gn ((bad||decide (n<0)))
 rw[hbn]at bO
 have hsp:∀x:bM,PD.strip (Em.aR.U x)=Em.aR.U x:=fun x=>Em.aR.str x
 have hns:=aQo
 obtain⟨fin,hfin⟩:=gn (bG jD N s2)
 rw[hfin]at hd
 unfold lL
 rw[hd]
 clear hd
 simp only[gO]
 apply aN.aK h0 func72 rfl
 focus(simp[show Tryz.f72.ntmps=_ from rfl,List.replicate];rfl)
 have qD:bad=true\/(bad=false/\n<0)\/(bad=false/\¬n<0):=by
  cases bad
  ·exact .inr (by by_cases c:n<0;exact .inl ⟨rfl,c⟩;exact .inr ⟨rfl,c⟩)
  ·exact .inl rfl
 have pR:s2.aJ.length<=s.aJ.length:=by rw[hi2];exact hln
 clear hr hi2 hs2 hln hz nK
 rcases qD with rfl | ⟨rfl,c2⟩ | ⟨rfl,c2⟩
 rw[show bn=true by rw[<-hbn];simp]at bO
 have gx:=An @h1 (An @k1 (An @hb (An @hg (@bO))))
 refine aC ?_
 clear gx
 rotate_left
 rw[show bn=true by rw[<-hbn];simp[c2]]at bO
 have gx:=An @h1 (An @k1 (An @hb (An @hg (An @bO (@c2)))))
 refine aC ?_
 clear gx
 rotate_left
 rw[show bn=false by rw[<-hbn];simp[c2]]at bO
 have gx:=An @h1 (An @k1 (An @hb (An @hg (An @bO (@c2)))))
 refine aC ?_
 clear gx
 all_goals (
 clear hb hg bO hbn k1 f1 l1
 refine Wp.cJ (fun m fr σ=>∃(i:Nat) (xs:List bM) (tok:Tok) (st:fP) (σ1:List aB),∃gg:Nat->PD,(i+m=N/\xs.length=i/\bV σ1 id st/\cV σ1 tok 66 6 i/\(∀q,tok=.own q->τ.length<=q)/\τ.length<=σ1.length/\(∀j,j<τ.length->j≠id->σ1[j]?=τ[j]?)/\8*i<=s.aJ.length+8/\(st.bad=false->st.aJ.length+8*i<=s.aJ.length)/\st.aJ.length<=s.aJ.length/\fin=(xs++(bG jD (N-i) st).1,(bG jD (N-i) st).2))/\fr=[.ptr id 0,.dA 73 [.ptr id 0],gg 2,gg 3,gg 4,.int .i64 n,.slice (sz 6 xs) (xs.map Em.aR.U) tok,.int .i64 i,gg 8,gg 9,gg 10,gg 11,gg 12,gg 13,gg 14,gg 15,gg 16,gg 17,gg 18,gg 19,gg 20,gg 21,gg 22,gg 23,gg 24,gg 25,gg 26,gg 27,gg 28,gg 29,gg 30,gg 31,gg 32,gg 33,gg 34,gg 35,gg 36,gg 37,gg 38]/\σ=σ1) ?_ (N) (by refine⟨0,[],.full,s2,dY,?_⟩;exact bW (⟨by omega,rfl,R2,.inl ⟨rfl,rfl⟩,(fun q h=>by cases h),l2,f2,by omega,(fun _=>by omega),pR,(by rw[Nat.sub_zero,hfin];rfl)⟩))
 rintro m fr σ ⟨i,xs,tok,st,σ1,gg,hI,rfl,rfl⟩
 obtain⟨hm,hxl,hR,hrow,hown,hlo,hfr,AE,hbd,hLe,hfi⟩:=hI
 obtain⟨z,hz,hb⟩:=hR
 obtain⟨hlt,hg⟩:=yA.1 hb
 by_cases hi:i<N
 ·have q1:(i:Int)<n:=by omega
  cases hst:st.bad with
  |true=>
   rw[hst]at hb hg
   have dO:bV σ id st:=⟨z,hz,by rw[hst];exact hb⟩
   rw[AF _ _ hst,yAl]at hfi
   obtain⟨ys,hys⟩:=gn (aG st.aJ)
   rw[hys]at hb hg
   have hfs:=rK Em.aR 6 (sz 6 xs) xs (by unfold sz;by_cases h:xs=[];exact .inl h;exact .inr (if_neg (fun e=>h (yAf e)))) tok
   have gx:=An @q1 (An @hb (@hg))
   refine aC ?_
   clear gx
   exact⟨_,_,rfl,by rw[hfi];exact hfs,by rw[hfi];exact dO,hlo,hfr⟩
  |false=>
   rw[hst]at hb hg
   have dO:bV σ id st:=⟨z,hz,by rw[hst];exact hb⟩
   obtain⟨cB,k7,R7,l7,f7⟩:=H2.at dO (by omega)
   have hu:=GP.use st
   have sS:=GP.len st
   have hdl:bG jD (N-i) st=((jD st).1::(bG jD (N-(i+1)) (jD st).2).1,(bG jD (N-(i+1)) (jD st).2).2):=by
    rw[show N-i=(N-(i+1))+1 by omega]
    simp[bG,hst]
   rw[hdl]at hfi
   obtain⟨x,hx⟩:=gn ((jD st).1)
   obtain⟨dZ,pU⟩:=gn ((jD st).2)
   rw[hx]at k7 hfi
   rw[pU]at R7 hfi hu sS
   have hs1:=hsp x
   have iO:gG prog 32 1 (List.map (fun q=>(q.1,q.2.strip)) [((0:Nat),Em.aR.U x)])=some (.slice 6 [Em.aR.U x] .full):=by
    simp only[List.map_cons,List.map_nil,hs1]
    exact hns x
   have hmap:(xs++[x]).map Em.aR.U=xs.map Em.aR.U++[Em.aR.U x]:=by simp
   obtain⟨ex,hex⟩:=gn (Em.aR.U x)
   rw[hex]at k7 hs1 iO hmap
   simp only[kF]at k7
   have sT:cV cB tok 66 6 (xs.map Em.aR.U).length:=by
    rw[yAe,hxl]
    exact hrow.dH fun q o e h=>by
     rw[f7 q (yA.1 h).1 (by have:=hown q e;omega)]
     exact h
   obtain⟨bQ,bZ,ap,ra,kp,ow⟩:=pY (P:=prog) (t:=32) (e:=66) (k:=6) (b:=80) (s:=sz 6 xs) (p:=ex) (tk:=.any) underlying32 (by kernel_rfl) (by unfold sz;by_cases h:xs=[];exact .inl (by rw[h];rfl);exact .inr (if_neg (fun e=>h (yAf e)))) sT (by rw[yAe];omega) (by rw[yAe];omega)
   obtain⟨ys,hys⟩:=gn (aG st.aJ)
   rw[hys]at hb hg
   have hsz:sz 6 (xs++[x])=6:=cG (by simp)
   have GW:cB.length<=bZ.length:=by
    rcases Nat.lt_or_ge bZ.length cB.length with h|h
    ·exfalso
     obtain⟨o,ho⟩:∃o,cB[cB.length-1]?=some o:=⟨_,yAh (by omega)⟩
     by_cases e:tok=.own (cB.length-1)
     ·rcases ra with⟨h1,_⟩ | ⟨_,q,h1,h2⟩
      ·omega
      ·have h3:=(yA.1 h2).1
       rcases ow q h1 with h4|h4
       ·rw[e]at h4;cases h4;omega
       ·omega
     ·have h3:=(yA.1 (kp _ _ e ho)).1
      omega
    ·exact h
   have nL:∀j,j<cB.length->tok≠.own j->bZ[j]?=cB[j]?:=fun j h1 h2=>by rw[kp j _ h2 (yAh h1),yAh h1]
   have sU:tok≠.own id:=fun e=>by
    have:=hown id e
    omega
   have hlow:∀j,j<τ.length->tok≠.own j:=fun j hj e=>by
    have:=hown j e
    omega
   have sV:∀q,bQ=.own q->τ.length<=q:=fun q e=>by
    rcases ow q e with h|h
    ·exact hown q h
    ·omega
   have sW:bV bZ id dZ:=R7.dH (nL id R7.lt sU)
   have sX:cV bZ bQ 66 6 (i+1):=by rw[yAe,hxl]at ra;exact ra
   have sY:∀j,j<τ.length->j≠id->bZ[j]?=τ[j]?:=fun j h1 h2=>by rw[nL j (by omega) (hlow j h1),f7 j (by omega) h2];exact hfr j h1 h2
   have s6:8*(i+1)<=s.aJ.length+8:=by have:=hbd hst;omega
   have s7:dZ.bad=false->dZ.aJ.length+8*(i+1)<=s.aJ.length:=fun h=>by have:=hu h;have:=hbd hst;omega
   have s8:fin=((xs++[x])++(bG jD (N-(i+1)) dZ).1,(bG jD (N-(i+1)) dZ).2):=by rw[hfi];simp
   have gx:=An @q1 (An @hb (@hg))
   refine aC ?_
   clear gx
   first|refine Wp.seq ?_|skip
   apply Wp.jQ
   have gx:=An @h2 (An @k7 (An @hs1 (@ap)))
   refine iN ?_
   clear gx
   apply SQ.nil
   have gx:=An @q1 (An @hb (@hg))
   refine aC ?_
   clear gx
   refine bP.normal (m-1) (by omega) (by refine⟨i+1,xs++[x],bQ,dZ,bZ,?_⟩;exact cW (⟨by omega,by simp[hxl],sW,sX,sV,by omega,sY,s6,s7,by omega,s8⟩) (by(first|rfl|(simp[hmap,hsz];repeat(first|rfl|(apply And.intro)))|(simp[hmap,hsz];done))) (by(first|rfl|(simp[hmap,hsz];repeat(first|rfl|(apply And.intro)))|(simp[hmap,hsz];done))))
 ·have q1:¬(i:Int)<n:=by omega
  have dO:bV σ id st:=⟨z,hz,hb⟩
  rw[show N-i=0 by omega]at hfi
  simp only[bG,yAl]at hfi
  have hfs:=rK Em.aR 6 (sz 6 xs) xs (by unfold sz;by_cases h:xs=[];exact .inl h;exact .inr (if_neg (fun e=>h (yAf e)))) tok
  have gx:=@q1
  refine aC ?_
  clear gx
  exact⟨_,_,rfl,by rw[hfi];exact hfs,by rw[hfi];exact dO,hlo,hfr⟩)
end
section
variable{E E1 E2 E3 E4:aD}(hU:aI E)
include hU
theorem aJv(h0:E 73=none)(h1:E 71=some (aO prog E1 71))(H1:Reads E1 71 iB PD.str)(h2:E 101=some (aO prog E2 101))(H2:Reads E2 101 sD Em.CE.U)(h3:E 100=some (aO prog E3 100))(H3:Reads E3 100 aM i64.U)(h4:E 102=some (aO prog E4 102))(H4:j9 E4 102 (gO 100) (dList aM) eD.U):Reads E 73 jD Em.aR.U:=by
 intro τ id s hr hl
 have hid:=hr.lt
 have K0:Kp τ (τ++[.box (.agg [.str [],.str [],.int .i64 0,.int .i64 0,.int .i64 0,.slice 0 [] .full])]) id τ.length (.agg [.str [],.str [],.int .i64 0,.int .i64 0,.int .i64 0,.slice 0 [] .full]):=Kp.new
 have R0:bV (τ++[.box (.agg [.str [],.str [],.int .i64 0,.int .i64 0,.int .i64 0,.slice 0 [] .full])]) id s:=hr.more
 obtain⟨w0,z0⟩:=K0.at
 obtain⟨σ1,k1,K1,R1⟩:=H1.next K0 R0 (by omega) hid
 have l1:=sI.len s
 obtain⟨a1,nH⟩:=gn ((iB s).1)
 obtain⟨s1,gA⟩:=gn ((iB s).2)
 rw[nH]at k1
 rw[gA]at R1 l1
 have jW:=K1.set (.agg [.str a1,.str [],.int .i64 0,.int .i64 0,.int .i64 0,.slice 0 [] .full])
 have sJ:=R1.gQ (Y:=.box (.agg [.str a1,.str [],.int .i64 0,.int .i64 0,.int .i64 0,.slice 0 [] .full])) hid
 obtain⟨w1,z1⟩:=K1.at
 obtain⟨sK,sL⟩:=jW.at
 have b1:=K1.bx
 have sM:=jW.bx
 replace k1:=k1.trans (show _=some (.str a1,σ1)from rfl)
 obtain⟨σ2,k2,K2,R2⟩:=H1.next jW sJ (by omega) hid
 have l2:=sI.len s1
 obtain⟨a2,nI⟩:=gn ((iB s1).1)
 obtain⟨s2,gC⟩:=gn ((iB s1).2)
 rw[nI]at k2
 rw[gC]at R2 l2
 have jX:=K2.set (.agg [.str a1,.str a2,.int .i64 0,.int .i64 0,.int .i64 0,.slice 0 [] .full])
 have sN:=R2.gQ (Y:=.box (.agg [.str a1,.str a2,.int .i64 0,.int .i64 0,.int .i64 0,.slice 0 [] .full])) hid
 obtain⟨w2,z2⟩:=K2.at
 obtain⟨oT,pN⟩:=jX.at
 have b2:=K2.bx
 have pO:=jX.bx
 replace k2:=k2.trans (show _=some (.str a2,σ2)from rfl)
 obtain⟨σ3,k3,K3,R3⟩:=H2.next jX sN (by omega) hid
 have l3:=C4.len s2
 obtain⟨a3,oV⟩:=gn ((sD s2).1)
 obtain⟨s3,iZ⟩:=gn ((sD s2).2)
 rw[oV]at k3
 rw[iZ]at R3 l3
 have lM:=K3.set (.agg [.str a1,.str a2,.int .i64 a3.1,.int .i64 a3.2,.int .i64 0,.slice 0 [] .full])
 have uY:=R3.gQ (Y:=.box (.agg [.str a1,.str a2,.int .i64 a3.1,.int .i64 a3.2,.int .i64 0,.slice 0 [] .full])) hid
 obtain⟨w3,z3⟩:=K3.at
 obtain⟨uZ,u5⟩:=lM.at
 have b3:=K3.bx
 have qI:=lM.bx
 replace k3:=k3.trans (show _=some (.agg [.int .i64 a3.1,.int .i64 a3.2],σ3)from rfl)
 obtain⟨bK,k4,K4,R4⟩:=H3.next lM uY (by omega) hid
 have l4:=cH.len s3
 obtain⟨a4,u6⟩:=gn ((aM s3).1)
 obtain⟨s4,qK⟩:=gn ((aM s3).2)
 rw[u6]at k4
 rw[qK]at R4 l4
 have qL:=K4.set (.agg [.str a1,.str a2,.int .i64 a3.1,.int .i64 a3.2,.int .i64 a4,.slice 0 [] .full])
 have C8:=R4.gQ (Y:=.box (.agg [.str a1,.str a2,.int .i64 a3.1,.int .i64 a3.2,.int .i64 a4,.slice 0 [] .full])) hid
 obtain⟨w4,z4⟩:=K4.at
 obtain⟨C9,DA⟩:=qL.at
 have b4:=K4.bx
 have DB:=qL.bx
 replace k4:=k4.trans (show _=some (.int .i64 a4,bK)from rfl)
 obtain⟨vL,k5,K5,R5⟩:=H4.next qL C8 (by omega) hid
 have l5:=cH.list.len s4
 obtain⟨a5,AX⟩:=gn (((dList aM) s4).1)
 obtain⟨s5,AY⟩:=gn (((dList aM) s4).2)
 rw[AX]at k5
 rw[AY]at R5 l5
 obtain⟨p5,vM⟩:=gn (eD.U a5)
 rw[vM]at k5
 have XL:PD.strip p5=p5:=by rw[<-vM];exact eD.str a5
 have KP:PD.plain p5=true:=by rw[<-vM];rfl
 have KQ:PD.cells p5=[p5]:=by rw[<-vM];rfl
 unfold PD.plain at KP
 unfold PD.cells at KQ
 have vN:=K5.set (.agg [.str a1,.str a2,.int .i64 a3.1,.int .i64 a3.2,.int .i64 a4,p5])
 have KR:=R5.gQ (Y:=.box (.agg [.str a1,.str a2,.int .i64 a3.1,.int .i64 a3.2,.int .i64 a4,p5])) hid
 obtain⟨w5,z5⟩:=K5.at
 obtain⟨KS,KT⟩:=vN.at
 have b5:=K5.bx
 have KU:=vN.bx
 replace k5:=k5.trans (show _=some (p5,vL)from rfl)
 have e:jD s=(⟨a1,a2,a3.1,a3.2,a4,a5⟩,s5):=by
  unfold jD
  simp only[nH,gA,nI,gC,oV,iZ,u6,qK,AX,AY]
 simp only[kF,gO]at k1 k2 k3 k4 k5
 apply aN.aK h0 func73 rfl
 focus(simp[show Tryz.f73.ntmps=_ from rfl,List.replicate];rfl)
 have gx:=An @h1 (An @h2 (An @h3 (An @h4 (An @k1 (An @w1 (An @z1 (An @sK (An @sL (An @b1 (An @sM (An @k2 (An @w2 (An @z2 (An @oT (An @pN (An @b2 (An @pO (An @k3 (An @w3 (An @z3 (An @uZ (An @u5 (An @b3 (An @qI (An @k4 (An @w4 (An @z4 (An @C9 (An @DA (An @b4 (An @DB (An @KP (An @KQ (An @k5 (An @w5 (An @z5 (An @KS (An @KT (An @b5 (@KU))))))))))))))))))))))))))))))))))))))))
 refine aC ?_
 clear gx
 have KK:=(vN).set (.agg [.str a1,.str a2,.int .i64 a3.1,.int .i64 a3.2,.int .i64 a4,p5])
 have RR:=KR.gQ (Y:=.box (.agg [.str a1,.str a2,.int .i64 a3.1,.int .i64 a3.2,.int .i64 a4,p5])) hid
 rw[List.set_set]at KK RR
 refine⟨.agg [.str a1,.str a2,.int .i64 a3.1,.int .i64 a3.2,.int .i64 a4,p5],vL.set τ.length (.box (.agg [.str a1,.str a2,.int .i64 a3.1,.int .i64 a3.2,.int .i64 a4,p5])),by simp[fR,w5],?_⟩
 unfold lL
 rw[e]
 refine⟨?_,RR,Nat.le_of_lt KK.lt,fun j h1 h2=>KK.fr j h1 h2⟩
 simp only[PD.strip,PD.j7,XL]
 rw[<-vM]
 rfl
end
section
variable{E E1:aD}(hU:aI E)
include hU
theorem aJz(h0:E 175=none)(h1:E 100=some (aO prog E1 100))(H1:Reads E1 100 aM i64.U):Reads E 175 jE Em.draw.U:=by
 intro τ id s hr hl
 have hid:=hr.lt
 have K0:Kp τ (τ++[.box (.agg [.int .i64 0,.int .i64 0])]) id τ.length (.agg [.int .i64 0,.int .i64 0]):=Kp.new
 have R0:bV (τ++[.box (.agg [.int .i64 0,.int .i64 0])]) id s:=hr.more
 obtain⟨w0,z0⟩:=K0.at
 obtain⟨σ1,k1,K1,R1⟩:=H1.next K0 R0 (by omega) hid
 have l1:=cH.len s
 obtain⟨a1,nH⟩:=gn ((aM s).1)
 obtain⟨s1,gA⟩:=gn ((aM s).2)
 rw[nH]at k1
 rw[gA]at R1 l1
 have jW:=K1.set (.agg [.int .i64 a1,.int .i64 0])
 have sJ:=R1.gQ (Y:=.box (.agg [.int .i64 a1,.int .i64 0])) hid
 obtain⟨w1,z1⟩:=K1.at
 obtain⟨sK,sL⟩:=jW.at
 have b1:=K1.bx
 have sM:=jW.bx
 replace k1:=k1.trans (show _=some (.int .i64 a1,σ1)from rfl)
 obtain⟨σ2,k2,K2,R2⟩:=H1.next jW sJ (by omega) hid
 have l2:=cH.len s1
 obtain⟨a2,nI⟩:=gn ((aM s1).1)
 obtain⟨s2,gC⟩:=gn ((aM s1).2)
 rw[nI]at k2
 rw[gC]at R2 l2
 have jX:=K2.set (.agg [.int .i64 a1,.int .i64 a2])
 have sN:=R2.gQ (Y:=.box (.agg [.int .i64 a1,.int .i64 a2])) hid
 obtain⟨w2,z2⟩:=K2.at
 obtain⟨oT,pN⟩:=jX.at
 have b2:=K2.bx
 have pO:=jX.bx
 replace k2:=k2.trans (show _=some (.int .i64 a2,σ2)from rfl)
 have e:jE s=(⟨a1,a2⟩,s2):=by
  unfold jE
  simp only[nH,gA,nI,gC]
 simp only[kF,gO]at k1 k2
 apply aN.aK h0 func175 rfl
 focus(simp[show Tryz.f175.ntmps=_ from rfl,List.replicate];rfl)
 have gx:=An @h1 (An @k1 (An @w1 (An @z1 (An @sK (An @sL (An @b1 (An @sM (An @k2 (An @w2 (An @z2 (An @oT (An @pN (An @b2 (@pO))))))))))))))
 refine aC ?_
 clear gx
 have KK:=(jX).set (.agg [.int .i64 a1,.int .i64 a2])
 have RR:=sN.gQ (Y:=.box (.agg [.int .i64 a1,.int .i64 a2])) hid
 rw[List.set_set]at KK RR
 refine⟨.agg [.int .i64 a1,.int .i64 a2],σ2.set τ.length (.box (.agg [.int .i64 a1,.int .i64 a2])),by simp[fR,w2],?_⟩
 unfold lL
 rw[e]
 refine⟨?_,RR,Nat.le_of_lt KK.lt,fun j h1 h2=>KK.fr j h1 h2⟩
 simp only[PD.strip,PD.j7]
 rfl
end
section
theorem aQp(x:fA):gG prog 110 1 [(0,Em.draw.U x)]=some (.slice 2 [Em.draw.U x] .full):=by
 kernel_rfl
variable{E E1 E2:aD}(hU:aI E)
include hU
theorem aJB(h0:E 174=none)(h1:E 100=some (aO prog E1 100))(H1:Reads E1 100 aM i64.U)(h2:E 175=some (aO prog E2 175))(H2:Reads E2 175 jE Em.draw.U):j9 E 174 (gO 175) (dList jE) iE.U:=by
 intro τ id s hr hl
 have hid:=hr.lt
 obtain⟨jL,k1,r1,l1,f1⟩:=H1.at hr hl
 have hd:dList jE s=bG jE (aM s).1.toNat ⟨(aM s).2.aJ,(aM s).2.bad||decide ((aM s).1<0)⟩:=rfl
 have hln:=cH.len s
 obtain⟨n,hn⟩:=gn ((aM s).1)
 obtain⟨s1,hs1⟩:=gn ((aM s).2)
 rw[hn]at k1 hd
 rw[hs1]at r1 hd hln
 replace k1:=k1.trans (show _=some (.int .i64 n,jL)from rfl)
 simp only[kF]at k1
 obtain⟨aJ,bad⟩:=s1
 obtain⟨z,hz,hb⟩:=r1
 simp only at hz hb hd hln
 obtain⟨hlt,hg⟩:=yA.1 hb
 obtain⟨N,hN⟩:=gn (n.toNat)
 rw[hN]at hd
 have R2:=bV.put (bad:=bad||decide (n<0)) hlt aJ hz
 obtain⟨s2,hs2⟩:=gn (fP.mk aJ (bad||decide (n<0)))
 rw[hs2]at R2 hd
 have hi2:s2.aJ=aJ:=by rw[<-hs2]
 obtain⟨nZ,nK⟩:=gn (aG aJ)
 rw[nK]at hb hg R2
 obtain⟨dY,bO⟩:=gn (jL.set id (.box (.agg [.slice z nZ .any,.bool (bad||decide (n<0))])))
 rw[bO]at R2
 have l2:τ.length<=dY.length:=by rw[<-bO,yBd];exact l1
 have f2:∀j,j<τ.length->j≠id->dY[j]?=τ[j]?:=fun j h1 h2=>by rw[<-bO,yAd (Ne.symm h2)];exact f1 j h1 h2
 obtain⟨bn,hbn⟩:=gn ((bad||decide (n<0)))
 rw[hbn]at bO
 have hsp:∀x:fA,PD.strip (Em.draw.U x)=Em.draw.U x:=fun x=>Em.draw.str x
 have hns:=aQp
 obtain⟨fin,hfin⟩:=gn (bG jE N s2)
 rw[hfin]at hd
 unfold lL
 rw[hd]
 clear hd
 simp only[gO]
 apply aN.aK h0 func174 rfl
 focus(simp[show Tryz.f174.ntmps=_ from rfl,List.replicate];rfl)
 have qD:bad=true\/(bad=false/\n<0)\/(bad=false/\¬n<0):=by
  cases bad
  ·exact .inr (by by_cases c:n<0;exact .inl ⟨rfl,c⟩;exact .inr ⟨rfl,c⟩)
  ·exact .inl rfl
 have pR:s2.aJ.length<=s.aJ.length:=by rw[hi2];exact hln
 clear hr hi2 hs2 hln hz nK
 rcases qD with rfl | ⟨rfl,c2⟩ | ⟨rfl,c2⟩
 rw[show bn=true by rw[<-hbn];simp]at bO
 have gx:=An @h1 (An @k1 (An @hb (An @hg (@bO))))
 refine aC ?_
 clear gx
 rotate_left
 rw[show bn=true by rw[<-hbn];simp[c2]]at bO
 have gx:=An @h1 (An @k1 (An @hb (An @hg (An @bO (@c2)))))
 refine aC ?_
 clear gx
 rotate_left
 rw[show bn=false by rw[<-hbn];simp[c2]]at bO
 have gx:=An @h1 (An @k1 (An @hb (An @hg (An @bO (@c2)))))
 refine aC ?_
 clear gx
 all_goals (
 clear hb hg bO hbn k1 f1 l1
 refine Wp.cJ (fun m fr σ=>∃(i:Nat) (xs:List fA) (tok:Tok) (st:fP) (σ1:List aB),∃gg:Nat->PD,(i+m=N/\xs.length=i/\bV σ1 id st/\cV σ1 tok 115 2 i/\(∀q,tok=.own q->τ.length<=q)/\τ.length<=σ1.length/\(∀j,j<τ.length->j≠id->σ1[j]?=τ[j]?)/\8*i<=s.aJ.length+8/\(st.bad=false->st.aJ.length+8*i<=s.aJ.length)/\st.aJ.length<=s.aJ.length/\fin=(xs++(bG jE (N-i) st).1,(bG jE (N-i) st).2))/\fr=[.ptr id 0,.dA 175 [.ptr id 0],gg 2,gg 3,gg 4,.int .i64 n,.slice (sz 2 xs) (xs.map Em.draw.U) tok,.int .i64 i,gg 8,gg 9,gg 10,gg 11,gg 12,gg 13,gg 14,gg 15,gg 16,gg 17,gg 18,gg 19,gg 20,gg 21,gg 22,gg 23,gg 24,gg 25,gg 26,gg 27,gg 28,gg 29,gg 30,gg 31,gg 32,gg 33,gg 34,gg 35,gg 36,gg 37,gg 38]/\σ=σ1) ?_ (N) (by refine⟨0,[],.full,s2,dY,?_⟩;exact bW (⟨by omega,rfl,R2,.inl ⟨rfl,rfl⟩,(fun q h=>by cases h),l2,f2,by omega,(fun _=>by omega),pR,(by rw[Nat.sub_zero,hfin];rfl)⟩))
 rintro m fr σ ⟨i,xs,tok,st,σ1,gg,hI,rfl,rfl⟩
 obtain⟨hm,hxl,hR,hrow,hown,hlo,hfr,AE,hbd,hLe,hfi⟩:=hI
 obtain⟨z,hz,hb⟩:=hR
 obtain⟨hlt,hg⟩:=yA.1 hb
 by_cases hi:i<N
 ·have q1:(i:Int)<n:=by omega
  cases hst:st.bad with
  |true=>
   rw[hst]at hb hg
   have dO:bV σ id st:=⟨z,hz,by rw[hst];exact hb⟩
   rw[AF _ _ hst,yAl]at hfi
   obtain⟨ys,hys⟩:=gn (aG st.aJ)
   rw[hys]at hb hg
   have hfs:=rK Em.draw 2 (sz 2 xs) xs (by unfold sz;by_cases h:xs=[];exact .inl h;exact .inr (if_neg (fun e=>h (yAf e)))) tok
   have gx:=An @q1 (An @hb (@hg))
   refine aC ?_
   clear gx
   exact⟨_,_,rfl,by rw[hfi];exact hfs,by rw[hfi];exact dO,hlo,hfr⟩
  |false=>
   rw[hst]at hb hg
   have dO:bV σ id st:=⟨z,hz,by rw[hst];exact hb⟩
   obtain⟨cB,k7,R7,l7,f7⟩:=H2.at dO (by omega)
   have hu:=C5.use st
   have sS:=C5.len st
   have hdl:bG jE (N-i) st=((jE st).1::(bG jE (N-(i+1)) (jE st).2).1,(bG jE (N-(i+1)) (jE st).2).2):=by
    rw[show N-i=(N-(i+1))+1 by omega]
    simp[bG,hst]
   rw[hdl]at hfi
   obtain⟨x,hx⟩:=gn ((jE st).1)
   obtain⟨dZ,pU⟩:=gn ((jE st).2)
   rw[hx]at k7 hfi
   rw[pU]at R7 hfi hu sS
   have hs1:=hsp x
   have iO:gG prog 110 1 (List.map (fun q=>(q.1,q.2.strip)) [((0:Nat),Em.draw.U x)])=some (.slice 2 [Em.draw.U x] .full):=by
    simp only[List.map_cons,List.map_nil,hs1]
    exact hns x
   have hmap:(xs++[x]).map Em.draw.U=xs.map Em.draw.U++[Em.draw.U x]:=by simp
   obtain⟨ex,hex⟩:=gn (Em.draw.U x)
   rw[hex]at k7 hs1 iO hmap
   simp only[kF]at k7
   have sT:cV cB tok 115 2 (xs.map Em.draw.U).length:=by
    rw[yAe,hxl]
    exact hrow.dH fun q o e h=>by
     rw[f7 q (yA.1 h).1 (by have:=hown q e;omega)]
     exact h
   obtain⟨bQ,bZ,ap,ra,kp,ow⟩:=pY (P:=prog) (t:=110) (e:=115) (k:=2) (b:=16) (s:=sz 2 xs) (p:=ex) (tk:=.any) underlying110 (by kernel_rfl) (by unfold sz;by_cases h:xs=[];exact .inl (by rw[h];rfl);exact .inr (if_neg (fun e=>h (yAf e)))) sT (by rw[yAe];omega) (by rw[yAe];omega)
   obtain⟨ys,hys⟩:=gn (aG st.aJ)
   rw[hys]at hb hg
   have hsz:sz 2 (xs++[x])=2:=cG (by simp)
   have GW:cB.length<=bZ.length:=by
    rcases Nat.lt_or_ge bZ.length cB.length with h|h
    ·exfalso
     obtain⟨o,ho⟩:∃o,cB[cB.length-1]?=some o:=⟨_,yAh (by omega)⟩
     by_cases e:tok=.own (cB.length-1)
     ·rcases ra with⟨h1,_⟩ | ⟨_,q,h1,h2⟩
      ·omega
      ·have h3:=(yA.1 h2).1
       rcases ow q h1 with h4|h4
       ·rw[e]at h4;cases h4;omega
       ·omega
     ·have h3:=(yA.1 (kp _ _ e ho)).1
      omega
    ·exact h
   have nL:∀j,j<cB.length->tok≠.own j->bZ[j]?=cB[j]?:=fun j h1 h2=>by rw[kp j _ h2 (yAh h1),yAh h1]
   have sU:tok≠.own id:=fun e=>by
    have:=hown id e
    omega
   have hlow:∀j,j<τ.length->tok≠.own j:=fun j hj e=>by
    have:=hown j e
    omega
   have sV:∀q,bQ=.own q->τ.length<=q:=fun q e=>by
    rcases ow q e with h|h
    ·exact hown q h
    ·omega
   have sW:bV bZ id dZ:=R7.dH (nL id R7.lt sU)
   have sX:cV bZ bQ 115 2 (i+1):=by rw[yAe,hxl]at ra;exact ra
   have sY:∀j,j<τ.length->j≠id->bZ[j]?=τ[j]?:=fun j h1 h2=>by rw[nL j (by omega) (hlow j h1),f7 j (by omega) h2];exact hfr j h1 h2
   have s6:8*(i+1)<=s.aJ.length+8:=by have:=hbd hst;omega
   have s7:dZ.bad=false->dZ.aJ.length+8*(i+1)<=s.aJ.length:=fun h=>by have:=hu h;have:=hbd hst;omega
   have s8:fin=((xs++[x])++(bG jE (N-(i+1)) dZ).1,(bG jE (N-(i+1)) dZ).2):=by rw[hfi];simp
   have gx:=An @q1 (An @hb (@hg))
   refine aC ?_
   clear gx
   first|refine Wp.seq ?_|skip
   apply Wp.jQ
   have gx:=An @h2 (An @k7 (An @hs1 (@ap)))
   refine iN ?_
   clear gx
   apply SQ.nil
   have gx:=An @q1 (An @hb (@hg))
   refine aC ?_
   clear gx
   refine bP.normal (m-1) (by omega) (by refine⟨i+1,xs++[x],bQ,dZ,bZ,?_⟩;exact cW (⟨by omega,by simp[hxl],sW,sX,sV,by omega,sY,s6,s7,by omega,s8⟩) (by(first|rfl|(simp[hmap,hsz];repeat(first|rfl|(apply And.intro)))|(simp[hmap,hsz];done))) (by(first|rfl|(simp[hmap,hsz];repeat(first|rfl|(apply And.intro)))|(simp[hmap,hsz];done))))
 ·have q1:¬(i:Int)<n:=by omega
  have dO:bV σ id st:=⟨z,hz,hb⟩
  rw[show N-i=0 by omega]at hfi
  simp only[bG,yAl]at hfi
  have hfs:=rK Em.draw 2 (sz 2 xs) xs (by unfold sz;by_cases h:xs=[];exact .inl h;exact .inr (if_neg (fun e=>h (yAf e)))) tok
  have gx:=@q1
  refine aC ?_
  clear gx
  exact⟨_,_,rfl,by rw[hfi];exact hfs,by rw[hfi];exact dO,hlo,hfr⟩)
end
section
variable{E E1 E2:aD}(hU:aI E)
include hU
theorem aJD(h0:E 143=none)(h1:E 100=some (aO prog E1 100))(H1:Reads E1 100 aM i64.U)(h2:E 174=some (aO prog E2 174))(H2:j9 E2 174 (gO 175) (dList jE) iE.U):Reads E 143 jF Em.bL.U:=by
 intro τ id s hr hl
 have hid:=hr.lt
 have K0:Kp τ (τ++[.box (.agg [.int .i64 0,.int .i64 0,.slice 0 [] .full])]) id τ.length (.agg [.int .i64 0,.int .i64 0,.slice 0 [] .full]):=Kp.new
 have R0:bV (τ++[.box (.agg [.int .i64 0,.int .i64 0,.slice 0 [] .full])]) id s:=hr.more
 obtain⟨w0,z0⟩:=K0.at
 obtain⟨σ1,k1,K1,R1⟩:=H1.next K0 R0 (by omega) hid
 have l1:=cH.len s
 obtain⟨a1,nH⟩:=gn ((aM s).1)
 obtain⟨s1,gA⟩:=gn ((aM s).2)
 rw[nH]at k1
 rw[gA]at R1 l1
 have jW:=K1.set (.agg [.int .i64 a1,.int .i64 0,.slice 0 [] .full])
 have sJ:=R1.gQ (Y:=.box (.agg [.int .i64 a1,.int .i64 0,.slice 0 [] .full])) hid
 obtain⟨w1,z1⟩:=K1.at
 obtain⟨sK,sL⟩:=jW.at
 have b1:=K1.bx
 have sM:=jW.bx
 replace k1:=k1.trans (show _=some (.int .i64 a1,σ1)from rfl)
 obtain⟨σ2,k2,K2,R2⟩:=H1.next jW sJ (by omega) hid
 have l2:=cH.len s1
 obtain⟨a2,nI⟩:=gn ((aM s1).1)
 obtain⟨s2,gC⟩:=gn ((aM s1).2)
 rw[nI]at k2
 rw[gC]at R2 l2
 have jX:=K2.set (.agg [.int .i64 a1,.int .i64 a2,.slice 0 [] .full])
 have sN:=R2.gQ (Y:=.box (.agg [.int .i64 a1,.int .i64 a2,.slice 0 [] .full])) hid
 obtain⟨w2,z2⟩:=K2.at
 obtain⟨oT,pN⟩:=jX.at
 have b2:=K2.bx
 have pO:=jX.bx
 replace k2:=k2.trans (show _=some (.int .i64 a2,σ2)from rfl)
 obtain⟨σ3,k3,K3,R3⟩:=H2.next jX sN (by omega) hid
 have l3:=C5.list.len s2
 obtain⟨a3,oV⟩:=gn (((dList jE) s2).1)
 obtain⟨s3,iZ⟩:=gn (((dList jE) s2).2)
 rw[oV]at k3
 rw[iZ]at R3 l3
 obtain⟨p3,oW⟩:=gn (iE.U a3)
 rw[oW]at k3
 have JY:PD.strip p3=p3:=by rw[<-oW];exact iE.str a3
 have AH:PD.plain p3=true:=by rw[<-oW];rfl
 have AI:PD.cells p3=[p3]:=by rw[<-oW];rfl
 unfold PD.plain at AH
 unfold PD.cells at AI
 have lM:=K3.set (.agg [.int .i64 a1,.int .i64 a2,p3])
 have uY:=R3.gQ (Y:=.box (.agg [.int .i64 a1,.int .i64 a2,p3])) hid
 obtain⟨w3,z3⟩:=K3.at
 obtain⟨uZ,u5⟩:=lM.at
 have b3:=K3.bx
 have qI:=lM.bx
 replace k3:=k3.trans (show _=some (p3,σ3)from rfl)
 have e:jF s=(⟨a1,a2,a3⟩,s3):=by
  unfold jF
  simp only[nH,gA,nI,gC,oV,iZ]
 simp only[kF,gO]at k1 k2 k3
 apply aN.aK h0 func143 rfl
 focus(simp[show Tryz.f143.ntmps=_ from rfl,List.replicate];rfl)
 have gx:=An @h1 (An @h2 (An @k1 (An @w1 (An @z1 (An @sK (An @sL (An @b1 (An @sM (An @k2 (An @w2 (An @z2 (An @oT (An @pN (An @b2 (An @pO (An @AH (An @AI (An @k3 (An @w3 (An @z3 (An @uZ (An @u5 (An @b3 (@qI))))))))))))))))))))))))
 refine aC ?_
 clear gx
 have KK:=(lM).set (.agg [.int .i64 a1,.int .i64 a2,p3])
 have RR:=uY.gQ (Y:=.box (.agg [.int .i64 a1,.int .i64 a2,p3])) hid
 rw[List.set_set]at KK RR
 refine⟨.agg [.int .i64 a1,.int .i64 a2,p3],σ3.set τ.length (.box (.agg [.int .i64 a1,.int .i64 a2,p3])),by simp[fR,w3],?_⟩
 unfold lL
 rw[e]
 refine⟨?_,RR,Nat.le_of_lt KK.lt,fun j h1 h2=>KK.fr j h1 h2⟩
 simp only[PD.strip,PD.j7,JY]
 rw[<-oW]
 rfl
end
section
theorem aQq(x:fY):gG prog 72 1 [(0,Em.bL.U x)]=some (.slice 3 [Em.bL.U x] .full):=by
 kernel_rfl
variable{E E1 E2:aD}(hU:aI E)
include hU
theorem aJG(h0:E 142=none)(h1:E 100=some (aO prog E1 100))(H1:Reads E1 100 aM i64.U)(h2:E 143=some (aO prog E2 143))(H2:Reads E2 143 jF Em.bL.U):j9 E 142 (gO 143) (dList jF) jA.U:=by
 intro τ id s hr hl
 have hid:=hr.lt
 obtain⟨jL,k1,r1,l1,f1⟩:=H1.at hr hl
 have hd:dList jF s=bG jF (aM s).1.toNat ⟨(aM s).2.aJ,(aM s).2.bad||decide ((aM s).1<0)⟩:=rfl
 have hln:=cH.len s
 obtain⟨n,hn⟩:=gn ((aM s).1)
 obtain⟨s1,hs1⟩:=gn ((aM s).2)
 rw[hn]at k1 hd
 rw[hs1]at r1 hd hln
 replace k1:=k1.trans (show _=some (.int .i64 n,jL)from rfl)
 simp only[kF]at k1
 obtain⟨aJ,bad⟩:=s1
 obtain⟨z,hz,hb⟩:=r1
 simp only at hz hb hd hln
 obtain⟨hlt,hg⟩:=yA.1 hb
 obtain⟨N,hN⟩:=gn (n.toNat)
 rw[hN]at hd
 have R2:=bV.put (bad:=bad||decide (n<0)) hlt aJ hz
 obtain⟨s2,hs2⟩:=gn (fP.mk aJ (bad||decide (n<0)))
 rw[hs2]at R2 hd
 have hi2:s2.aJ=aJ:=by rw[<-hs2]
 obtain⟨nZ,nK⟩:=gn (aG aJ)
 rw[nK]at hb hg R2
 obtain⟨dY,bO⟩:=gn (jL.set id (.box (.agg [.slice z nZ .any,.bool (bad||decide (n<0))])))
 rw[bO]at R2
 have l2:τ.length<=dY.length:=by rw[<-bO,yBd];exact l1
 have f2:∀j,j<τ.length->j≠id->dY[j]?=τ[j]?:=fun j h1 h2=>by rw[<-bO,yAd (Ne.symm h2)];exact f1 j h1 h2
 obtain⟨bn,hbn⟩:=gn ((bad||decide (n<0)))
 rw[hbn]at bO
 have hsp:∀x:fY,PD.strip (Em.bL.U x)=Em.bL.U x:=fun x=>Em.bL.str x
 have hns:=aQq
 obtain⟨fin,hfin⟩:=gn (bG jF N s2)
 rw[hfin]at hd
 unfold lL
 rw[hd]
 clear hd
 simp only[gO]
 apply aN.aK h0 func142 rfl
 focus(simp[show Tryz.f142.ntmps=_ from rfl,List.replicate];rfl)
 have qD:bad=true\/(bad=false/\n<0)\/(bad=false/\¬n<0):=by
  cases bad
  ·exact .inr (by by_cases c:n<0;exact .inl ⟨rfl,c⟩;exact .inr ⟨rfl,c⟩)
  ·exact .inl rfl
 have pR:s2.aJ.length<=s.aJ.length:=by rw[hi2];exact hln
 clear hr hi2 hs2 hln hz nK
 rcases qD with rfl | ⟨rfl,c2⟩ | ⟨rfl,c2⟩
 rw[show bn=true by rw[<-hbn];simp]at bO
 have gx:=An @h1 (An @k1 (An @hb (An @hg (@bO))))
 refine aC ?_
 clear gx
 rotate_left
 rw[show bn=true by rw[<-hbn];simp[c2]]at bO
 have gx:=An @h1 (An @k1 (An @hb (An @hg (An @bO (@c2)))))
 refine aC ?_
 clear gx
 rotate_left
 rw[show bn=false by rw[<-hbn];simp[c2]]at bO
 have gx:=An @h1 (An @k1 (An @hb (An @hg (An @bO (@c2)))))
 refine aC ?_
 clear gx
 all_goals (
 clear hb hg bO hbn k1 f1 l1
 refine Wp.cJ (fun m fr σ=>∃(i:Nat) (xs:List fY) (tok:Tok) (st:fP) (σ1:List aB),∃gg:Nat->PD,(i+m=N/\xs.length=i/\bV σ1 id st/\cV σ1 tok 112 3 i/\(∀q,tok=.own q->τ.length<=q)/\τ.length<=σ1.length/\(∀j,j<τ.length->j≠id->σ1[j]?=τ[j]?)/\8*i<=s.aJ.length+8/\(st.bad=false->st.aJ.length+8*i<=s.aJ.length)/\st.aJ.length<=s.aJ.length/\fin=(xs++(bG jF (N-i) st).1,(bG jF (N-i) st).2))/\fr=[.ptr id 0,.dA 143 [.ptr id 0],gg 2,gg 3,gg 4,.int .i64 n,.slice (sz 3 xs) (xs.map Em.bL.U) tok,.int .i64 i,gg 8,gg 9,gg 10,gg 11,gg 12,gg 13,gg 14,gg 15,gg 16,gg 17,gg 18,gg 19,gg 20,gg 21,gg 22,gg 23,gg 24,gg 25,gg 26,gg 27,gg 28,gg 29,gg 30,gg 31,gg 32,gg 33,gg 34,gg 35,gg 36,gg 37,gg 38]/\σ=σ1) ?_ (N) (by refine⟨0,[],.full,s2,dY,?_⟩;exact bW (⟨by omega,rfl,R2,.inl ⟨rfl,rfl⟩,(fun q h=>by cases h),l2,f2,by omega,(fun _=>by omega),pR,(by rw[Nat.sub_zero,hfin];rfl)⟩))
 rintro m fr σ ⟨i,xs,tok,st,σ1,gg,hI,rfl,rfl⟩
 obtain⟨hm,hxl,hR,hrow,hown,hlo,hfr,AE,hbd,hLe,hfi⟩:=hI
 obtain⟨z,hz,hb⟩:=hR
 obtain⟨hlt,hg⟩:=yA.1 hb
 by_cases hi:i<N
 ·have q1:(i:Int)<n:=by omega
  cases hst:st.bad with
  |true=>
   rw[hst]at hb hg
   have dO:bV σ id st:=⟨z,hz,by rw[hst];exact hb⟩
   rw[AF _ _ hst,yAl]at hfi
   obtain⟨ys,hys⟩:=gn (aG st.aJ)
   rw[hys]at hb hg
   have hfs:=rK Em.bL 3 (sz 3 xs) xs (by unfold sz;by_cases h:xs=[];exact .inl h;exact .inr (if_neg (fun e=>h (yAf e)))) tok
   have gx:=An @q1 (An @hb (@hg))
   refine aC ?_
   clear gx
   exact⟨_,_,rfl,by rw[hfi];exact hfs,by rw[hfi];exact dO,hlo,hfr⟩
  |false=>
   rw[hst]at hb hg
   have dO:bV σ id st:=⟨z,hz,by rw[hst];exact hb⟩
   obtain⟨cB,k7,R7,l7,f7⟩:=H2.at dO (by omega)
   have hu:=C6.use st
   have sS:=C6.len st
   have hdl:bG jF (N-i) st=((jF st).1::(bG jF (N-(i+1)) (jF st).2).1,(bG jF (N-(i+1)) (jF st).2).2):=by
    rw[show N-i=(N-(i+1))+1 by omega]
    simp[bG,hst]
   rw[hdl]at hfi
   obtain⟨x,hx⟩:=gn ((jF st).1)
   obtain⟨dZ,pU⟩:=gn ((jF st).2)
   rw[hx]at k7 hfi
   rw[pU]at R7 hfi hu sS
   have hs1:=hsp x
   have iO:gG prog 72 1 (List.map (fun q=>(q.1,q.2.strip)) [((0:Nat),Em.bL.U x)])=some (.slice 3 [Em.bL.U x] .full):=by
    simp only[List.map_cons,List.map_nil,hs1]
    exact hns x
   have hmap:(xs++[x]).map Em.bL.U=xs.map Em.bL.U++[Em.bL.U x]:=by simp
   obtain⟨ex,hex⟩:=gn (Em.bL.U x)
   rw[hex]at k7 hs1 iO hmap
   simp only[kF]at k7
   have sT:cV cB tok 112 3 (xs.map Em.bL.U).length:=by
    rw[yAe,hxl]
    exact hrow.dH fun q o e h=>by
     rw[f7 q (yA.1 h).1 (by have:=hown q e;omega)]
     exact h
   obtain⟨bQ,bZ,ap,ra,kp,ow⟩:=pY (P:=prog) (t:=72) (e:=112) (k:=3) (b:=40) (s:=sz 3 xs) (p:=ex) (tk:=.any) underlying72 (by kernel_rfl) (by unfold sz;by_cases h:xs=[];exact .inl (by rw[h];rfl);exact .inr (if_neg (fun e=>h (yAf e)))) sT (by rw[yAe];omega) (by rw[yAe];omega)
   obtain⟨ys,hys⟩:=gn (aG st.aJ)
   rw[hys]at hb hg
   have hsz:sz 3 (xs++[x])=3:=cG (by simp)
   have GW:cB.length<=bZ.length:=by
    rcases Nat.lt_or_ge bZ.length cB.length with h|h
    ·exfalso
     obtain⟨o,ho⟩:∃o,cB[cB.length-1]?=some o:=⟨_,yAh (by omega)⟩
     by_cases e:tok=.own (cB.length-1)
     ·rcases ra with⟨h1,_⟩ | ⟨_,q,h1,h2⟩
      ·omega
      ·have h3:=(yA.1 h2).1
       rcases ow q h1 with h4|h4
       ·rw[e]at h4;cases h4;omega
       ·omega
     ·have h3:=(yA.1 (kp _ _ e ho)).1
      omega
    ·exact h
   have nL:∀j,j<cB.length->tok≠.own j->bZ[j]?=cB[j]?:=fun j h1 h2=>by rw[kp j _ h2 (yAh h1),yAh h1]
   have sU:tok≠.own id:=fun e=>by
    have:=hown id e
    omega
   have hlow:∀j,j<τ.length->tok≠.own j:=fun j hj e=>by
    have:=hown j e
    omega
   have sV:∀q,bQ=.own q->τ.length<=q:=fun q e=>by
    rcases ow q e with h|h
    ·exact hown q h
    ·omega
   have sW:bV bZ id dZ:=R7.dH (nL id R7.lt sU)
   have sX:cV bZ bQ 112 3 (i+1):=by rw[yAe,hxl]at ra;exact ra
   have sY:∀j,j<τ.length->j≠id->bZ[j]?=τ[j]?:=fun j h1 h2=>by rw[nL j (by omega) (hlow j h1),f7 j (by omega) h2];exact hfr j h1 h2
   have s6:8*(i+1)<=s.aJ.length+8:=by have:=hbd hst;omega
   have s7:dZ.bad=false->dZ.aJ.length+8*(i+1)<=s.aJ.length:=fun h=>by have:=hu h;have:=hbd hst;omega
   have s8:fin=((xs++[x])++(bG jF (N-(i+1)) dZ).1,(bG jF (N-(i+1)) dZ).2):=by rw[hfi];simp
   have gx:=An @q1 (An @hb (@hg))
   refine aC ?_
   clear gx
   first|refine Wp.seq ?_|skip
   apply Wp.jQ
   have gx:=An @h2 (An @k7 (An @hs1 (@ap)))
   refine iN ?_
   clear gx
   apply SQ.nil
   have gx:=An @q1 (An @hb (@hg))
   refine aC ?_
   clear gx
   refine bP.normal (m-1) (by omega) (by refine⟨i+1,xs++[x],bQ,dZ,bZ,?_⟩;exact cW (⟨by omega,by simp[hxl],sW,sX,sV,by omega,sY,s6,s7,by omega,s8⟩) (by(first|rfl|(simp[hmap,hsz];repeat(first|rfl|(apply And.intro)))|(simp[hmap,hsz];done))) (by(first|rfl|(simp[hmap,hsz];repeat(first|rfl|(apply And.intro)))|(simp[hmap,hsz];done))))
 ·have q1:¬(i:Int)<n:=by omega
  have dO:bV σ id st:=⟨z,hz,hb⟩
  rw[show N-i=0 by omega]at hfi
  simp only[bG,yAl]at hfi
  have hfs:=rK Em.bL 3 (sz 3 xs) xs (by unfold sz;by_cases h:xs=[];exact .inl h;exact .inr (if_neg (fun e=>h (yAf e)))) tok
  have gx:=@q1
  refine aC ?_
  clear gx
  exact⟨_,_,rfl,by rw[hfi];exact hfs,by rw[hfi];exact dO,hlo,hfr⟩)
end
end Go.Kz
