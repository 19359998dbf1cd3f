/-
  Part D4 of the way: an interpreter over pure data, its soundness, walks through functions.
-/
import Derived.Test.YtefkonhamghgfaaGreatDoorD1
set_option linter.all false

set_option maxHeartbeats 40000000
open Go.Proofs.Tryz
namespace Go.Kz
open Go Go.Proofs
set_option maxRecDepth 100000
section
variable{E E1 E2 E3:aD}(hU:aI E)
include hU
theorem aJJ(h0:E 105=none)(h1:E 71=some (aO prog E1 71))(H1:Reads E1 71 iB PD.str)(h2:E 101=some (aO prog E2 101))(H2:Reads E2 101 sD Em.CE.U)(h3:E 142=some (aO prog E3 142))(H3:j9 E3 142 (gO 143) (dList jF) jA.U):Reads E 105 jG Em.stop.U:=by
 intro τ id s hr hl
 have hid:=hr.lt
 have K0:Kp τ (τ++[.box (.agg [.str [],.int .i64 0,.int .i64 0,.slice 0 [] .full])]) id τ.length (.agg [.str [],.int .i64 0,.int .i64 0,.slice 0 [] .full]):=Kp.new
 have R0:bV (τ++[.box (.agg [.str [],.int .i64 0,.int .i64 0,.slice 0 [] .full])]) id s:=hr.more
 obtain⟨w0,z0⟩:=K0.at
 obtain⟨σ1,k1,K1,R1⟩:=H1.next K0 R0 (by omega) hid
 have l1:=sI.len s
 obtain⟨a1,nH⟩:=gn ((iB s).1)
 obtain⟨s1,gA⟩:=gn ((iB s).2)
 rw[nH]at k1
 rw[gA]at R1 l1
 have jW:=K1.set (.agg [.str a1,.int .i64 0,.int .i64 0,.slice 0 [] .full])
 have sJ:=R1.gQ (Y:=.box (.agg [.str a1,.int .i64 0,.int .i64 0,.slice 0 [] .full])) hid
 obtain⟨w1,z1⟩:=K1.at
 obtain⟨sK,sL⟩:=jW.at
 have b1:=K1.bx
 have sM:=jW.bx
 replace k1:=k1.trans (show _=some (.str a1,σ1)from rfl)
 obtain⟨σ2,k2,K2,R2⟩:=H2.next jW sJ (by omega) hid
 have l2:=C4.len s1
 obtain⟨a2,nI⟩:=gn ((sD s1).1)
 obtain⟨s2,gC⟩:=gn ((sD s1).2)
 rw[nI]at k2
 rw[gC]at R2 l2
 have jX:=K2.set (.agg [.str a1,.int .i64 a2.1,.int .i64 a2.2,.slice 0 [] .full])
 have sN:=R2.gQ (Y:=.box (.agg [.str a1,.int .i64 a2.1,.int .i64 a2.2,.slice 0 [] .full])) hid
 obtain⟨w2,z2⟩:=K2.at
 obtain⟨oT,pN⟩:=jX.at
 have b2:=K2.bx
 have pO:=jX.bx
 replace k2:=k2.trans (show _=some (.agg [.int .i64 a2.1,.int .i64 a2.2],σ2)from rfl)
 obtain⟨σ3,k3,K3,R3⟩:=H3.next jX sN (by omega) hid
 have l3:=C6.list.len s2
 obtain⟨a3,oV⟩:=gn (((dList jF) s2).1)
 obtain⟨s3,iZ⟩:=gn (((dList jF) s2).2)
 rw[oV]at k3
 rw[iZ]at R3 l3
 obtain⟨p3,oW⟩:=gn (jA.U a3)
 rw[oW]at k3
 have JY:PD.strip p3=p3:=by rw[<-oW];exact jA.str a3
 have AH:PD.plain p3=true:=by rw[<-oW];rfl
 have AI:PD.cells p3=[p3]:=by rw[<-oW];rfl
 unfold PD.plain at AH
 unfold PD.cells at AI
 have lM:=K3.set (.agg [.str a1,.int .i64 a2.1,.int .i64 a2.2,p3])
 have uY:=R3.gQ (Y:=.box (.agg [.str a1,.int .i64 a2.1,.int .i64 a2.2,p3])) hid
 obtain⟨w3,z3⟩:=K3.at
 obtain⟨uZ,u5⟩:=lM.at
 have b3:=K3.bx
 have qI:=lM.bx
 replace k3:=k3.trans (show _=some (p3,σ3)from rfl)
 have e:jG s=(⟨a1,a2.1,a2.2,a3⟩,s3):=by
  unfold jG
  simp only[nH,gA,nI,gC,oV,iZ]
 simp only[kF,gO]at k1 k2 k3
 apply aN.aK h0 func105 rfl
 focus(simp[show Tryz.f105.ntmps=_ from rfl,List.replicate];rfl)
 have gx:=An @h1 (An @h2 (An @h3 (An @k1 (An @w1 (An @z1 (An @sK (An @sL (An @b1 (An @sM (An @k2 (An @w2 (An @z2 (An @oT (An @pN (An @b2 (An @pO (An @AH (An @AI (An @k3 (An @w3 (An @z3 (An @uZ (An @u5 (An @b3 (@qI)))))))))))))))))))))))))
 refine aC ?_
 clear gx
 have KK:=(lM).set (.agg [.str a1,.int .i64 a2.1,.int .i64 a2.2,p3])
 have RR:=uY.gQ (Y:=.box (.agg [.str a1,.int .i64 a2.1,.int .i64 a2.2,p3])) hid
 rw[List.set_set]at KK RR
 refine⟨.agg [.str a1,.int .i64 a2.1,.int .i64 a2.2,p3],σ3.set τ.length (.box (.agg [.str a1,.int .i64 a2.1,.int .i64 a2.2,p3])),by simp[fR,w3],?_⟩
 unfold lL
 rw[e]
 refine⟨?_,RR,Nat.le_of_lt KK.lt,fun j h1 h2=>KK.fr j h1 h2⟩
 simp only[PD.strip,PD.j7,JY]
 rw[<-oW]
 rfl
end
section
theorem aQr(x:dG):gG prog 69 1 [(0,Em.stop.U x)]=some (.slice 4 [Em.stop.U x] .full):=by
 kernel_rfl
variable{E E1 E2:aD}(hU:aI E)
include hU
theorem aJM(h0:E 104=none)(h1:E 100=some (aO prog E1 100))(H1:Reads E1 100 aM i64.U)(h2:E 105=some (aO prog E2 105))(H2:Reads E2 105 jG Em.stop.U):j9 E 104 (gO 105) (dList jG) j6.U:=by
 intro τ id s hr hl
 have hid:=hr.lt
 obtain⟨jL,k1,r1,l1,f1⟩:=H1.at hr hl
 have hd:dList jG s=bG jG (aM s).1.toNat ⟨(aM s).2.aJ,(aM s).2.bad||decide ((aM s).1<0)⟩:=rfl
 have hln:=cH.len s
 obtain⟨n,hn⟩:=gn ((aM s).1)
 obtain⟨s1,hs1⟩:=gn ((aM s).2)
 rw[hn]at k1 hd
 rw[hs1]at r1 hd hln
 replace k1:=k1.trans (show _=some (.int .i64 n,jL)from rfl)
 simp only[kF]at k1
 obtain⟨aJ,bad⟩:=s1
 obtain⟨z,hz,hb⟩:=r1
 simp only at hz hb hd hln
 obtain⟨hlt,hg⟩:=yA.1 hb
 obtain⟨N,hN⟩:=gn (n.toNat)
 rw[hN]at hd
 have R2:=bV.put (bad:=bad||decide (n<0)) hlt aJ hz
 obtain⟨s2,hs2⟩:=gn (fP.mk aJ (bad||decide (n<0)))
 rw[hs2]at R2 hd
 have hi2:s2.aJ=aJ:=by rw[<-hs2]
 obtain⟨nZ,nK⟩:=gn (aG aJ)
 rw[nK]at hb hg R2
 obtain⟨dY,bO⟩:=gn (jL.set id (.box (.agg [.slice z nZ .any,.bool (bad||decide (n<0))])))
 rw[bO]at R2
 have l2:τ.length<=dY.length:=by rw[<-bO,yBd];exact l1
 have f2:∀j,j<τ.length->j≠id->dY[j]?=τ[j]?:=fun j h1 h2=>by rw[<-bO,yAd (Ne.symm h2)];exact f1 j h1 h2
 obtain⟨bn,hbn⟩:=gn ((bad||decide (n<0)))
 rw[hbn]at bO
 have hsp:∀x:dG,PD.strip (Em.stop.U x)=Em.stop.U x:=fun x=>Em.stop.str x
 have hns:=aQr
 obtain⟨fin,hfin⟩:=gn (bG jG N s2)
 rw[hfin]at hd
 unfold lL
 rw[hd]
 clear hd
 simp only[gO]
 apply aN.aK h0 func104 rfl
 focus(simp[show Tryz.f104.ntmps=_ from rfl,List.replicate];rfl)
 have qD:bad=true\/(bad=false/\n<0)\/(bad=false/\¬n<0):=by
  cases bad
  ·exact .inr (by by_cases c:n<0;exact .inl ⟨rfl,c⟩;exact .inr ⟨rfl,c⟩)
  ·exact .inl rfl
 have pR:s2.aJ.length<=s.aJ.length:=by rw[hi2];exact hln
 clear hr hi2 hs2 hln hz nK
 rcases qD with rfl | ⟨rfl,c2⟩ | ⟨rfl,c2⟩
 rw[show bn=true by rw[<-hbn];simp]at bO
 have gx:=An @h1 (An @k1 (An @hb (An @hg (@bO))))
 refine aC ?_
 clear gx
 rotate_left
 rw[show bn=true by rw[<-hbn];simp[c2]]at bO
 have gx:=An @h1 (An @k1 (An @hb (An @hg (An @bO (@c2)))))
 refine aC ?_
 clear gx
 rotate_left
 rw[show bn=false by rw[<-hbn];simp[c2]]at bO
 have gx:=An @h1 (An @k1 (An @hb (An @hg (An @bO (@c2)))))
 refine aC ?_
 clear gx
 all_goals (
 clear hb hg bO hbn k1 f1 l1
 refine Wp.cJ (fun m fr σ=>∃(i:Nat) (xs:List dG) (tok:Tok) (st:fP) (σ1:List aB),∃gg:Nat->PD,(i+m=N/\xs.length=i/\bV σ1 id st/\cV σ1 tok 74 4 i/\(∀q,tok=.own q->τ.length<=q)/\τ.length<=σ1.length/\(∀j,j<τ.length->j≠id->σ1[j]?=τ[j]?)/\8*i<=s.aJ.length+8/\(st.bad=false->st.aJ.length+8*i<=s.aJ.length)/\st.aJ.length<=s.aJ.length/\fin=(xs++(bG jG (N-i) st).1,(bG jG (N-i) st).2))/\fr=[.ptr id 0,.dA 105 [.ptr id 0],gg 2,gg 3,gg 4,.int .i64 n,.slice (sz 4 xs) (xs.map Em.stop.U) tok,.int .i64 i,gg 8,gg 9,gg 10,gg 11,gg 12,gg 13,gg 14,gg 15,gg 16,gg 17,gg 18,gg 19,gg 20,gg 21,gg 22,gg 23,gg 24,gg 25,gg 26,gg 27,gg 28,gg 29,gg 30,gg 31,gg 32,gg 33,gg 34,gg 35,gg 36,gg 37,gg 38]/\σ=σ1) ?_ (N) (by refine⟨0,[],.full,s2,dY,?_⟩;exact bW (⟨by omega,rfl,R2,.inl ⟨rfl,rfl⟩,(fun q h=>by cases h),l2,f2,by omega,(fun _=>by omega),pR,(by rw[Nat.sub_zero,hfin];rfl)⟩))
 rintro m fr σ ⟨i,xs,tok,st,σ1,gg,hI,rfl,rfl⟩
 obtain⟨hm,hxl,hR,hrow,hown,hlo,hfr,AE,hbd,hLe,hfi⟩:=hI
 obtain⟨z,hz,hb⟩:=hR
 obtain⟨hlt,hg⟩:=yA.1 hb
 by_cases hi:i<N
 ·have q1:(i:Int)<n:=by omega
  cases hst:st.bad with
  |true=>
   rw[hst]at hb hg
   have dO:bV σ id st:=⟨z,hz,by rw[hst];exact hb⟩
   rw[AF _ _ hst,yAl]at hfi
   obtain⟨ys,hys⟩:=gn (aG st.aJ)
   rw[hys]at hb hg
   have hfs:=rK Em.stop 4 (sz 4 xs) xs (by unfold sz;by_cases h:xs=[];exact .inl h;exact .inr (if_neg (fun e=>h (yAf e)))) tok
   have gx:=An @q1 (An @hb (@hg))
   refine aC ?_
   clear gx
   exact⟨_,_,rfl,by rw[hfi];exact hfs,by rw[hfi];exact dO,hlo,hfr⟩
  |false=>
   rw[hst]at hb hg
   have dO:bV σ id st:=⟨z,hz,by rw[hst];exact hb⟩
   obtain⟨cB,k7,R7,l7,f7⟩:=H2.at dO (by omega)
   have hu:=yG.use st
   have sS:=yG.len st
   have hdl:bG jG (N-i) st=((jG st).1::(bG jG (N-(i+1)) (jG st).2).1,(bG jG (N-(i+1)) (jG st).2).2):=by
    rw[show N-i=(N-(i+1))+1 by omega]
    simp[bG,hst]
   rw[hdl]at hfi
   obtain⟨x,hx⟩:=gn ((jG st).1)
   obtain⟨dZ,pU⟩:=gn ((jG st).2)
   rw[hx]at k7 hfi
   rw[pU]at R7 hfi hu sS
   have hs1:=hsp x
   have iO:gG prog 69 1 (List.map (fun q=>(q.1,q.2.strip)) [((0:Nat),Em.stop.U x)])=some (.slice 4 [Em.stop.U x] .full):=by
    simp only[List.map_cons,List.map_nil,hs1]
    exact hns x
   have hmap:(xs++[x]).map Em.stop.U=xs.map Em.stop.U++[Em.stop.U x]:=by simp
   obtain⟨ex,hex⟩:=gn (Em.stop.U x)
   rw[hex]at k7 hs1 iO hmap
   simp only[kF]at k7
   have sT:cV cB tok 74 4 (xs.map Em.stop.U).length:=by
    rw[yAe,hxl]
    exact hrow.dH fun q o e h=>by
     rw[f7 q (yA.1 h).1 (by have:=hown q e;omega)]
     exact h
   obtain⟨bQ,bZ,ap,ra,kp,ow⟩:=pY (P:=prog) (t:=69) (e:=74) (k:=4) (b:=56) (s:=sz 4 xs) (p:=ex) (tk:=.any) underlying69 (by kernel_rfl) (by unfold sz;by_cases h:xs=[];exact .inl (by rw[h];rfl);exact .inr (if_neg (fun e=>h (yAf e)))) sT (by rw[yAe];omega) (by rw[yAe];omega)
   obtain⟨ys,hys⟩:=gn (aG st.aJ)
   rw[hys]at hb hg
   have hsz:sz 4 (xs++[x])=4:=cG (by simp)
   have GW:cB.length<=bZ.length:=by
    rcases Nat.lt_or_ge bZ.length cB.length with h|h
    ·exfalso
     obtain⟨o,ho⟩:∃o,cB[cB.length-1]?=some o:=⟨_,yAh (by omega)⟩
     by_cases e:tok=.own (cB.length-1)
     ·rcases ra with⟨h1,_⟩ | ⟨_,q,h1,h2⟩
      ·omega
      ·have h3:=(yA.1 h2).1
       rcases ow q h1 with h4|h4
       ·rw[e]at h4;cases h4;omega
       ·omega
     ·have h3:=(yA.1 (kp _ _ e ho)).1
      omega
    ·exact h
   have nL:∀j,j<cB.length->tok≠.own j->bZ[j]?=cB[j]?:=fun j h1 h2=>by rw[kp j _ h2 (yAh h1),yAh h1]
   have sU:tok≠.own id:=fun e=>by
    have:=hown id e
    omega
   have hlow:∀j,j<τ.length->tok≠.own j:=fun j hj e=>by
    have:=hown j e
    omega
   have sV:∀q,bQ=.own q->τ.length<=q:=fun q e=>by
    rcases ow q e with h|h
    ·exact hown q h
    ·omega
   have sW:bV bZ id dZ:=R7.dH (nL id R7.lt sU)
   have sX:cV bZ bQ 74 4 (i+1):=by rw[yAe,hxl]at ra;exact ra
   have sY:∀j,j<τ.length->j≠id->bZ[j]?=τ[j]?:=fun j h1 h2=>by rw[nL j (by omega) (hlow j h1),f7 j (by omega) h2];exact hfr j h1 h2
   have s6:8*(i+1)<=s.aJ.length+8:=by have:=hbd hst;omega
   have s7:dZ.bad=false->dZ.aJ.length+8*(i+1)<=s.aJ.length:=fun h=>by have:=hu h;have:=hbd hst;omega
   have s8:fin=((xs++[x])++(bG jG (N-(i+1)) dZ).1,(bG jG (N-(i+1)) dZ).2):=by rw[hfi];simp
   have gx:=An @q1 (An @hb (@hg))
   refine aC ?_
   clear gx
   first|refine Wp.seq ?_|skip
   apply Wp.jQ
   have gx:=An @h2 (An @k7 (An @hs1 (@ap)))
   refine iN ?_
   clear gx
   apply SQ.nil
   have gx:=An @q1 (An @hb (@hg))
   refine aC ?_
   clear gx
   refine bP.normal (m-1) (by omega) (by refine⟨i+1,xs++[x],bQ,dZ,bZ,?_⟩;exact cW (⟨by omega,by simp[hxl],sW,sX,sV,by omega,sY,s6,s7,by omega,s8⟩) (by(first|rfl|(simp[hmap,hsz];repeat(first|rfl|(apply And.intro)))|(simp[hmap,hsz];done))) (by(first|rfl|(simp[hmap,hsz];repeat(first|rfl|(apply And.intro)))|(simp[hmap,hsz];done))))
 ·have q1:¬(i:Int)<n:=by omega
  have dO:bV σ id st:=⟨z,hz,hb⟩
  rw[show N-i=0 by omega]at hfi
  simp only[bG,yAl]at hfi
  have hfs:=rK Em.stop 4 (sz 4 xs) xs (by unfold sz;by_cases h:xs=[];exact .inl h;exact .inr (if_neg (fun e=>h (yAf e)))) tok
  have gx:=@q1
  refine aC ?_
  clear gx
  exact⟨_,_,rfl,by rw[hfi];exact hfs,by rw[hfi];exact dO,hlo,hfr⟩)
end
section
variable{E E1 E2 E3 E4:aD}(hU:aI E)
include hU
theorem aJP(h0:E 75=none)(h1:E 71=some (aO prog E1 71))(H1:Reads E1 71 iB PD.str)(h2:E 103=some (aO prog E2 103))(H2:Reads E2 103 oR PD.bool)(h3:E 100=some (aO prog E3 100))(H3:Reads E3 100 aM i64.U)(h4:E 104=some (aO prog E4 104))(H4:j9 E4 104 (gO 105) (dList jG) j6.U):Reads E 75 jH Em.div.U:=by
 intro τ id s hr hl
 have hid:=hr.lt
 have K0:Kp τ (τ++[.box (.agg [.str [],.bool false,.int .i64 0,.int .i64 0,.slice 0 [] .full])]) id τ.length (.agg [.str [],.bool false,.int .i64 0,.int .i64 0,.slice 0 [] .full]):=Kp.new
 have R0:bV (τ++[.box (.agg [.str [],.bool false,.int .i64 0,.int .i64 0,.slice 0 [] .full])]) id s:=hr.more
 obtain⟨w0,z0⟩:=K0.at
 obtain⟨σ1,k1,K1,R1⟩:=H1.next K0 R0 (by omega) hid
 have l1:=sI.len s
 obtain⟨a1,nH⟩:=gn ((iB s).1)
 obtain⟨s1,gA⟩:=gn ((iB s).2)
 rw[nH]at k1
 rw[gA]at R1 l1
 have jW:=K1.set (.agg [.str a1,.bool false,.int .i64 0,.int .i64 0,.slice 0 [] .full])
 have sJ:=R1.gQ (Y:=.box (.agg [.str a1,.bool false,.int .i64 0,.int .i64 0,.slice 0 [] .full])) hid
 obtain⟨w1,z1⟩:=K1.at
 obtain⟨sK,sL⟩:=jW.at
 have b1:=K1.bx
 have sM:=jW.bx
 replace k1:=k1.trans (show _=some (.str a1,σ1)from rfl)
 obtain⟨σ2,k2,K2,R2⟩:=H2.next jW sJ (by omega) hid
 have l2:=yF.len s1
 obtain⟨a2,nI⟩:=gn ((oR s1).1)
 obtain⟨s2,gC⟩:=gn ((oR s1).2)
 rw[nI]at k2
 rw[gC]at R2 l2
 have jX:=K2.set (.agg [.str a1,.bool a2,.int .i64 0,.int .i64 0,.slice 0 [] .full])
 have sN:=R2.gQ (Y:=.box (.agg [.str a1,.bool a2,.int .i64 0,.int .i64 0,.slice 0 [] .full])) hid
 obtain⟨w2,z2⟩:=K2.at
 obtain⟨oT,pN⟩:=jX.at
 have b2:=K2.bx
 have pO:=jX.bx
 replace k2:=k2.trans (show _=some (.bool a2,σ2)from rfl)
 obtain⟨σ3,k3,K3,R3⟩:=H3.next jX sN (by omega) hid
 have l3:=cH.len s2
 obtain⟨a3,oV⟩:=gn ((aM s2).1)
 obtain⟨s3,iZ⟩:=gn ((aM s2).2)
 rw[oV]at k3
 rw[iZ]at R3 l3
 have lM:=K3.set (.agg [.str a1,.bool a2,.int .i64 a3,.int .i64 0,.slice 0 [] .full])
 have uY:=R3.gQ (Y:=.box (.agg [.str a1,.bool a2,.int .i64 a3,.int .i64 0,.slice 0 [] .full])) hid
 obtain⟨w3,z3⟩:=K3.at
 obtain⟨uZ,u5⟩:=lM.at
 have b3:=K3.bx
 have qI:=lM.bx
 replace k3:=k3.trans (show _=some (.int .i64 a3,σ3)from rfl)
 obtain⟨bK,k4,K4,R4⟩:=H3.next lM uY (by omega) hid
 have l4:=cH.len s3
 obtain⟨a4,u6⟩:=gn ((aM s3).1)
 obtain⟨s4,qK⟩:=gn ((aM s3).2)
 rw[u6]at k4
 rw[qK]at R4 l4
 have qL:=K4.set (.agg [.str a1,.bool a2,.int .i64 a3,.int .i64 a4,.slice 0 [] .full])
 have C8:=R4.gQ (Y:=.box (.agg [.str a1,.bool a2,.int .i64 a3,.int .i64 a4,.slice 0 [] .full])) hid
 obtain⟨w4,z4⟩:=K4.at
 obtain⟨C9,DA⟩:=qL.at
 have b4:=K4.bx
 have DB:=qL.bx
 replace k4:=k4.trans (show _=some (.int .i64 a4,bK)from rfl)
 obtain⟨vL,k5,K5,R5⟩:=H4.next qL C8 (by omega) hid
 have l5:=yG.list.len s4
 obtain⟨a5,AX⟩:=gn (((dList jG) s4).1)
 obtain⟨s5,AY⟩:=gn (((dList jG) s4).2)
 rw[AX]at k5
 rw[AY]at R5 l5
 obtain⟨p5,vM⟩:=gn (j6.U a5)
 rw[vM]at k5
 have XL:PD.strip p5=p5:=by rw[<-vM];exact j6.str a5
 have KP:PD.plain p5=true:=by rw[<-vM];rfl
 have KQ:PD.cells p5=[p5]:=by rw[<-vM];rfl
 unfold PD.plain at KP
 unfold PD.cells at KQ
 have vN:=K5.set (.agg [.str a1,.bool a2,.int .i64 a3,.int .i64 a4,p5])
 have KR:=R5.gQ (Y:=.box (.agg [.str a1,.bool a2,.int .i64 a3,.int .i64 a4,p5])) hid
 obtain⟨w5,z5⟩:=K5.at
 obtain⟨KS,KT⟩:=vN.at
 have b5:=K5.bx
 have KU:=vN.bx
 replace k5:=k5.trans (show _=some (p5,vL)from rfl)
 have e:jH s=(⟨a1,a2,a3,a4,a5⟩,s5):=by
  unfold jH
  simp only[nH,gA,nI,gC,oV,iZ,u6,qK,AX,AY]
 simp only[kF,gO]at k1 k2 k3 k4 k5
 apply aN.aK h0 func75 rfl
 focus(simp[show Tryz.f75.ntmps=_ from rfl,List.replicate];rfl)
 have gx:=An @h1 (An @h2 (An @h3 (An @h4 (An @k1 (An @w1 (An @z1 (An @sK (An @sL (An @b1 (An @sM (An @k2 (An @w2 (An @z2 (An @oT (An @pN (An @b2 (An @pO (An @k3 (An @w3 (An @z3 (An @uZ (An @u5 (An @b3 (An @qI (An @k4 (An @w4 (An @z4 (An @C9 (An @DA (An @b4 (An @DB (An @KP (An @KQ (An @k5 (An @w5 (An @z5 (An @KS (An @KT (An @b5 (@KU))))))))))))))))))))))))))))))))))))))))
 refine aC ?_
 clear gx
 have KK:=(vN).set (.agg [.str a1,.bool a2,.int .i64 a3,.int .i64 a4,p5])
 have RR:=KR.gQ (Y:=.box (.agg [.str a1,.bool a2,.int .i64 a3,.int .i64 a4,p5])) hid
 rw[List.set_set]at KK RR
 refine⟨.agg [.str a1,.bool a2,.int .i64 a3,.int .i64 a4,p5],vL.set τ.length (.box (.agg [.str a1,.bool a2,.int .i64 a3,.int .i64 a4,p5])),by simp[fR,w5],?_⟩
 unfold lL
 rw[e]
 refine⟨?_,RR,Nat.le_of_lt KK.lt,fun j h1 h2=>KK.fr j h1 h2⟩
 simp only[PD.strip,PD.j7,XL]
 rw[<-vM]
 rfl
end
section
theorem aQs(x:cU):gG prog 33 1 [(0,Em.div.U x)]=some (.slice 5 [Em.div.U x] .full):=by
 kernel_rfl
variable{E E1 E2:aD}(hU:aI E)
include hU
theorem aJS(h0:E 74=none)(h1:E 100=some (aO prog E1 100))(H1:Reads E1 100 aM i64.U)(h2:E 75=some (aO prog E2 75))(H2:Reads E2 75 jH Em.div.U):j9 E 74 (gO 75) (dList jH) n9.U:=by
 intro τ id s hr hl
 have hid:=hr.lt
 obtain⟨jL,k1,r1,l1,f1⟩:=H1.at hr hl
 have hd:dList jH s=bG jH (aM s).1.toNat ⟨(aM s).2.aJ,(aM s).2.bad||decide ((aM s).1<0)⟩:=rfl
 have hln:=cH.len s
 obtain⟨n,hn⟩:=gn ((aM s).1)
 obtain⟨s1,hs1⟩:=gn ((aM s).2)
 rw[hn]at k1 hd
 rw[hs1]at r1 hd hln
 replace k1:=k1.trans (show _=some (.int .i64 n,jL)from rfl)
 simp only[kF]at k1
 obtain⟨aJ,bad⟩:=s1
 obtain⟨z,hz,hb⟩:=r1
 simp only at hz hb hd hln
 obtain⟨hlt,hg⟩:=yA.1 hb
 obtain⟨N,hN⟩:=gn (n.toNat)
 rw[hN]at hd
 have R2:=bV.put (bad:=bad||decide (n<0)) hlt aJ hz
 obtain⟨s2,hs2⟩:=gn (fP.mk aJ (bad||decide (n<0)))
 rw[hs2]at R2 hd
 have hi2:s2.aJ=aJ:=by rw[<-hs2]
 obtain⟨nZ,nK⟩:=gn (aG aJ)
 rw[nK]at hb hg R2
 obtain⟨dY,bO⟩:=gn (jL.set id (.box (.agg [.slice z nZ .any,.bool (bad||decide (n<0))])))
 rw[bO]at R2
 have l2:τ.length<=dY.length:=by rw[<-bO,yBd];exact l1
 have f2:∀j,j<τ.length->j≠id->dY[j]?=τ[j]?:=fun j h1 h2=>by rw[<-bO,yAd (Ne.symm h2)];exact f1 j h1 h2
 obtain⟨bn,hbn⟩:=gn ((bad||decide (n<0)))
 rw[hbn]at bO
 have hsp:∀x:cU,PD.strip (Em.div.U x)=Em.div.U x:=fun x=>Em.div.str x
 have hns:=aQs
 obtain⟨fin,hfin⟩:=gn (bG jH N s2)
 rw[hfin]at hd
 unfold lL
 rw[hd]
 clear hd
 simp only[gO]
 apply aN.aK h0 func74 rfl
 focus(simp[show Tryz.f74.ntmps=_ from rfl,List.replicate];rfl)
 have qD:bad=true\/(bad=false/\n<0)\/(bad=false/\¬n<0):=by
  cases bad
  ·exact .inr (by by_cases c:n<0;exact .inl ⟨rfl,c⟩;exact .inr ⟨rfl,c⟩)
  ·exact .inl rfl
 have pR:s2.aJ.length<=s.aJ.length:=by rw[hi2];exact hln
 clear hr hi2 hs2 hln hz nK
 rcases qD with rfl | ⟨rfl,c2⟩ | ⟨rfl,c2⟩
 rw[show bn=true by rw[<-hbn];simp]at bO
 have gx:=An @h1 (An @k1 (An @hb (An @hg (@bO))))
 refine aC ?_
 clear gx
 rotate_left
 rw[show bn=true by rw[<-hbn];simp[c2]]at bO
 have gx:=An @h1 (An @k1 (An @hb (An @hg (An @bO (@c2)))))
 refine aC ?_
 clear gx
 rotate_left
 rw[show bn=false by rw[<-hbn];simp[c2]]at bO
 have gx:=An @h1 (An @k1 (An @hb (An @hg (An @bO (@c2)))))
 refine aC ?_
 clear gx
 all_goals (
 clear hb hg bO hbn k1 f1 l1
 refine Wp.cJ (fun m fr σ=>∃(i:Nat) (xs:List cU) (tok:Tok) (st:fP) (σ1:List aB),∃gg:Nat->PD,(i+m=N/\xs.length=i/\bV σ1 id st/\cV σ1 tok 71 5 i/\(∀q,tok=.own q->τ.length<=q)/\τ.length<=σ1.length/\(∀j,j<τ.length->j≠id->σ1[j]?=τ[j]?)/\8*i<=s.aJ.length+8/\(st.bad=false->st.aJ.length+8*i<=s.aJ.length)/\st.aJ.length<=s.aJ.length/\fin=(xs++(bG jH (N-i) st).1,(bG jH (N-i) st).2))/\fr=[.ptr id 0,.dA 75 [.ptr id 0],gg 2,gg 3,gg 4,.int .i64 n,.slice (sz 5 xs) (xs.map Em.div.U) tok,.int .i64 i,gg 8,gg 9,gg 10,gg 11,gg 12,gg 13,gg 14,gg 15,gg 16,gg 17,gg 18,gg 19,gg 20,gg 21,gg 22,gg 23,gg 24,gg 25,gg 26,gg 27,gg 28,gg 29,gg 30,gg 31,gg 32,gg 33,gg 34,gg 35,gg 36,gg 37,gg 38]/\σ=σ1) ?_ (N) (by refine⟨0,[],.full,s2,dY,?_⟩;exact bW (⟨by omega,rfl,R2,.inl ⟨rfl,rfl⟩,(fun q h=>by cases h),l2,f2,by omega,(fun _=>by omega),pR,(by rw[Nat.sub_zero,hfin];rfl)⟩))
 rintro m fr σ ⟨i,xs,tok,st,σ1,gg,hI,rfl,rfl⟩
 obtain⟨hm,hxl,hR,hrow,hown,hlo,hfr,AE,hbd,hLe,hfi⟩:=hI
 obtain⟨z,hz,hb⟩:=hR
 obtain⟨hlt,hg⟩:=yA.1 hb
 by_cases hi:i<N
 ·have q1:(i:Int)<n:=by omega
  cases hst:st.bad with
  |true=>
   rw[hst]at hb hg
   have dO:bV σ id st:=⟨z,hz,by rw[hst];exact hb⟩
   rw[AF _ _ hst,yAl]at hfi
   obtain⟨ys,hys⟩:=gn (aG st.aJ)
   rw[hys]at hb hg
   have hfs:=rK Em.div 5 (sz 5 xs) xs (by unfold sz;by_cases h:xs=[];exact .inl h;exact .inr (if_neg (fun e=>h (yAf e)))) tok
   have gx:=An @q1 (An @hb (@hg))
   refine aC ?_
   clear gx
   exact⟨_,_,rfl,by rw[hfi];exact hfs,by rw[hfi];exact dO,hlo,hfr⟩
  |false=>
   rw[hst]at hb hg
   have dO:bV σ id st:=⟨z,hz,by rw[hst];exact hb⟩
   obtain⟨cB,k7,R7,l7,f7⟩:=H2.at dO (by omega)
   have hu:=C7.use st
   have sS:=C7.len st
   have hdl:bG jH (N-i) st=((jH st).1::(bG jH (N-(i+1)) (jH st).2).1,(bG jH (N-(i+1)) (jH st).2).2):=by
    rw[show N-i=(N-(i+1))+1 by omega]
    simp[bG,hst]
   rw[hdl]at hfi
   obtain⟨x,hx⟩:=gn ((jH st).1)
   obtain⟨dZ,pU⟩:=gn ((jH st).2)
   rw[hx]at k7 hfi
   rw[pU]at R7 hfi hu sS
   have hs1:=hsp x
   have iO:gG prog 33 1 (List.map (fun q=>(q.1,q.2.strip)) [((0:Nat),Em.div.U x)])=some (.slice 5 [Em.div.U x] .full):=by
    simp only[List.map_cons,List.map_nil,hs1]
    exact hns x
   have hmap:(xs++[x]).map Em.div.U=xs.map Em.div.U++[Em.div.U x]:=by simp
   obtain⟨ex,hex⟩:=gn (Em.div.U x)
   rw[hex]at k7 hs1 iO hmap
   simp only[kF]at k7
   have sT:cV cB tok 71 5 (xs.map Em.div.U).length:=by
    rw[yAe,hxl]
    exact hrow.dH fun q o e h=>by
     rw[f7 q (yA.1 h).1 (by have:=hown q e;omega)]
     exact h
   obtain⟨bQ,bZ,ap,ra,kp,ow⟩:=pY (P:=prog) (t:=33) (e:=71) (k:=5) (b:=64) (s:=sz 5 xs) (p:=ex) (tk:=.any) underlying33 (by kernel_rfl) (by unfold sz;by_cases h:xs=[];exact .inl (by rw[h];rfl);exact .inr (if_neg (fun e=>h (yAf e)))) sT (by rw[yAe];omega) (by rw[yAe];omega)
   obtain⟨ys,hys⟩:=gn (aG st.aJ)
   rw[hys]at hb hg
   have hsz:sz 5 (xs++[x])=5:=cG (by simp)
   have GW:cB.length<=bZ.length:=by
    rcases Nat.lt_or_ge bZ.length cB.length with h|h
    ·exfalso
     obtain⟨o,ho⟩:∃o,cB[cB.length-1]?=some o:=⟨_,yAh (by omega)⟩
     by_cases e:tok=.own (cB.length-1)
     ·rcases ra with⟨h1,_⟩ | ⟨_,q,h1,h2⟩
      ·omega
      ·have h3:=(yA.1 h2).1
       rcases ow q h1 with h4|h4
       ·rw[e]at h4;cases h4;omega
       ·omega
     ·have h3:=(yA.1 (kp _ _ e ho)).1
      omega
    ·exact h
   have nL:∀j,j<cB.length->tok≠.own j->bZ[j]?=cB[j]?:=fun j h1 h2=>by rw[kp j _ h2 (yAh h1),yAh h1]
   have sU:tok≠.own id:=fun e=>by
    have:=hown id e
    omega
   have hlow:∀j,j<τ.length->tok≠.own j:=fun j hj e=>by
    have:=hown j e
    omega
   have sV:∀q,bQ=.own q->τ.length<=q:=fun q e=>by
    rcases ow q e with h|h
    ·exact hown q h
    ·omega
   have sW:bV bZ id dZ:=R7.dH (nL id R7.lt sU)
   have sX:cV bZ bQ 71 5 (i+1):=by rw[yAe,hxl]at ra;exact ra
   have sY:∀j,j<τ.length->j≠id->bZ[j]?=τ[j]?:=fun j h1 h2=>by rw[nL j (by omega) (hlow j h1),f7 j (by omega) h2];exact hfr j h1 h2
   have s6:8*(i+1)<=s.aJ.length+8:=by have:=hbd hst;omega
   have s7:dZ.bad=false->dZ.aJ.length+8*(i+1)<=s.aJ.length:=fun h=>by have:=hu h;have:=hbd hst;omega
   have s8:fin=((xs++[x])++(bG jH (N-(i+1)) dZ).1,(bG jH (N-(i+1)) dZ).2):=by rw[hfi];simp
   have gx:=An @q1 (An @hb (@hg))
   refine aC ?_
   clear gx
   first|refine Wp.seq ?_|skip
   apply Wp.jQ
   have gx:=An @h2 (An @k7 (An @hs1 (@ap)))
   refine iN ?_
   clear gx
   apply SQ.nil
   have gx:=An @q1 (An @hb (@hg))
   refine aC ?_
   clear gx
   refine bP.normal (m-1) (by omega) (by refine⟨i+1,xs++[x],bQ,dZ,bZ,?_⟩;exact cW (⟨by omega,by simp[hxl],sW,sX,sV,by omega,sY,s6,s7,by omega,s8⟩) (by(first|rfl|(simp[hmap,hsz];repeat(first|rfl|(apply And.intro)))|(simp[hmap,hsz];done))) (by(first|rfl|(simp[hmap,hsz];repeat(first|rfl|(apply And.intro)))|(simp[hmap,hsz];done))))
 ·have q1:¬(i:Int)<n:=by omega
  have dO:bV σ id st:=⟨z,hz,hb⟩
  rw[show N-i=0 by omega]at hfi
  simp only[bG,yAl]at hfi
  have hfs:=rK Em.div 5 (sz 5 xs) xs (by unfold sz;by_cases h:xs=[];exact .inl h;exact .inr (if_neg (fun e=>h (yAf e)))) tok
  have gx:=@q1
  refine aC ?_
  clear gx
  exact⟨_,_,rfl,by rw[hfi];exact hfs,by rw[hfi];exact dO,hlo,hfr⟩)
end
section
variable{E E1 E2 E3:aD}(hU:aI E)
include hU
theorem aJV(h0:E 77=none)(h1:E 71=some (aO prog E1 71))(H1:Reads E1 71 iB PD.str)(h2:E 100=some (aO prog E2 100))(H2:Reads E2 100 aM i64.U)(h3:E 103=some (aO prog E3 103))(H3:Reads E3 103 oR PD.bool):Reads E 77 jI Em.aP.U:=by
 intro τ id s hr hl
 have hid:=hr.lt
 have K0:Kp τ (τ++[.box (.agg [.str [],.int .i64 0,.int .i64 0,.int .i64 0,.bool false])]) id τ.length (.agg [.str [],.int .i64 0,.int .i64 0,.int .i64 0,.bool false]):=Kp.new
 have R0:bV (τ++[.box (.agg [.str [],.int .i64 0,.int .i64 0,.int .i64 0,.bool false])]) id s:=hr.more
 obtain⟨w0,z0⟩:=K0.at
 obtain⟨σ1,k1,K1,R1⟩:=H1.next K0 R0 (by omega) hid
 have l1:=sI.len s
 obtain⟨a1,nH⟩:=gn ((iB s).1)
 obtain⟨s1,gA⟩:=gn ((iB s).2)
 rw[nH]at k1
 rw[gA]at R1 l1
 have jW:=K1.set (.agg [.str a1,.int .i64 0,.int .i64 0,.int .i64 0,.bool false])
 have sJ:=R1.gQ (Y:=.box (.agg [.str a1,.int .i64 0,.int .i64 0,.int .i64 0,.bool false])) hid
 obtain⟨w1,z1⟩:=K1.at
 obtain⟨sK,sL⟩:=jW.at
 have b1:=K1.bx
 have sM:=jW.bx
 replace k1:=k1.trans (show _=some (.str a1,σ1)from rfl)
 obtain⟨σ2,k2,K2,R2⟩:=H2.next jW sJ (by omega) hid
 have l2:=cH.len s1
 obtain⟨a2,nI⟩:=gn ((aM s1).1)
 obtain⟨s2,gC⟩:=gn ((aM s1).2)
 rw[nI]at k2
 rw[gC]at R2 l2
 have jX:=K2.set (.agg [.str a1,.int .i64 a2,.int .i64 0,.int .i64 0,.bool false])
 have sN:=R2.gQ (Y:=.box (.agg [.str a1,.int .i64 a2,.int .i64 0,.int .i64 0,.bool false])) hid
 obtain⟨w2,z2⟩:=K2.at
 obtain⟨oT,pN⟩:=jX.at
 have b2:=K2.bx
 have pO:=jX.bx
 replace k2:=k2.trans (show _=some (.int .i64 a2,σ2)from rfl)
 obtain⟨σ3,k3,K3,R3⟩:=H2.next jX sN (by omega) hid
 have l3:=cH.len s2
 obtain⟨a3,oV⟩:=gn ((aM s2).1)
 obtain⟨s3,iZ⟩:=gn ((aM s2).2)
 rw[oV]at k3
 rw[iZ]at R3 l3
 have lM:=K3.set (.agg [.str a1,.int .i64 a2,.int .i64 a3,.int .i64 0,.bool false])
 have uY:=R3.gQ (Y:=.box (.agg [.str a1,.int .i64 a2,.int .i64 a3,.int .i64 0,.bool false])) hid
 obtain⟨w3,z3⟩:=K3.at
 obtain⟨uZ,u5⟩:=lM.at
 have b3:=K3.bx
 have qI:=lM.bx
 replace k3:=k3.trans (show _=some (.int .i64 a3,σ3)from rfl)
 obtain⟨bK,k4,K4,R4⟩:=H2.next lM uY (by omega) hid
 have l4:=cH.len s3
 obtain⟨a4,u6⟩:=gn ((aM s3).1)
 obtain⟨s4,qK⟩:=gn ((aM s3).2)
 rw[u6]at k4
 rw[qK]at R4 l4
 have qL:=K4.set (.agg [.str a1,.int .i64 a2,.int .i64 a3,.int .i64 a4,.bool false])
 have C8:=R4.gQ (Y:=.box (.agg [.str a1,.int .i64 a2,.int .i64 a3,.int .i64 a4,.bool false])) hid
 obtain⟨w4,z4⟩:=K4.at
 obtain⟨C9,DA⟩:=qL.at
 have b4:=K4.bx
 have DB:=qL.bx
 replace k4:=k4.trans (show _=some (.int .i64 a4,bK)from rfl)
 obtain⟨vL,k5,K5,R5⟩:=H3.next qL C8 (by omega) hid
 have l5:=yF.len s4
 obtain⟨a5,AX⟩:=gn ((oR s4).1)
 obtain⟨s5,AY⟩:=gn ((oR s4).2)
 rw[AX]at k5
 rw[AY]at R5 l5
 have vN:=K5.set (.agg [.str a1,.int .i64 a2,.int .i64 a3,.int .i64 a4,.bool a5])
 have KR:=R5.gQ (Y:=.box (.agg [.str a1,.int .i64 a2,.int .i64 a3,.int .i64 a4,.bool a5])) hid
 obtain⟨w5,z5⟩:=K5.at
 obtain⟨KS,KT⟩:=vN.at
 have b5:=K5.bx
 have KU:=vN.bx
 replace k5:=k5.trans (show _=some (.bool a5,vL)from rfl)
 have e:jI s=(⟨a1,a2,a3,a4,a5⟩,s5):=by
  unfold jI
  simp only[nH,gA,nI,gC,oV,iZ,u6,qK,AX,AY]
 simp only[kF,gO]at k1 k2 k3 k4 k5
 apply aN.aK h0 func77 rfl
 focus(simp[show Tryz.f77.ntmps=_ from rfl,List.replicate];rfl)
 have gx:=An @h1 (An @h2 (An @h3 (An @k1 (An @w1 (An @z1 (An @sK (An @sL (An @b1 (An @sM (An @k2 (An @w2 (An @z2 (An @oT (An @pN (An @b2 (An @pO (An @k3 (An @w3 (An @z3 (An @uZ (An @u5 (An @b3 (An @qI (An @k4 (An @w4 (An @z4 (An @C9 (An @DA (An @b4 (An @DB (An @k5 (An @w5 (An @z5 (An @KS (An @KT (An @b5 (@KU)))))))))))))))))))))))))))))))))))))
 refine aC ?_
 clear gx
 have KK:=(vN).set (.agg [.str a1,.int .i64 a2,.int .i64 a3,.int .i64 a4,.bool a5])
 have RR:=KR.gQ (Y:=.box (.agg [.str a1,.int .i64 a2,.int .i64 a3,.int .i64 a4,.bool a5])) hid
 rw[List.set_set]at KK RR
 refine⟨.agg [.str a1,.int .i64 a2,.int .i64 a3,.int .i64 a4,.bool a5],vL.set τ.length (.box (.agg [.str a1,.int .i64 a2,.int .i64 a3,.int .i64 a4,.bool a5])),by simp[fR,w5],?_⟩
 unfold lL
 rw[e]
 refine⟨?_,RR,Nat.le_of_lt KK.lt,fun j h1 h2=>KK.fr j h1 h2⟩
 simp only[PD.strip,PD.j7]
 rfl
end
section
theorem aQt(x:cF):gG prog 34 1 [(0,Em.aP.U x)]=some (.slice 5 [Em.aP.U x] .full):=by
 kernel_rfl
variable{E E1 E2:aD}(hU:aI E)
include hU
theorem aJY(h0:E 76=none)(h1:E 100=some (aO prog E1 100))(H1:Reads E1 100 aM i64.U)(h2:E 77=some (aO prog E2 77))(H2:Reads E2 77 jI Em.aP.U):j9 E 76 (gO 77) (dList jI) lA.U:=by
 intro τ id s hr hl
 have hid:=hr.lt
 obtain⟨jL,k1,r1,l1,f1⟩:=H1.at hr hl
 have hd:dList jI s=bG jI (aM s).1.toNat ⟨(aM s).2.aJ,(aM s).2.bad||decide ((aM s).1<0)⟩:=rfl
 have hln:=cH.len s
 obtain⟨n,hn⟩:=gn ((aM s).1)
 obtain⟨s1,hs1⟩:=gn ((aM s).2)
 rw[hn]at k1 hd
 rw[hs1]at r1 hd hln
 replace k1:=k1.trans (show _=some (.int .i64 n,jL)from rfl)
 simp only[kF]at k1
 obtain⟨aJ,bad⟩:=s1
 obtain⟨z,hz,hb⟩:=r1
 simp only at hz hb hd hln
 obtain⟨hlt,hg⟩:=yA.1 hb
 obtain⟨N,hN⟩:=gn (n.toNat)
 rw[hN]at hd
 have R2:=bV.put (bad:=bad||decide (n<0)) hlt aJ hz
 obtain⟨s2,hs2⟩:=gn (fP.mk aJ (bad||decide (n<0)))
 rw[hs2]at R2 hd
 have hi2:s2.aJ=aJ:=by rw[<-hs2]
 obtain⟨nZ,nK⟩:=gn (aG aJ)
 rw[nK]at hb hg R2
 obtain⟨dY,bO⟩:=gn (jL.set id (.box (.agg [.slice z nZ .any,.bool (bad||decide (n<0))])))
 rw[bO]at R2
 have l2:τ.length<=dY.length:=by rw[<-bO,yBd];exact l1
 have f2:∀j,j<τ.length->j≠id->dY[j]?=τ[j]?:=fun j h1 h2=>by rw[<-bO,yAd (Ne.symm h2)];exact f1 j h1 h2
 obtain⟨bn,hbn⟩:=gn ((bad||decide (n<0)))
 rw[hbn]at bO
 have hsp:∀x:cF,PD.strip (Em.aP.U x)=Em.aP.U x:=fun x=>Em.aP.str x
 have hns:=aQt
 obtain⟨fin,hfin⟩:=gn (bG jI N s2)
 rw[hfin]at hd
 unfold lL
 rw[hd]
 clear hd
 simp only[gO]
 apply aN.aK h0 func76 rfl
 focus(simp[show Tryz.f76.ntmps=_ from rfl,List.replicate];rfl)
 have qD:bad=true\/(bad=false/\n<0)\/(bad=false/\¬n<0):=by
  cases bad
  ·exact .inr (by by_cases c:n<0;exact .inl ⟨rfl,c⟩;exact .inr ⟨rfl,c⟩)
  ·exact .inl rfl
 have pR:s2.aJ.length<=s.aJ.length:=by rw[hi2];exact hln
 clear hr hi2 hs2 hln hz nK
 rcases qD with rfl | ⟨rfl,c2⟩ | ⟨rfl,c2⟩
 rw[show bn=true by rw[<-hbn];simp]at bO
 have gx:=An @h1 (An @k1 (An @hb (An @hg (@bO))))
 refine aC ?_
 clear gx
 rotate_left
 rw[show bn=true by rw[<-hbn];simp[c2]]at bO
 have gx:=An @h1 (An @k1 (An @hb (An @hg (An @bO (@c2)))))
 refine aC ?_
 clear gx
 rotate_left
 rw[show bn=false by rw[<-hbn];simp[c2]]at bO
 have gx:=An @h1 (An @k1 (An @hb (An @hg (An @bO (@c2)))))
 refine aC ?_
 clear gx
 all_goals (
 clear hb hg bO hbn k1 f1 l1
 refine Wp.cJ (fun m fr σ=>∃(i:Nat) (xs:List cF) (tok:Tok) (st:fP) (σ1:List aB),∃gg:Nat->PD,(i+m=N/\xs.length=i/\bV σ1 id st/\cV σ1 tok 76 5 i/\(∀q,tok=.own q->τ.length<=q)/\τ.length<=σ1.length/\(∀j,j<τ.length->j≠id->σ1[j]?=τ[j]?)/\8*i<=s.aJ.length+8/\(st.bad=false->st.aJ.length+8*i<=s.aJ.length)/\st.aJ.length<=s.aJ.length/\fin=(xs++(bG jI (N-i) st).1,(bG jI (N-i) st).2))/\fr=[.ptr id 0,.dA 77 [.ptr id 0],gg 2,gg 3,gg 4,.int .i64 n,.slice (sz 5 xs) (xs.map Em.aP.U) tok,.int .i64 i,gg 8,gg 9,gg 10,gg 11,gg 12,gg 13,gg 14,gg 15,gg 16,gg 17,gg 18,gg 19,gg 20,gg 21,gg 22,gg 23,gg 24,gg 25,gg 26,gg 27,gg 28,gg 29,gg 30,gg 31,gg 32,gg 33,gg 34,gg 35,gg 36,gg 37,gg 38]/\σ=σ1) ?_ (N) (by refine⟨0,[],.full,s2,dY,?_⟩;exact bW (⟨by omega,rfl,R2,.inl ⟨rfl,rfl⟩,(fun q h=>by cases h),l2,f2,by omega,(fun _=>by omega),pR,(by rw[Nat.sub_zero,hfin];rfl)⟩))
 rintro m fr σ ⟨i,xs,tok,st,σ1,gg,hI,rfl,rfl⟩
 obtain⟨hm,hxl,hR,hrow,hown,hlo,hfr,AE,hbd,hLe,hfi⟩:=hI
 obtain⟨z,hz,hb⟩:=hR
 obtain⟨hlt,hg⟩:=yA.1 hb
 by_cases hi:i<N
 ·have q1:(i:Int)<n:=by omega
  cases hst:st.bad with
  |true=>
   rw[hst]at hb hg
   have dO:bV σ id st:=⟨z,hz,by rw[hst];exact hb⟩
   rw[AF _ _ hst,yAl]at hfi
   obtain⟨ys,hys⟩:=gn (aG st.aJ)
   rw[hys]at hb hg
   have hfs:=rK Em.aP 5 (sz 5 xs) xs (by unfold sz;by_cases h:xs=[];exact .inl h;exact .inr (if_neg (fun e=>h (yAf e)))) tok
   have gx:=An @q1 (An @hb (@hg))
   refine aC ?_
   clear gx
   exact⟨_,_,rfl,by rw[hfi];exact hfs,by rw[hfi];exact dO,hlo,hfr⟩
  |false=>
   rw[hst]at hb hg
   have dO:bV σ id st:=⟨z,hz,by rw[hst];exact hb⟩
   obtain⟨cB,k7,R7,l7,f7⟩:=H2.at dO (by omega)
   have hu:=AG.use st
   have sS:=AG.len st
   have hdl:bG jI (N-i) st=((jI st).1::(bG jI (N-(i+1)) (jI st).2).1,(bG jI (N-(i+1)) (jI st).2).2):=by
    rw[show N-i=(N-(i+1))+1 by omega]
    simp[bG,hst]
   rw[hdl]at hfi
   obtain⟨x,hx⟩:=gn ((jI st).1)
   obtain⟨dZ,pU⟩:=gn ((jI st).2)
   rw[hx]at k7 hfi
   rw[pU]at R7 hfi hu sS
   have hs1:=hsp x
   have iO:gG prog 34 1 (List.map (fun q=>(q.1,q.2.strip)) [((0:Nat),Em.aP.U x)])=some (.slice 5 [Em.aP.U x] .full):=by
    simp only[List.map_cons,List.map_nil,hs1]
    exact hns x
   have hmap:(xs++[x]).map Em.aP.U=xs.map Em.aP.U++[Em.aP.U x]:=by simp
   obtain⟨ex,hex⟩:=gn (Em.aP.U x)
   rw[hex]at k7 hs1 iO hmap
   simp only[kF]at k7
   have sT:cV cB tok 76 5 (xs.map Em.aP.U).length:=by
    rw[yAe,hxl]
    exact hrow.dH fun q o e h=>by
     rw[f7 q (yA.1 h).1 (by have:=hown q e;omega)]
     exact h
   obtain⟨bQ,bZ,ap,ra,kp,ow⟩:=pY (P:=prog) (t:=34) (e:=76) (k:=5) (b:=48) (s:=sz 5 xs) (p:=ex) (tk:=.any) underlying34 (by kernel_rfl) (by unfold sz;by_cases h:xs=[];exact .inl (by rw[h];rfl);exact .inr (if_neg (fun e=>h (yAf e)))) sT (by rw[yAe];omega) (by rw[yAe];omega)
   obtain⟨ys,hys⟩:=gn (aG st.aJ)
   rw[hys]at hb hg
   have hsz:sz 5 (xs++[x])=5:=cG (by simp)
   have GW:cB.length<=bZ.length:=by
    rcases Nat.lt_or_ge bZ.length cB.length with h|h
    ·exfalso
     obtain⟨o,ho⟩:∃o,cB[cB.length-1]?=some o:=⟨_,yAh (by omega)⟩
     by_cases e:tok=.own (cB.length-1)
     ·rcases ra with⟨h1,_⟩ | ⟨_,q,h1,h2⟩
      ·omega
      ·have h3:=(yA.1 h2).1
       rcases ow q h1 with h4|h4
       ·rw[e]at h4;cases h4;omega
       ·omega
     ·have h3:=(yA.1 (kp _ _ e ho)).1
      omega
    ·exact h
   have nL:∀j,j<cB.length->tok≠.own j->bZ[j]?=cB[j]?:=fun j h1 h2=>by rw[kp j _ h2 (yAh h1),yAh h1]
   have sU:tok≠.own id:=fun e=>by
    have:=hown id e
    omega
   have hlow:∀j,j<τ.length->tok≠.own j:=fun j hj e=>by
    have:=hown j e
    omega
   have sV:∀q,bQ=.own q->τ.length<=q:=fun q e=>by
    rcases ow q e with h|h
    ·exact hown q h
    ·omega
   have sW:bV bZ id dZ:=R7.dH (nL id R7.lt sU)
   have sX:cV bZ bQ 76 5 (i+1):=by rw[yAe,hxl]at ra;exact ra
   have sY:∀j,j<τ.length->j≠id->bZ[j]?=τ[j]?:=fun j h1 h2=>by rw[nL j (by omega) (hlow j h1),f7 j (by omega) h2];exact hfr j h1 h2
   have s6:8*(i+1)<=s.aJ.length+8:=by have:=hbd hst;omega
   have s7:dZ.bad=false->dZ.aJ.length+8*(i+1)<=s.aJ.length:=fun h=>by have:=hu h;have:=hbd hst;omega
   have s8:fin=((xs++[x])++(bG jI (N-(i+1)) dZ).1,(bG jI (N-(i+1)) dZ).2):=by rw[hfi];simp
   have gx:=An @q1 (An @hb (@hg))
   refine aC ?_
   clear gx
   first|refine Wp.seq ?_|skip
   apply Wp.jQ
   have gx:=An @h2 (An @k7 (An @hs1 (@ap)))
   refine iN ?_
   clear gx
   apply SQ.nil
   have gx:=An @q1 (An @hb (@hg))
   refine aC ?_
   clear gx
   refine bP.normal (m-1) (by omega) (by refine⟨i+1,xs++[x],bQ,dZ,bZ,?_⟩;exact cW (⟨by omega,by simp[hxl],sW,sX,sV,by omega,sY,s6,s7,by omega,s8⟩) (by(first|rfl|(simp[hmap,hsz];repeat(first|rfl|(apply And.intro)))|(simp[hmap,hsz];done))) (by(first|rfl|(simp[hmap,hsz];repeat(first|rfl|(apply And.intro)))|(simp[hmap,hsz];done))))
 ·have q1:¬(i:Int)<n:=by omega
  have dO:bV σ id st:=⟨z,hz,hb⟩
  rw[show N-i=0 by omega]at hfi
  simp only[bG,yAl]at hfi
  have hfs:=rK Em.aP 5 (sz 5 xs) xs (by unfold sz;by_cases h:xs=[];exact .inl h;exact .inr (if_neg (fun e=>h (yAf e)))) tok
  have gx:=@q1
  refine aC ?_
  clear gx
  exact⟨_,_,rfl,by rw[hfi];exact hfs,by rw[hfi];exact dO,hlo,hfr⟩)
end
end Go.Kz
