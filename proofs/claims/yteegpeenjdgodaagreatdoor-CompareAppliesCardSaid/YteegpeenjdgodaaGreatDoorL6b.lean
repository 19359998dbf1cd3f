/- Steps of the proof. -/
import Derived.Test.YteegpeenjdgodaaGreatDoorL6
set_option linter.all false
set_option maxHeartbeats 40000000
set_option maxRecDepth 100000
open Go.Proofs.Tryz
noncomputable section
namespace Go.Kz
open Go Go.Proofs
def QT:Nat->List PD->List aA->Option (PD×List aA):=entry (cK Em.aL Em.aL λr=>dY (gS r) (some r))
theorem aK6{E:aE}(hE:aF prog E)(h0:E 76=none:=by rfl):aF prog (E.add 76 QT):=
 aF.pick (f:=76) (aF.mR (E:=E.add 109 (uF prog 46 1)) (f:=76) (a:=Em.aL) (r:=Em.aL) (F:=λr=>dY (gS r) (some r)) (aF.pick aDU hE rfl) bK λr z hz=>by
  obtain⟨h,e⟩:=fO hz;cases e;exact aK7 (by unfold aE.add;rw[yAI Cn];exact h0) Dk r h) hE (by unfold aE.add;rw[yAJ rfl];rfl)
theorem aK8(e k:Nat):xT (gI e k):=by
 refine xT.or ?_ (xT.or ?_ ?_)
 .intro fl args σ p σ' h;unfold zU at h;exact ij
 .intro fl args σ p σ' h;unfold xU at h;exact ij
 .intro fl args σ p σ' h;unfold B7 at h;split at h
  rotate_left
  .cases h
  split at h
  rotate_left
  .cases h
  simp only[yAb,yAc]at h;rw[<-h.2];simp
theorem QU{e k:Nat}{E:aE}(hU:aJ E){f:FuncId}:aJ (E.add f (gI e k)):=hU.aDV (aK8 e k)
theorem QV{e k:Nat}{E:aE}(hU:aJ E){f:FuncId}:aJ (E.add f (uG e k)):=hU.aDV (by
 intro fl args σ p σ' h;unfold uG at h;split at h
 rotate_left
 .cases h
 split at h
 rotate_left
 .cases h
 rename_i hq;split at h
 rotate_left
 .cases h
 simp only[yAb,yAc]at h;rw[<-h.2];intro e;have h1:=yAL List.length e;rw[yAD,yAO]at h1;rw[yAf h1]at hq;cases hq)
theorem aK9{E:aE}(hU:aJ E)(h0:E 56=none)(x:cF)(h:1<=x.kind/\x.kind<=13):aI prog E 56 [Em.edit.aB x] ((i64.nT i64).aB ((x.kind-1)/3,(x.kind-1)%3)):=by
 obtain⟨kd,hkd⟩:∃kd:Nat,x.kind=(kd:Int)+1:=⟨(x.kind-1).toNat,Cj⟩;obtain⟨p,σ,h1,h2⟩:=(aLa hU h0 kd Cj x.div x.idx x.name x.aL.name x.aL.kH x.frame.name x.stop.name x.aZ.name x.aL.num x.aL.den x.aL.first x.frame.low x.frame.high x.stop.num x.stop.den x.aZ.dK x.aZ.dst x.aZ.shift x.frame.dO x.aZ.qJ (sz 1 x.aL.mG) (sz 4 x.frame.stops) (sz 3 x.stop.aN) (x.aL.mG.map i64.aB) (x.frame.stops.map Em.stop.aB) (x.stop.aN.map Em.eZ.aB)).ex;refine⟨p,σ,?_,?_⟩
 .rw[bZ,hkd];simp only[aU];exact h1
 .rw[h2,hkd,show(kd:Int)+1-1=(kd:Int) by omega,show(kd:Int)/3=((kd/3:Nat):Int) by omega,show(kd:Int)%3=((kd%3:Nat):Int) by omega];rfl
theorem aLb{E:aE}(hU:aJ E)(h0:E 78=none)(h1:E 56=some sQ)(h2:E 33=some (fH Em.aL gS))(h3:E 35=some (fH Em.div gT))(h4:E 72=some (fH Em.stop jQ))(x:cF)(h:dW x) :
  aI prog E 78 [Em.edit.aB x] (i64.aB (gX x)):=by
 unfold gX
 by_cases hb:x.kind<1\/13<x.kind
 .rw[yAJ hb];exact aLc hU h0 x hb
 .rw[yAI hb];exact aLd hU h0 h1 h2 h3 h4 x ⟨Cj,Cj⟩ h
def WM:aE:=λ_=>none
theorem aLe:aF prog WM:=λ_ hg=>by cases hg
theorem aDW:aJ WM:=aJ.none
def WN:aE:=WM.add 70 (fH gH KI)
theorem aLf:aF prog WN:=aLe.uW bK λx y hx hy=>aLg aDW rfl x y hx hy
theorem aDX:aJ WN:=aDW.entry
def WO:aE:=WN.add 108 (fH gJ yU)
theorem aLh:aF prog WO:=aLf.uW bK λx y hx hy=>aLi aDX rfl x y hx hy
theorem aDY:aJ WO:=aDX.entry
def WQ:aE:=WO.add 36 (fH qM OO)
theorem aLj:aF prog WQ:=aLh.uW bK λx y hx hy=>aLk aDY rfl x y hx hy
theorem aDZ:aJ WQ:=aDY.entry
def WR:aE:=WQ.add 33 (fH Em.aL gS)
theorem aLl:aF prog WR:=aLj.uW bK λx y hx hy=>aLm aDZ rfl rfl x y hx hy
theorem aD0:aJ WR:=aDZ.entry
def WS:aE:=WR.add 32 (xH aR OP 33)
theorem aLn:aF prog WS:=aLl.OT bK λx y hx hy=>aLo aD0 rfl rfl x y hx hy
theorem aD1:aJ WS:=aD0.entry
def WT:aE:=WS.add 107 (fH Em.eZ wE)
theorem aLp:aF prog WT:=aLn.uW bK λx y hx hy=>aLq aD1 rfl rfl x y hx hy
theorem aD2:aJ WT:=aD1.entry
def WU:aE:=WT.add 106 (xH oQ OQ 107)
theorem aLr:aF prog WU:=aLp.OT bK λx y hx hy=>aLs aD2 rfl rfl x y hx hy
theorem aD3:aJ WU:=aD2.entry
def WV:aE:=WU.add 72 (fH Em.stop jQ)
theorem aLt:aF prog WV:=aLr.uW bK λx y hx hy=>aLu aD3 rfl rfl x y hx hy
theorem aD4:aJ WV:=aD3.entry
def WW:aE:=WV.add 71 (xH oC OR 72)
theorem aLv:aF prog WW:=aLt.OT bK λx y hx hy=>aLw aD4 rfl rfl x y hx hy
theorem aD5:aJ WW:=aD4.entry
def WX:aE:=WW.add 35 (fH Em.div gT)
theorem aLx:aF prog WX:=aLv.uW bK λx y hx hy=>aLy aD5 rfl rfl x y hx hy
theorem aD6:aJ WX:=aD5.entry
def WY:aE:=WX.add 34 (xH tD OS 35)
theorem aLz:aF prog WY:=aLx.OT bK λx y hx hy=>aLA aD6 rfl rfl x y hx hy
theorem aD7:aJ WY:=aD6.entry
def WZ:aE:=WY.add 14 (fH Em.bB eF)
theorem aLB:aF prog WZ:=aLz.uW bK λx y hx hy=>aLC aD7 rfl rfl rfl rfl x y hx hy
theorem aD8:aJ WZ:=aD7.entry
def W0:aE:=WZ.add 92 QW
theorem aLD:aF prog W0:=aLB.mR bK λx z hz=>by cases hz;exact aLE aD8 rfl x
theorem aD9:aJ W0:=aD8.entry
def W2:aE:=W0.add 60 GB
theorem aLF:aF prog W2:=aLD.mR bK λx z hz=>by obtain⟨h,e⟩:=fO hz;cases e;exact aLG aD9 rfl rfl x h
theorem aEa:aJ W2:=aD9.entry
def W3:aE:=W2.add 96 IX
theorem aLH:aF prog W3:=aLF.mR bK λx z hz=>by cases hz;exact aLI aEa rfl x.1 x.2
theorem aEb:aJ W3:=aEa.entry
def W4:aE:=W3.add 145 QX
theorem aLJ:aF prog W4:=aLH.rF bK λx y z hz=>by
 obtain⟨h,e⟩:=fO hz;cases e;obtain⟨a,rfl⟩:∃a:Nat,x=a:=⟨x.toNat,Cj⟩;obtain⟨b,rfl⟩:∃b:Nat,y=b:=⟨y.toNat,Cj⟩;rw[yBp,yBp];exact aLK aEb rfl a b Cj Cj
theorem aEc:aJ W4:=aEb.entry
def W5:aE:=W4.add 146 QY
theorem aLL:aF prog W5:=aLJ.mR bK λx z hz=>by obtain⟨h,e⟩:=fO hz;cases e;exact aLM aEc rfl x h
theorem aEd:aJ W5:=aEc.entry
def W6:aE:=W5.add 124 QZ
theorem aLN:aF prog W6:=aLL.mR bK λx z hz=>by cases hz;exact aLO aEd rfl rfl rfl x.1 x.2
theorem aEe:aJ W6:=aEd.entry
def W7:aE:=W6.add 93 MF
theorem aLP:aF prog W7:=aLN.mR bK λx z hz=>by cases hz;exact aLQ aEe rfl rfl x.1 x.2
theorem aEf:aJ W7:=aEe.entry
def W8:aE:=W7.add 126 Q0
theorem aLR:aF prog W8:=aLP.mR bK λx z hz=>by cases hz;exact aLS aEf rfl x
theorem aEg:aJ W8:=aEf.entry
def W9:aE:=W8.add 147 Q1
theorem aLT:aF prog W9:=aLR.aEh λl hl=>aLU aEg rfl rfl l hl
theorem aEi:aJ W9:=aEg.entry
def XA:aE:=W9.add 125 Q2
theorem aLV:aF prog XA:=aLT.aEh λl hl=>aLW aEi rfl rfl l hl
theorem aEj:aJ XA:=aEi.entry
def XB:aE:=XA.add 95 Q3
theorem aLX:aF prog XB:=aLV.mR bK λx z hz=>by obtain⟨h,e⟩:=fO hz;cases e;exact aLY aEj rfl rfl x h
theorem aEk:aJ XB:=aEj.entry
def XC:aE:=XB.add 94 Q4
theorem aLZ:aF prog XC:=aLX.mR bK λx z hz=>by cases hz;exact aL0 aEk rfl x
theorem aEl:aJ XC:=aEk.entry
def XD:aE:=XC.add 61 MG
theorem aL1:aF prog XD:=aLZ.mR bK λx z hz=>by obtain⟨h,e⟩:=fO hz;cases e;exact aL2 aEl rfl rfl rfl rfl rfl x h.1 h.2.1 h.2.2
theorem aEm:aJ XD:=aEl.entry
def XE:aE:=XD.add 167 Q5
theorem aL3:aF prog XE:=aL1.rF bK λx y z hz=>by obtain⟨h,e⟩:=fO hz;cases e;exact aL4 aEm rfl x y h
theorem aEn:aJ XE:=aEm.entry
def XF:aE:=XE.add 148 Q6
theorem aL5:aF prog XF:=aL3.rF bK λx y z hz=>by obtain⟨h,e⟩:=fO hz;cases e;exact aL6 aEn rfl rfl x y h
theorem aEo:aJ XF:=aEn.entry
def XG:aE:=XF.add 128 Q7
theorem aL7:aF prog XG:=aL5.rF bK λx y z hz=>by obtain⟨h,e⟩:=fO hz;cases e;exact aL8 aEo rfl rfl x.1 h.1 x.2.1 x.2.2 y h.2
theorem aEp:aJ XG:=aEo.entry
def XH:aE:=XG.add 127 Q8
theorem aL9:aF prog XH:=aL7.mR bK λx z hz=>by obtain⟨h,e⟩:=fO hz;cases e;exact aMa aEp rfl rfl rfl x.1 h.1 h.2 x.2.1 x.2.2
theorem aEq:aJ XH:=aEp.entry
def XI:aE:=XH.add 97 Q9
theorem aMb:aF prog XI:=aL9.rF bK λx y z hz=>by obtain⟨h,e⟩:=fO hz;cases e;exact aMc aEq rfl rfl rfl rfl rfl x.1 h.1 x.2.1 x.2.2 y h.2.1 h.2.2
theorem aEr:aJ XI:=aEq.entry
def XJ:aE:=XI.add 99 B8
theorem aMd:aF prog XJ:=aMe aEr aMb rfl
theorem aEs:aJ XJ:=aEr.other (aMf)
def XK:aE:=XJ.add 129 (vL λnm l=>.int .i64 (eX (jX nm) l 0))
theorem aMg:aF prog XK:=aMh aEs aMd rfl rfl
theorem aEt:aJ XK:=aEs.other (aEu _)
def XL:aE:=XK.add 98 (vL λnm l=>.bool (l.any (jX nm)))
theorem aMi:aF prog XL:=aMj aEt aMg rfl rfl
theorem aEv:aJ XL:=aEt.other (aEu _)
def XM:aE:=XL.add 64 RA
theorem aMk:aF prog XM:=aMi.rF bK λx y z hz=>by obtain⟨h,e⟩:=fO hz;cases e;exact aMl aEv rfl rfl rfl rfl x y h.1 h.2.1 h.2.2
theorem aEw:aJ XM:=aEv.entry
def XN:aE:=XM.add 62 xV
theorem aMm:aF prog XN:=aMn aEw aMk rfl
theorem aEx:aJ XN:=aEw.other (aMo)
def wU:aE:=XN.add 63 RB
theorem WH:aF prog wU:=aMm.rF bK λx y z hz=>by obtain⟨h,e⟩:=fO hz;cases e;exact aMp aEx rfl rfl rfl rfl x h.1 y h.2.2
theorem QS:aJ wU:=aEx.entry
def XO:aE:=wU.add 27 B9
theorem aMq:aF prog XO:=WH.mR bK λx z hz=>by obtain⟨h,e⟩:=fO hz;cases e;exact WI QS rfl rfl rfl rfl rfl rfl x h
end Go.Kz
end
