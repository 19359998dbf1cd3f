/- Steps of the proof. -/
import Derived.Test.YteegpeenjdgodaaGreatDoorL6b
set_option linter.all false
set_option maxHeartbeats 40000000
set_option maxRecDepth 100000
open Go.Proofs.Tryz
noncomputable section
namespace Go.Kz
open Go Go.Proofs
theorem aEy:aJ XO:=QS.entry
def XP:aE:=XO.add 53 CA
theorem aMr:aF prog XP:=aMs aEy aMq rfl
theorem aEz:aJ XP:=aEy.other (aMt)
def XQ:aE:=XP.add 52 DR
theorem aMu:aF prog XQ:=aMv aEz aMr rfl rfl
theorem aEA:aJ XQ:=aEz.other (aMw)
def XR:aE:=XQ.add 55 CB
theorem aMx:aF prog XR:=aMy aEA aMu rfl
theorem aEB:aJ XR:=aEA.other (aMz)
def RC:aE:=XR.add 54 DS
theorem aEC:aF prog RC:=aMA aEB aMx rfl rfl
theorem XS:aJ RC:=aEB.other (aMB)
def XT:aE:=RC.add 20 gCm
theorem aMC:aF prog XT:=aEC.rF bK λx y z hz=>by obtain⟨h,e⟩:=fO hz;cases e;exact aMD XS rfl rfl rfl rfl x y h.1 h.2.1 h.2.2.1 h.2.2.2
theorem aED:aJ XT:=XS.entry
def XU:aE:=XT.add 88 (fH gJ yU)
theorem aME:aF prog XU:=aMC.uW bK λx y hx hy=>aMF aED rfl x y hx hy
theorem aEE:aJ XU:=aED.entry
def XV:aE:=XU.add 37 (fH Em.aL gS)
theorem aMG:aF prog XV:=aME.uW bK λx y hx hy=>aMH aEE rfl x y hx hy
theorem aEF:aJ XV:=aEE.entry
def XW:aE:=XV.add 57 (fH Em.stop jQ)
theorem aMI:aF prog XW:=aMG.uW bK λx y hx hy=>aMJ aEF rfl rfl x y hx hy
theorem aEG:aJ XW:=aEF.entry
def XX:aE:=XW.add 38 (fH Em.div gT)
theorem aMK:aF prog XX:=aMI.uW bK λx y hx hy=>aML aEG rfl rfl x y hx hy
theorem aEH:aJ XX:=aEG.entry
def XY:aE:=XX.add 15 (fH Em.bB eF)
theorem aMM:aF prog XY:=aMK.uW bK λx y hx hy=>aMN aEH rfl rfl rfl x y hx hy
theorem aEI:aJ XY:=aEH.entry
def XZ:aE:=XY.add 11 MH
theorem aMO:aF prog XZ:=aMM.mR bK λx z hz=>by cases hz;exact aHR aEI rfl x
theorem aEJ:aJ XZ:=aEI.entry
def X1:aE:=XZ.add 67 (entry (cK kI Em.dC λn=>dY (gG n) (some (pO n))))
theorem aMP:aF prog X1:=aMO.mR bK λx z hz=>by obtain⟨h,e⟩:=fO hz;cases e;exact aMQ aEJ rfl x h
theorem aEK:aJ X1:=aEJ.entry
def X2:aE:=X1.add 68 (entry (cK kI Em.dC λn=>dY (gG n) (some (nY n))))
theorem aMR:aF prog X2:=aMP.mR bK λx z hz=>by obtain⟨h,e⟩:=fO hz;cases e;exact aMS aEK rfl x h
theorem aMT:aJ X2:=aEK.entry
def X3:aE:=X2.add 69 GC
theorem aMU:aF prog X3:=aF.pick aMV aMR (yAJ rfl)
theorem aEL:aJ X3:=aMT.entry
def X4:aE:=X3.add 30 RD
theorem aMW:aF prog X4:=aMU.rF bK λx y z hz=>by
 obtain⟨h,e⟩:=fO hz;cases e;obtain⟨a,rfl⟩:∃a:Nat,y=a:=⟨y.toNat,Cj⟩;rw[yBp];exact aMX aEL rfl rfl x h.1 a Cj
theorem aEM:aJ X4:=aEL.entry
def X5:aE:=X4.add 31 MI
theorem aMY:aF prog X5:=aMW.aMZ aEM rfl rfl rfl
theorem aEN:aJ X5:=aEM.entry
def X6:aE:=X5.add 13 zV
theorem aM0:aF prog X6:=aMY.mR bK λx z hz=>by obtain⟨h,e⟩:=fO hz;cases e;exact aM1 aEN rfl rfl rfl x h.1 h.2
theorem aM2:aJ X6:=aEN.entry
def X7:aE:=X6.add 10 RE
theorem aM3:aF prog X7:=aF.pick aM4 aM0 (yAJ rfl)
theorem aM5:aJ X7:=aM2.entry
def X8:aE:=X7.add 76 QT
theorem aM6:aF prog X8:=aK6 aM3
theorem aEO:aJ X8:=aM5.entry
def X9:aE:=X8.add 73 (iX 48 6)
theorem aM7:aF prog X9:=aM8 aEO aM6 rfl
theorem aEP:aJ X9:=IY aEO
def YA:aE:=X9.add 74 (iX 53 5)
theorem aM9:aF prog YA:=aNa aEP aM7 rfl
theorem aEQ:aJ YA:=IY aEP
def YB:aE:=YA.add 75 (iX 58 5)
theorem aNb:aF prog YB:=aNc aEQ aM9 rfl
theorem aER:aJ YB:=IY aEQ
def YC:aE:=YB.add 110 (iX 56 4)
theorem aNd:aF prog YC:=aNe aER aNb rfl
theorem aES:aJ YC:=IY aER
def YD:aE:=YC.add 118 (iX 92 3)
theorem aNf:aF prog YD:=aNg aES aNd rfl
theorem aET:aJ YD:=IY aES
def DT:aE:=YD.add 119 (iX 89 2)
theorem aNh:aF prog DT:=aNi aET aNf rfl
theorem RF:aJ DT:=IY aET
noncomputable def GD:aE:=DT.add 86 (dI prog DT 86)
theorem aNj:aF prog GD:=aNh.pL bK _
theorem YE:aJ GD:=RF.e0
noncomputable def wV:aE:=GD.add 77 (dI prog GD 77)
theorem aEU:aF prog wV:=aNj.pL bK _
theorem aEV:aJ wV:=YE.e0
noncomputable def YF:aE:=wV.add 41 (dI prog wV 41)
theorem aNk:aF prog YF:=aEU.pL bK _
theorem aEW:aJ YF:=aEV.e0
def IZ:aE:=YF.add 111 MJ
theorem aNl:aF prog IZ:=aNk.aBL bK λn w i z hz=>by obtain⟨h,e⟩:=fO hz;cases e;exact aNm aEW rfl n w i h
theorem aEX:aJ IZ:=aEW.entry
noncomputable def I0:aE:=IZ.add 81 (dI prog IZ 81)
theorem aNn:aF prog I0:=aNl.pL bK _
theorem aEY:aJ I0:=aEX.e0
noncomputable def YG:aE:=I0.add 83 (dI prog I0 83)
theorem YH:aF prog YG:=aNn.pL bK _
theorem YI:aJ YG:=aEY.e0
def YJ:aE:=YG.add 112 (gI 48 6)
theorem YK:aF prog YJ:=aF.DU (YH.MK ⟨_,func112,rfl⟩ aEZ) (aF.DU (aNo YI YH rfl) (aNp YI YH rfl))
theorem YL:aJ YJ:=QU YI
def YM:aE:=YJ.add 114 (gI 53 5)
theorem YN:aF prog YM:=aF.DU (YK.MK ⟨_,func114,rfl⟩ aNq) (aF.DU (aNr YL YK rfl) (aNs YL YK rfl))
theorem YO:aJ YM:=QU YL
def YP:aE:=YM.add 120 (gI 58 5)
theorem YQ:aF prog YP:=aF.DU (YN.MK ⟨_,func120,rfl⟩ aNt) (aF.DU (aNu YO YN rfl) (aNv YO YN rfl))
theorem YR:aJ YP:=QU YO
def YS:aE:=YP.add 116 (gI 56 4)
theorem aNw:aF prog YS:=aF.DU (YQ.MK ⟨_,func116,rfl⟩ aNx) (aF.DU (aNy YR YQ rfl) (aNz YR YQ rfl))
theorem aNA:aJ YS:=QU YR
def YT:aE:=YS.add 113 (uG 48 6)
theorem aNB:aF prog YT:=aNw.I1 ⟨_,func113,rfl⟩ aNC
theorem aND:aJ YT:=QV aNA
def YU:aE:=YT.add 115 (uG 53 5)
theorem aNE:aF prog YU:=aNB.I1 ⟨_,func115,rfl⟩ aNF
theorem aNG:aJ YU:=QV aND
def YV:aE:=YU.add 121 (uG 58 5)
theorem aNH:aF prog YV:=aNE.I1 ⟨_,func121,rfl⟩ aNI
theorem aNJ:aJ YV:=QV aNG
def I2:aE:=YV.add 117 (uG 56 4)
theorem aNK:aF prog I2:=aNH.I1 ⟨_,func117,rfl⟩ aNL
theorem aE0:aJ I2:=QV aNJ
noncomputable def I3:aE:=I2.add 82 (dI prog I2 82)
theorem aNM:aF prog I3:=aNK.pL bK _
theorem aE1:aJ I3:=aE0.e0
noncomputable def I4:aE:=I3.add 84 (dI prog I3 84)
theorem aNN:aF prog I4:=aNM.pL bK _
theorem aE2:aJ I4:=aE1.e0
noncomputable def I5:aE:=I4.add 87 (dI prog I4 87)
theorem aNO:aF prog I5:=aNN.pL bK _
theorem aE3:aJ I5:=aE2.e0
noncomputable def YW:aE:=I5.add 85 (dI prog I5 85)
theorem aNP:aF prog YW:=aNO.pL bK _
theorem aE4:aJ YW:=aE3.e0
def YX:aE:=YW.add 56 sQ
theorem aNQ:aF prog YX:=aNP.mR bK λx z hz=>by obtain⟨h,e⟩:=fO hz;cases e;exact aK9 aE4 rfl x h
theorem aE5:aJ YX:=aE4.entry
def DW:aE:=YX.add 78 CC
theorem aNR:aF prog DW:=aNQ.mR bK λx z hz=>by obtain⟨h,e⟩:=fO hz;cases e;exact aLb aE5 rfl rfl rfl rfl rfl x h
theorem ML:aJ DW:=aE5.entry
noncomputable def L7:aE:=DW.add 80 (dI prog DW 80)
theorem QR:aF prog L7:=aNR.pL bK _
theorem aDE:aJ L7:=ML.e0
noncomputable def DY:aE:=L7.add 27 (qB (pM prog wU 27))
theorem aNS:aF prog DY:=aF.pick (f:=27) (WH.aDQ bK 27) QR Dk
theorem MM:GF DY:=aNT (Eo:=wU) rfl rfl λo ho=>WI QS rfl rfl rfl rfl rfl rfl o ho
noncomputable def YY:aE:=L7.add 79 (dI prog DY 79)
theorem aE6:aF prog YY:=aF.pick (f:=79) (aNS.pL bK 79) QR Dk
theorem aNU:aJ YY:=aDE.e0
def RG:aE:=YY.add 76 (zX QT)
theorem aNV:aF prog RG:=aF.le (aF.pick (f:=76) (g:=QT) QR aE6 rfl) aE6 λfl args σ x h=>by
 unfold zX at h;split at h
 .exact h
 .cases h
theorem I6:aJ RG:=aNW aNU _
theorem I7:∀(o:aV) (ho:eF o) (τ:List aA),aK prog wV 0 (.inl 41) [Em.bB.aB o] τ (λp σ'=>(∃iR iD iC ds tS tss tG tgs tW,iY σ' τ.length o p iR iD iC ds tS tss tG tgs tW)/\τ.length<=σ'.length/\∀id,id<τ.length->σ'[id]?=τ[id]?):=λo ho τ=>
 aNX aEV (E0:=GD) rfl rfl rfl rfl rfl rfl (λd hd τ=>aE7 YE (E0:=DT) rfl rfl rfl (λs hs τ=>YZ RF rfl rfl rfl s hs τ) d hd τ) o ho τ
theorem aNY:Y0 I2 qC:=aNZ aE0 rfl rfl rfl
theorem aN0:Y1 I3 qD DV:=aN1 aE1 rfl rfl rfl
theorem aN2:Y2 I4 o0:=aN3 aE2 rfl rfl rfl
theorem aN4:Y3 I5:=aN5 aE3 rfl rfl rfl
theorem aN6:Y4 IZ:=aN7 aEX rfl rfl
theorem aN8:Y5 I0:=aN9 aEY rfl rfl
theorem aOa:Y6 DT:=aOb RF rfl rfl rfl
theorem aOc:Y7 GD DV:=aOd YE (E0:=DT) RF rfl rfl rfl rfl rfl rfl
theorem aOe(o:aV)(x:cF)(ho:lA o)(hx:kL x):RunT prog RG 42 [Em.bB.aB o,Em.edit.aB x] ((Em.bB.nT i64).aB (lB o x)):=by
 have hok:=ho.cL;have hoO:=hok.eF;have hsh:=ho.short;obtain⟨b1,b2,b3,b4⟩:=ho.bounds;unfold lB
 by_cases hf:gX x≠0
 .rw[yAJ hf];obtain⟨p,σ,h1,h2⟩:=(aOf I6 rfl rfl o x hx.dW hf).ex;exact xS h1 h2
 rw[yAI hf];have hf:gX x=0:=by simpa using hf
 have hk:1<=x.kind/\x.kind<=13:=by
  exact xz
 by_cases eW:x.kind=13
 .rw[yAJ eW];obtain⟨p,σ,h1,P1,P2,P3,h2,l1,l2,l3⟩:=(aOg I6 (E1:=wV) (E4:=DY) rfl rfl rfl I7 rfl MM (λσ lo o p iR iD iC ds tS tss tG tgs tW hO _ hs=>⟨qC.qE (sS hO hs).1,qD.qE (sS hO hs).2.1,o0.qE (sS hO hs).2.2⟩) o x hoO hsh hx.dW hf eW (oL.cL ⟨hx.1,ho.2.aR,ho.2.aD,ho.2.aP⟩ (show o.aR.length<=1000000 by omega) (show o.aD.length<=1000000 by omega) (show o.aP.length<=1000000 by omega))).ex;exact IT h1 h2 l1 l2 l3
 rw[yAI eW];have aWz:1<=x.kind/\x.kind<=12:=Cj;obtain⟨wy,hwy⟩:=gn ((x.kind-1)%3)
 by_cases t0:(x.kind-1)/3=0
 .rw[yAJ t0];obtain⟨p,σ,h1,hp⟩:=(aOh I6 (E1:=wV) (E2:=DW) (E3:=I2) (E4:=DY) (E5:=IZ) rfl rfl rfl I7 rfl rfl ML rfl rfl (qC:=qC) rfl aNY rfl aN6 rfl rfl MM (λσ lo o p iR iD iC ds tS tss tG tgs tW hO _ hs=>⟨(sS hO hs).1,qD.qE (sS hO hs).2.1,o0.qE (sS hO hs).2.2⟩) o x hoO hsh hx.dW hf Cj
   (λd hd s hs g hg w hw=>by have:=ho.aQ d hd s hs g hg w hw;omega) (λ_=>(aE8 ho.2 hx.2.1 _ _).cL (yAQ (GA _ _ _ _) Cj) Iz (show o.aP.length<=1000000 by omega))).ex
  exact eu
 rw[yAI t0]
 by_cases t1:(x.kind-1)/3=1
 .rw[yAJ t1];obtain⟨p,σ,h1,hp⟩:=(aOi I6 (E1:=wV) (E2:=DW) (E3:=I3) (E4:=DY) (E5:=I0) (E6:=GD) rfl rfl rfl I7 rfl rfl ML rfl rfl (qD:=qD) (DV:=DV) rfl aN0 rfl aN8 rfl aOc rfl MM (λσ lo o p iR iD iC ds tS tss tG tgs tW hO _ hs=>⟨qC.qE (sS hO hs).1,(sS hO hs).2.1,o0.qE (sS hO hs).2.2⟩) o x hoO hsh hx.dW hf Cj
   (λσ σ2 P l h _ hk=>h.aM λid t n v cs _ hy=>(hk id (yA.1 hy).1).trans hy) (λc hc=>by have:=ho.ends c hc;omega) (λ_=>(aE9 ho.2 hx.2.2.1 _ _).cL (show o.aR.length<=1000000 by omega) (yAQ (GA _ _ _ _) Cj) Ja)).ex
  exact eu
 rw[yAI t1]
 by_cases t2:(x.kind-1)/3=2
 .rw[yAJ t2];obtain⟨p,σ,h1,hp⟩:=(aOj I6 (E1:=wV) (E2:=DW) (E3:=I5) (E4:=DY) (E6:=DT) rfl rfl rfl I7 rfl rfl ML rfl rfl rfl aN4 rfl aOa rfl MM o x hoO hsh hx.dW hf Cj
   (λhd=>(WJ ho.2 hx.2.2.2.1 _ _ _ hd (by have:=b4 _ (ME hd cX);omega)).cL (show o.aR.length<=1000000 by omega) Is (show o.aP.length<=1000000 by omega))).ex
  rcases hp with⟨hb,h2⟩ | ⟨hb,P1,P2,P3,h2,l1,l2,l3⟩
  .rw[yAI hb];exact xS h1 h2
  .rw[yAJ hb];exact IT h1 h2 l1 l2 l3
 rw[yAI t2];obtain⟨p,σ,h1,hp⟩:=(aOk I6 (E1:=wV) (E2:=DW) (E3:=I4) (E4:=DY) rfl rfl rfl I7 rfl rfl ML rfl rfl (o0:=o0) rfl aN2 rfl MM (λσ lo o p iR iD iC ds tS tss tG tgs tW hO _ hs=>⟨qC.qE (sS hO hs).1,qD.qE (sS hO hs).2.1,(sS hO hs).2.2⟩) (λσ σ' P l h k _=>h.aM (k.mono λt ht=>ht.elim id False.elim)) o x hoO hsh hx.dW hf Cj
  ((WK ho.2 hx.2.2.2.2 _ _).cL (show o.aR.length<=1000000 by omega) (show o.aD.length<=1000000 by omega) (yAQ (GA _ _ _ _) Cj))).ex
 rw[hwy]at hp ⊢;rcases hp with⟨hb,h2⟩ | ⟨hb1,hb2,P1,P2,P3,h2,l1,l2,l3⟩
 .rw[yAI (λh:fY _ _ _=>by unfold fY at h;rcases hb with hb|hb<;>omega)];exact xS h1 h2
 .rw[yAJ (show fY _ _ _ from⟨hb1,Cj⟩)];exact IT h1 h2 l1 l2 l3
theorem BW{n wy i:Int}(hw:wy=0\/wy=1\/wy=2):((fF n wy i).2=true↔¬(wy=1/\n=i))/\(¬(wy=1/\n=i)->(fF n wy i).1=BY i (vK wy) n):=by
 unfold fF BY vK;rcases hw with rfl|rfl|rfl
 .simp;split<;>simp
 .simp
  by_cases h1:n=i
  .simp[h1]
  .simp only[h1,yAN,yCz,true_implies]
   by_cases h2:i<n
   .rw[yAJ h2,yAJ Cj];exact⟨Ck,Cu⟩
   .rw[yAI h2,yAI Cj];simp
 .simp
theorem aDB{wy i:Int}{o:aV}(hw:wy=0\/wy=1\/wy=2):xP wy i o↔¬(wy=1/\L1 i o):=by
 unfold xP L1
 constructor
 .rintro h ⟨h1,d,hd,s,hs,g,hg,ha⟩
  obtain⟨w,oK,L3⟩:=yCp.1 ha;exact(BW hw).1.1 (h d hd s hs g hg w oK) ⟨h1,by simpa [wT]using L3⟩
 .intro h d hd s hs g hg w oK;refine(BW hw).1.2 λ⟨h1,h2⟩=>h ⟨h1,d,hd,s,hs,g,hg,yCp.2 ⟨w,oK,by simp[wT,h2]⟩⟩
theorem aDC{wy i:Int}{o:aV}(hw:wy=0\/wy=1\/wy=2):(∀c∈o.aP,uC wy i c=true)↔¬(wy=1/\L4 i o):=by
 unfold L4
 constructor
 .rintro h ⟨h1,ha⟩
  obtain⟨c,hc,hc2⟩:=yCp.1 ha;have h3:=h c hc;unfold uC at h3;rw[yAr]at h3;simp only[nW,yBu,yCb]at hc2;rcases hc2 with e|e
  .exact(BW hw).1.1 h3.1 ⟨h1,e⟩
  .exact(BW hw).1.1 h3.2 ⟨h1,e⟩
 .intro h c hc;unfold uC;rw[yAr];exact⟨(BW hw).1.2 λ⟨h1,h2⟩=>h ⟨h1,yCp.2 ⟨c,hc,by simp[nW,h2]⟩⟩,(BW hw).1.2 λ⟨h1,h2⟩=>h ⟨h1,yCp.2 ⟨c,hc,by simp[nW,h2]⟩⟩⟩
theorem aKr{wy i:Int}{r:bH}{o:aV}(hw:wy=0\/wy=1\/wy=2)(h:¬(wy=1/\L1 i o)):IP wy i r o=QP wy i r o:=by
 unfold IP QP;have e:mY (mM i (vK wy)) o=jF wy i o:=by
  unfold mY jF
  congr 1
  refine yAG λd hd=>?_
  unfold xQ sN
  congr 1
  refine yAG λs hs=>?_
  unfold zK zL
  congr 1
  refine yAG λg hg=>?_
  unfold F7 F8
  congr 1
  refine yAG λw oK=>?_
  unfold mM DO;rw[(BW hw).2 λ⟨h1,h2⟩=>h ⟨h1,d,hd,s,hs,g,hg,yCp.2 ⟨w,oK,by simp[wT,h2]⟩⟩]
 rw[e]
theorem aKs{wy i:Int}{r:bI}{o:aV}(hw:wy=0\/wy=1\/wy=2)(h:¬(wy=1/\L4 i o)):IQ wy i r o=QQ wy i r o:=by
 unfold IQ QQ;have e:zM i (vK wy) o=qW wy i o:=by
  unfold zM qW
  congr 1
  refine yAG λc hc=>?_
  unfold oZ zN;rw[(BW hw).2 λ⟨h1,h2⟩=>h ⟨h1,yCp.2 ⟨c,hc,by simp[nW,h2]⟩⟩,(BW hw).2 λ⟨h1,h2⟩=>h ⟨h1,yCp.2 ⟨c,hc,by simp[nW,h2]⟩⟩]
 rw[e]
theorem aKt{f:dL->dL}{d:bI}(h:sP d):sP (xQ f d):=by
 obtain⟨h1,h2,h3⟩:=h;refine⟨h1,by unfold xQ;rw[yAe];exact h2,λs hs=>?_⟩;obtain⟨t,ht,rfl⟩:=yAw.1 hs;obtain⟨⟨k1,k2⟩,k3⟩:=h3 t ht;refine⟨⟨by unfold zK;rw[yAe];exact k1,λg hg=>?_⟩,k3⟩;obtain⟨q,hq,rfl⟩:=yAw.1 hg;have:=k2 q hq;unfold wE yU F7 at *;rw[yAe];exact this
theorem aKu{o:aV}{r:bH}(h:oL o)(hr:zP r)(wy i:Int):oL (IP wy i r o):=⟨h.name,λq hq=>by
 rcases IS hq with hq|rfl
 .exact h.aR q hq
 .exact hr,λd hd=>by
 obtain⟨t,ht,rfl⟩:=yAw.1 hd;exact aKt (h.aD t ht),h.aP⟩
theorem aKv{o:aV}{d:bI}(h:oL o)(hr:sP d)(wy i:Int):oL (IQ wy i d o):=⟨h.name,h.aR,λq hq=>by
 rcases IS hq with hq|rfl
 .exact h.aD q hq
 .exact hr,λc hc=>by
 obtain⟨t,ht,rfl⟩:=yAw.1 hc;exact h.aP t ht⟩
theorem L6{E:aE}{f:FuncId}{args:Jq}{p:PD}{σ:Jp}{bad conf:Prop}{EO:aV}(h:nQ prog E 0 (.inl f) args [] p σ)(hp:xR bad conf EO p σ) :
  (bad/\RunT prog E f args ((Em.bB.nT i64).aB (gE,10)))\/(¬bad/\conf/\RunT prog E f args ((Em.bB.nT i64).aB (gE,14)))\/(¬bad/\¬conf/\RunT prog E f args ((Em.bB.nT i64).aB (uE EO))):=by
 obtain⟨n,r,d,c⟩:=EO;rcases hp with⟨hb,h2⟩ | ⟨hb,hc,h2⟩ | ⟨hb,hc,P1,P2,P3,h2,l1,l2,l3⟩
 .exact .inl ⟨hb,xS h h2⟩
 .exact .inr (.inl ⟨hb,hc,xS h h2⟩)
 .exact .inr (.inr ⟨hb,hc,IT h h2 l1 l2 l3⟩)
def WB:aE:=L7
theorem aKw:aF prog WB:=QR
theorem aDD:aJ WB:=aDE
def WC:aE:=WB.add 39 rM
theorem aKx:aF prog WC:=aKw.mR bK λx z hz=>by obtain⟨h,e⟩:=fO hz;cases e;exact aKy aDD rfl x h
theorem aDF:aJ WC:=aDD.entry
def WD:aE:=WC.add 45 F9
theorem aKz:aF prog WD:=aKx.aBL bK λw i n z hz=>by cases hz;exact aKA aDF rfl w i n
theorem aDG:aJ WD:=aDF.entry
def WE:aE:=WD.add 22 (fH Em.edit dW)
theorem aKB:aF prog WE:=aKz.rF bK λx y z hz=>by obtain⟨h,e⟩:=fO hz;cases e;exact aKC aDG rfl rfl rfl rfl x y h.1 h.2
theorem aDH:aJ WE:=aDG.entry
def BT:aE:=WE.add 43 BZ
theorem aDI:aF prog BT:=aKB.mR bK λx z hz=>by obtain⟨h,e⟩:=fO hz;cases e;exact aKD aDH rfl rfl rfl x h.1 h.2
theorem WG:aJ BT:=aDH.entry
noncomputable def zQ:aE:=BT.add 40 (dI prog BT 40)
theorem aKE:aF prog zQ:=aDI.pL bK _
theorem aDJ:aJ zQ:=WG.e0
noncomputable def IU:aE:=zQ.add 44 (dI prog zQ 44)
theorem aKF:aF prog IU:=aKE.pL bK _
theorem aDK:aJ IU:=aDJ.e0
noncomputable def IV:aE:=IU.add 46 (dI prog IU 46)
theorem aKG:aF prog IV:=aKF.pL bK _
theorem aDL:aJ IV:=aDK.e0
noncomputable def L8:aE:=IV.add 48 (dI prog IV 48)
theorem aKH:aF prog L8:=aKG.pL bK _
theorem aDM:aJ L8:=aDL.e0
noncomputable def L9:aE:=L8.add 47 (dI prog L8 47)
theorem aKI:aF prog L9:=aKH.pL bK _
theorem aDN:aJ L9:=aDM.e0
noncomputable def MA:aE:=L9.add 49 (dI prog L9 49)
theorem aKJ:aF prog MA:=aKI.pL bK _
theorem aDO:aJ MA:=aDN.e0
noncomputable def MB:aE:=MA.add 51 (dI prog MA 51)
theorem aKK:aF prog MB:=aKJ.pL bK _
theorem aKL:aJ MB:=aDO.e0
noncomputable def aDP:aE:=MB.add 50 (dI prog MB 50)
theorem aKM:aF prog aDP:=aKK.pL bK _
noncomputable def zT:aE:=aDP.add 27 (qB (pM prog wU 27))
theorem aKN:aF prog zT:=aF.pick (f:=27) (WH.aDQ bK 27) aKM Dk
theorem aDA:aDR BT:=λd hd τ=>aKO WG rfl d hd τ
theorem MC:IW zQ:=λo ho τ=>aKP aDJ (E0:=BT) rfl rfl aDA o ho τ
theorem aKQ:aDS IU:=λfm b hb1 o p aS lo iR iD iC ds tS tss tG tgs tW hO hlo ho hb=>aKR aDK rfl fm b hb1 o p aS lo iR iD iC ds tS tss tG tgs tW hO hlo ho hb
theorem aKS:aDT IV:=λfm b hb1 o p aS lo iR iD iC ds tS tss tG tgs tW hO hlo ho hb=>aKT aDL rfl fm b hb1 o p aS lo iR iD iC ds tS tss tG tgs tW hO hlo ho hb
theorem MD:∀o,cL o->aI prog wU 27 [Em.bB.aB o] (i64.aB (bT o)):=λo ho=>WI QS rfl rfl rfl rfl rfl rfl o ho
theorem B6{o:aV}(h:lA o):eF o:=h.cL.eF
theorem aKU(o:aV)(x:cF)(ho:lA o)(hx:kL x):RunT prog zT 18 [Em.bB.aB o,Em.edit.aB x] ((Em.bB.nT i64).aB (lB o x)):=by
 have hoO:=B6 ho;obtain⟨b1,b2,b3,b4⟩:=ho.bounds;unfold lB
 by_cases hk:1<=x.kind/\x.kind<=13
 rotate_left
 .have hf:gX x=12:=by unfold gX;rw[yAJ Cj]
  rw[yAJ (by rw[hf];decide),hf];obtain⟨p,σ,h1,h2⟩:=(aKV (E:=zT) rfl o x hk).ex;exact xS h1 h2
 by_cases hf:gX x≠0
 .rw[yAJ hf];have hf7:gX x=7:=by
   unfold gX at hf ⊢;rw[yAI Cj]at hf ⊢;split
   .rename_i h;rw[yAJ h]at hf;exact absurd rfl hf
   .rfl
  rw[hf7];obtain⟨p,σ,h1,h2⟩:=(aKW (E:=zT) rfl rfl o x hx.dW hk hf).ex;exact xS h1 h2
 rw[yAI hf];have hf:gX x=0:=by simpa using hf
 have hwy:(x.kind-1)%3=0\/(x.kind-1)%3=1\/(x.kind-1)%3=2:=Cj
 by_cases eW:x.kind=13
 .rw[yAJ eW];obtain⟨p,σ,h1,h2⟩:=(aKX (E:=zT) (E1:=zQ) (Eo:=wU) rfl rfl rfl MC rfl rfl MD o x hoO hx.dW hf Cj (oL.cL ⟨hx.1,ho.2.aR,ho.2.aD,ho.2.aP⟩ (show o.aR.length<=1000000 by omega) (show o.aD.length<=1000000 by omega) (show o.aP.length<=1000000 by omega))).ex;rcases L6 h1 h2 with h|h|h
  .exact h.1.elim
  .exact h.2.1.elim
  .exact h.2.2
 rw[yAI eW]
 by_cases t0:(x.kind-1)/3=0
 .rw[yAJ t0];obtain⟨p,σ,h1,h2⟩:=(aKY (E:=zT) (E1:=zQ) (E3:=L8) (E5:=IU) (Eo:=wU) rfl rfl rfl MC rfl rfl rfl (aKZ aDM rfl) rfl aKQ rfl MD o x hoO hx.dW hf Cj Cj (λd hd s hs g hg w hw=>by have:=ho.aQ d hd s hs g hg w hw;omega)
   ((aKu ho.2 hx.2.1 _ _).cL (yAQ (GA _ _ _ _) Cj) Iz (show o.aP.length<=1000000 by omega))).ex
  rcases L6 h1 h2 with⟨hb,h⟩ | ⟨hb,hc,h⟩ | ⟨hb,hc,h⟩
  .rw[yAI hb];exact h
  .rw[yAJ (yDk.1 hb),yAI (λe=>(aDB hwy).1 e hc)];exact h
  .rw[yAJ (yDk.1 hb),yAJ ((aDB hwy).2 hc),<-aKr hwy hc];exact h
 rw[yAI t0]
 by_cases t1:(x.kind-1)/3=1
 .rw[yAJ t1];obtain⟨p,σ,h1,h2⟩:=(aK0 (E:=zT) (E1:=zQ) (E3:=L9) (E5:=IV) (Eo:=wU) rfl rfl rfl MC rfl rfl rfl (aK1 aDN rfl) rfl aKS rfl MD o x hoO hx.dW hf Cj Cj (λc hc=>by have:=ho.ends c hc;omega)
   ((aKv ho.2 hx.2.2.1 _ _).cL (show o.aR.length<=1000000 by omega) (yAQ (GA _ _ _ _) Cj) Ja)).ex
  rcases L6 h1 h2 with⟨hb,h⟩ | ⟨hb,hc,h⟩ | ⟨hb,hc,h⟩
  .rw[yAI hb];exact h
  .rw[yAJ (yDk.1 hb),yAI (λe=>(aDC hwy).1 e hc)];exact h
  .rw[yAJ (yDk.1 hb),yAJ ((aDC hwy).2 hc),<-aKs hwy hc];exact h
 rw[yAI t1]
 by_cases t2:(x.kind-1)/3=2
 .rw[yAJ t2];obtain⟨p,σ,h1,h2⟩:=(aK2 (E:=zT) (E1:=zQ) (E3:=MB) (Eo:=wU) rfl rfl rfl MC rfl rfl rfl (aK3 aKL rfl) rfl MD o x hoO hx.dW hf Cj (λd hd=>by have:=b4 d hd;omega)
   (λhd=>(WJ ho.2 hx.2.2.2.1 _ _ _ hd (by have:=b4 _ (ME hd cX);omega)).cL (show o.aR.length<=1000000 by omega) Is (show o.aP.length<=1000000 by omega))).ex
  exact nh
 rw[yAI t2];obtain⟨p,σ,h1,h2⟩:=(aK4 (E:=zT) (E1:=zQ) (E3:=MA) (Eo:=wU) rfl rfl rfl MC rfl rfl rfl (aK5 aDO rfl) rfl MD o x hoO hx.dW hf Cj Cj
  ((WK ho.2 hx.2.2.2.2 _ _).cL (show o.aR.length<=1000000 by omega) (show o.aD.length<=1000000 by omega) (yAQ (GA _ _ _ _) Cj))).ex
 exact nh
end Go.Kz
end
