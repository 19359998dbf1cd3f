/- Steps of the proof. -/
import Derived.Test.YtnogdlnjafblaaaGreatDoorJ1
import Derived.Test.YtnogdlnjafblaaaGreatDoorJ3
import Derived.Test.YtnogdlnjafblaaaGreatDoorC2
import Derived.Test.YtnogdlnjafblaaaGreatDoorH5
set_option linter.all false
set_option maxHeartbeats 40000000
set_option maxRecDepth 100000
open Go.Proofs.Tryz
noncomputable section
namespace Go.Kz
open Go Go.Proofs
theorem aF.leD{P:Program}{E:aE}{f:FuncId}{g g':Dj}(h:aF P (E.add f g))(hE:aF P E)(hg:∀fl args σ x,g' fl args σ=some x->g fl args σ=some x):aF P (E.add f g'):=by
 refine⟨fun {F fl f1 g1 args c vs p σ'} hF h1 hgo hs hX hv=>?_,hE.bD⟩;rw[aE.o3]at h1;split at h1
 .rename_i e;subst e;simp only[yAb]at h1;subst h1;exact h.ret hF (by rw[aE.o3,yAJ rfl]) (hg _ _ _ _ hgo) hs hX hv
 .exact hE.ret hF h1 hgo hs hX hv
theorem gPures_strip{args args':Dq}(h:args.map PD.strip=args')(h2:args'.map PD.strip=args'):∀rs:List (List PD×PD),E4 rs args=E4 rs args'
 | []=>rfl
 |r::rs=>by
  unfold E4;rw[h,h2,gPures_strip h h2 rs]
theorem shift_tab:(PI.all λa=>qZ.all λb=>match E4 Z4 [Em.bB.aA a,Em.bB.aA b]with|some p=>vM 40 p (.aI [.int .i64 (E8 a b),.int .i64 0])|none=>false)=true:=zb
theorem shiftD_ok:aF prog (rA.add 101 RR):=by
 refine aVd.leD aLJ λfl args σ x h=>?_
 unfold RR entry cU at h;split at h
 rotate_left
 .cases h
 rename_i p hp;simp only[yAb]at h;subst h;split at hp
 rotate_left
 .cases hp
 rename_i p1 p2;split at hp
 rotate_left
 .cases hp
 rename_i a b ha hb;split at hp
 rotate_left
 .cases hp
 rename_i z hz;obtain⟨⟨h1,h2⟩,e⟩:=cX hz;cases e;simp only[yAb]at hp;subst hp;have e1:=Em.sT ha;have e2:=Em.sT hb;have hs:[p1,p2].map PD.strip=[Em.bB.aA a,Em.bB.aA b]:=by simp only[yAX,yBA,e1,e2]
 have hs2:[Em.bB.aA a,Em.bB.aA b].map PD.strip=[Em.bB.aA a,Em.bB.aA b]:=by simp only[yAX,yBA,Em.bB.str]
 rw[gPures_strip hs hs2];have ht:=yAn.1 (yAn.1 shift_tab a h1) b h2;split at ht
 .rename_i q hq;rw[hq];have:=ZX 40 _ _ ht;rw[this];rfl
 .cases ht
theorem aF.addPullD{E:aE}(hE:aF prog E)(hU:aG E)(h0:E 44=none)(h1:E 100=some (entry (aY jW Em.bB λn=>bE (gG n) (some (mG n)))))(h2:E 101=some RR):aF prog (E.add 44 Z5):=by
 refine hE.OV follows λargs p hg=>?_
 unfold gPl at hg;split at hg
 rotate_left
 .cases hg
 rename_i a b c d;split at hg
 rotate_left
 .cases hg
 rename_i rs lh x i ha hb hc hd;obtain⟨⟨k1,k2,k3,k4,k5,k6,k7,k8,k9⟩,e⟩:=cX hg;cases e;have e1:=Em.sT ha;have e2:=Em.sT hb;have e3:=Em.sT hc;have e4:=Em.sT hd;obtain⟨j,rfl⟩:∃j:Nat,i=j:=⟨i.toNat,ym⟩;rw[yBk];obtain⟨p2,σ2,q1,q2⟩:=aVe hU h0 h1 h2 rs k1 k2 k3 lh.1 lh.2 k4 k5 k6 x k7 j ym;refine⟨p2,σ2,?_,q2,?_,Em.stop.eC _⟩
 .simp only[yAX,yBA,e1,e2,e3,e4];exact q1
 .simp only[yAX,yBA,e1,e2,e3,e4,PD.eV,aU.eC,Em.bB.eC,Em.pull.eC,i64.eC,yCb]
def Dp1:aE:=aFR.add 19 aCA
theorem aVf:aF prog Dp1:=aVg.iD follows λx z hz=>by cases hz;exact aVc aLK rfl x
theorem aLL:aG Dp1:=aLK.entry
def Dp2:aE:=Dp1.add 99 (entry (aY jW Em.bB λn=>bE (gG n) (some (oP n))))
theorem aVh:aF prog Dp2:=aVf.iD follows λx z hz=>by obtain⟨h,e⟩:=cX hz;cases e;exact aVi aLL rfl x h
theorem aLM:aG Dp2:=aLL.entry
def Dp3:aE:=Dp2.add 100 (entry (aY jW Em.bB λn=>bE (gG n) (some (mG n))))
theorem aVj:aF prog Dp3:=aVh.iD follows λx z hz=>by obtain⟨h,e⟩:=cX hz;cases e;exact aVk aLM rfl x h
theorem aVl:aG Dp3:=aLM.entry
def Dp4:aE:=Dp3.add 101 RR
theorem aVm:aF prog Dp4:=aF.pick shiftD_ok aVj rfl
theorem aLN:aG Dp4:=aVl.entry
def Dp5:aE:=Dp4.add 43 gRM
theorem aVn:aF prog Dp5:=aVm.xU follows λx y z hz=>by
 obtain⟨h,e⟩:=cX hz;cases e;obtain⟨a,rfl⟩:∃a:Nat,y=a:=⟨y.toNat,ym⟩;rw[yBk];exact aVo aLN rfl rfl x h.1 a ym
theorem aLO:aG Dp5:=aLN.entry
def Dp6:aE:=Dp5.add 44 Z5
theorem aVp:aF prog Dp6:=aVn.addPullD aLO rfl rfl rfl
theorem aLP:aG Dp6:=aLO.entry
def Dp7:aE:=Dp6.add 20 gMk
theorem aRx:aF prog Dp7:=aVp.iD follows λx z hz=>by obtain⟨h,e⟩:=cX hz;cases e;exact aVq aLP rfl rfl rfl x h.1 h.2
theorem aRw:aG Dp7:=aLP.entry
end Go.Kz
end
