/-
  CompareApplies holds: the law answers true, whatever it is handed.
-/
import Derived.Test.YteegpeenjdgodaaGreatDoorLZ
set_option linter.all false
set_option maxHeartbeats 40000000
set_option maxRecDepth 100000
open Go.Proofs.Tryz
namespace Go.Kz
open Go Go.Proofs
section
variable{E:aE}(hU:aJ E)
include hU
theorem aHI(h0:E 9=none)(h1:E 10=some RE)(h2:E 11=some MH)(h3:E 13=some zV)(h4:E 16=some N8)(h5:E 23=some N9)(h6:E 18=some AQ)
  (h7:E 15=some (fH Em.bB eF)) (h8:E 17=some OA) (h9:E 25=some TU) (h10:E 21=some TT) (h11:E 20=some N7) (h12:E 27=some B9) (eW:E 19=some OC) (h14:E 22=some (fH Em.edit dW))
  (p:pF) (c:rE) (hp:tA p) (hc:yQ c.kind/\tA c.dQ/\gG c.extra):aI prog E 9 [Em.dQ.aB p,Em.change.aB c] (Em.bool.aB true):=by
 have k:=aGw;have fp:=S6 p;have fq:=S6 c.dQ;simp only[qL,aU]at fp fq;cases cp:mF p with
 |false=>
  rw[cp]at fp;simp only[qL,zI,aU];refine aI.aG 143 h0 func9 (h:=?_);refine aC (A4 h1 @k h2 fp) ?_;exact ag
 |true=>
 rw[cp]at fp;cases cq:mF c.dQ with
 |false=>
  rw[cq]at fq;simp only[qL,zI,aU];refine aI.aG 143 h0 func9 (h:=?_);refine aC (A5 h1 @k h2 fp fq) ?_;exact ag
 |true=>
 rw[cq]at fq;have hcg:zJ c:=⟨hc.1,hc.2.1,cq,hc.2.2⟩;have mp:=J0 hp cp;have mc:=aHC hcg;have hR:=F6 hp cp;have hX:=aHF hcg;obtain⟨O,hO⟩:=gn (fU p);obtain⟨X,hXe⟩:=gn (sM c);rw[hO]at mp hR;rw[hXe]at mc hX;clear hO hXe;have hA:rZ O X=lB O X:=by unfold rZ;rw[yAJ hR.1]
 have k5:=aBb hR.cL hX;have k6:=TV hR hX;rw[hA]at k5;have hrt:=aBc hR hX;have her:=aTR (o:=O) (x:=X);obtain⟨⟨W,e⟩,hW⟩:∃r,lB O X=r:=⟨_,rfl⟩;rw[hW]at k5 k6 hrt her;simp only at k5 k6 hrt her;have hWo:cL W:=by
  by_cases hz:e=0
  .exact(hrt hz).cL
  .rw[her hz];exact aBa
 have k7:=oR (a:=Em.bB) (R:=eF) hWo.eF hWo.eF;rw[yAX (rfl:W=W)]at k7;obtain⟨on,rs,dd,cc⟩:=O;have hN:cL ⟨[],rs,dd,cc⟩:=⟨aGq,hR.cL.2⟩;have eN:=aTQ rs dd cc;have EH:rZ ⟨[],rs,dd,cc⟩ X=(gE,8):=by unfold rZ;rw[yAI Iq,eN]
 have OJ:=aBb hN hX;rw[EH]at OJ;have k8:=aA6 (l:=[]) (q:=.slice 0 [] .full) hN (λ_ h=>Co) (yAF _) rfl;have hA3:xF ⟨[],rs,dd,cc⟩ []=(gE,0,8):=by unfold xF;rw[yAI Iq,eN]
 rw[hA3]at k8;have k9:=aTT hWo hN (.inr Iq);have h9e:(if bT W≠0 then bT W else bT ⟨[],rs,dd,cc⟩)=8:=by
  by_cases hz:e=0
  .rw[yAI (λh=>h (hrt hz).1),eN]
  .rw[her hz];rfl
 rw[h9e]at k9;have OK:=aTN hN hX;have hB:HA ⟨[],rs,dd,cc⟩ X=(AR,8):=by unfold HA;rw[EH,yAI Cn]
 rw[hB]at OK;have TW:=aTU (b:=⟨[],rs,dd,cc⟩) hN Iq;rw[eN]at TW;have rR:=EM hWo;have EU:=aHD aBa.eF;rw[yAX rfl]at EU;have TX:=λfl σ=>pH (a:=Em.edit) (R:=dW) (p:=Em.edit.aB AR) (x:=AR) (y:=AR) (q:=.agg [.int .i64 0,.int .i64 0,.int .i64 0,.str [],.str [],.str [],.int .i64 0,.int .i64 0,.int .i64 0,.slice 0 [] .full,.str [],.bool false,.int .i64 0,.int .i64 0,.slice 0 [] .full,.str [],.int .i64 0,.int .i64 0,.slice 0 [] .full,.str [],.int .i64 0,.int .i64 0,.int .i64 0,.bool false]) aA9.dW aA9.dW (Em.edit.str _) rfl fl σ
 rw[yAX rfl]at TX;have zO:Em.bB.aB gE=.agg [.str [],.slice 0 [] .any,.slice 0 [] .any,.slice 0 [] .any]:=rfl;have zE:Em.edit.aB AR=.agg [.int .i64 0,.int .i64 0,.int .i64 0,.str [],.str [],.str [],.int .i64 0,.int .i64 0,.int .i64 0,.slice 0 [] .any,.str [],.bool false,.int .i64 0,.int .i64 0,.slice 0 [] .any,.str [],.int .i64 0,.int .i64 0,.slice 0 [] .any,.str [],.int .i64 0,.int .i64 0,.int .i64 0,.bool false]:=rfl;simp only[zO,zE]at OJ k8 OK EU TX;have hE8:e≠0->bT W=8:=λhz=>by rw[her hz];rfl
 obtain⟨kd,dv,ix,nm,⟨rn,rt,ra,rb,rf,wd⟩,⟨fn,fp2,flo,fhi,fs⟩,⟨sn,sa,sb,sg⟩,⟨cn,ca,cb,cs,ct⟩⟩:=X;clear hW hA EH hA3 hB her hrt hR hX eN h9e;obtain⟨wn,wr,wdv,wc⟩:=W;simp only[bZ,dT,qL,zI,aU]at mp mc k5 k6 k7 OJ k8 k9 OK TW rR ⊢
 by_cases hz:e=0
 .subst hz;refine aI.aG 143 h0 func9 (h:=?_);refine aC (A20 h1 @k h2 fp fq h3 @mp h4 mc h5 k5 h6 k6 h7 k7 OJ h8 k8 h9 (A11 k9 h10 OK h11 TW h12 rR eW EU h14 TX)) ?_;exact ag
 .rw[hE8 hz]at rR;refine aI.aG 143 h0 func9 (h:=?_);refine aC (A20 h1 @k h2 fp fq h3 @mp h4 mc h5 k5 h6 k6 h7 k7 OJ h8 k8 h9 (A12 k9 h10 OK h11 TW h12 rR eW EU h14 TX @hz)) ?_;exact ag
end
end Go.Kz
namespace Go.Proofs.YteegpeenjdgodaaGreatDoor
open Go Go.Kz Go.ChangeShapes Go.WideShapes Go.ChangeAt Go.WideMaps Go.WideElems Go.RowKit
set_option maxRecDepth 100000
theorem lifted_CompareApplies(os:Os)(started:os.Started)(H:Type)(enc:TypeId×Value->H) :
  ReturnsInHanded {} Tryz.checked os 9 .any (fun w args=>(Rows.compareAppliesSpec.pre enc prog Tryz.f9 [] false w args/\laidMetH prog AS w)/\sizedMet enc prog Tryz.f9 (OpenSpec.ofChange Rows.compareAppliesSpec) false w args)
   (Rows.compareAppliesSpec.post enc prog Tryz.f9 false true false false):=by
 refine aBd (C:=Tryz.checked) (X:=fun w _=>laidMetH prog AS w) (fun _ _ _ hh h=>h.of_heap hh) own started (by kernel_rfl) func9
  (ChangeSpec.witness_shaped (enc:=enc) (C:=Tryz.checked) (os:=os) (X:=fun w _=>laidMetH prog AS w) false (TY os) #[.agg #[.slice none 0 0,.slice none 0 0,.slice none 0 0],.agg #[.int .i64 0,.int .i64 0,.int .i64 0,.slice none 0 0,.slice none 0 0,.slice none 0 0,.int .u8 0]] 12 rfl (World.shaped_of_RefB (by kernel_rfl) (by kernel_rfl)) (by kernel_rfl) (by kernel_rfl) (by kernel_rfl) (aBe os _)) ?_
 intro W base args ds gs before hsh hval hW _ _ hL _
 have hval:∀(j:Nat) t v,Tryz.f9.params[j]?=some t->args[j]?=some v->Value.okWide prog W .any base t v:=hval
 have HC:=hW
 obtain⟨p,q,hA,_,_,_,_⟩:=hW
 have hA:DataW.TrodAll enc prog W 0 (fun _=>true) true Tryz.f9.params.toList args.toList ds p:=hA
 rw[Tryz.params9]at hA hval
 obtain⟨v1,v2,d1,d2,p1,p2,rfl,_,_,h1,h2⟩:=trodAll_two hA
 obtain⟨q1,t1,r1⟩:=OL (n:=12) (t:=26) (v:=v1) (by kernel_rfl) (hval 0 _ _ rfl rfl) h1
 obtain⟨p1',e1,KB⟩:=TZ t1
 rw[e1]at r1
 obtain⟨q2,t2,r2⟩:=OL (n:=12) (t:=43) (v:=v2) (by kernel_rfl) (hval 1 _ _ rfl rfl) h2
 obtain⟨CU,e2,KC⟩:=aBf t2
 rw[e2]at r2
 have run:=aHI aBg rfl rfl rfl rfl rfl rfl rfl rfl rfl rfl rfl rfl rfl rfl rfl p1' CU KB KC
 refine(aI.calls aBh bK names run (kG hsh hL) (OM r1 (OM r2 aBi))).mono fun e' W' ⟨he,hb⟩=>?_
 subst he
 exact⟨_,rfl,aBj laidOut rfl HC hb rfl underlying4 (by kernel_rfl) (fun ds hg hd=>by
  subst hg
  match ds,hd with
  | [d1,d2],_=>rfl)⟩
theorem compareApplies_holds:Rows.CompareAppliesSaid:=
 OpenClaim.holds_of_wide 9 Tryz.f9 rfl rfl rfl rfl rfl rfl rfl ⟨rfl,rfl,rfl,rfl,rfl⟩ rfl rfl rfl rfl rfl (by kernel_rfl) func9 (by kernel_rfl)
  (of_decide_eq_true (by kernel_rfl)) (by unfold Func.isWrapper;first|(rw[yAJ (by decide +kernel)];kernel_rfl)|(rw[yAI (by decide +kernel)];exact⟨rfl,rfl⟩))
  (fun os started H enc _=>lifted_CompareApplies os started H enc)
theorem compareApplies_card:Rows.CompareAppliesCardSaid:=
 Claim7.holds_tied_plain_at .later [] [.data,.data,.data] true (true,"fb728158b6e916623bad043b76e2826853c2cfa1ed62eb5aad62ad7867ddaab4") false
  compareApplies_holds (fun _ h=>by cases h) (by kernel_rfl) (fun _ h=>by cases h) compareApplies_row_tie rfl ⟨rfl,rfl⟩ (by kernel_rfl) rfl
  (fun f fn hf hfn=>by
   obtain rfl:f=9:=yAR ((show prog.funcNamed "bombarde/bombardelaw51.CompareApplies" = some 9 by kernel_rfl).symm.trans hf) |>.symm
   obtain rfl:fn=Tryz.f9:=(yAR (func9.symm.trans hfn)).symm
   exact⟨by kernel_rfl,fun j t ht=>by
    rw[Tryz.params9]at ht
    have hm:=yDn ht
    have hall:(#[26,43].all fun u=>!prog.wantsStandIn u)=true:=by kernel_rfl
    have:=yEo.1 hall t hm
    exact(show prog.wantsStandIn t=false by simpa using this)⟩)
  (by kernel_rfl)
end Go.Proofs.YteegpeenjdgodaaGreatDoor
