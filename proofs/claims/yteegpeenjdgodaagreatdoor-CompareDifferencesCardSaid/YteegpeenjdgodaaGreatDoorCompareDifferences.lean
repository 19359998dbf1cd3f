/-
  CompareDifferences holds: the law answers true, whatever it is handed.
-/
import Derived.Test.YteegpeenjdgodaaGreatDoorUZc
set_option linter.all false
set_option maxHeartbeats 40000000
set_option maxRecDepth 100000
open Go.Proofs.Tryz
noncomputable section
namespace Go.Proofs.YteegpeenjdgodaaGreatDoor
open Go Go.Kz Go.ChangeShapes Go.WideShapes Go.ChangeAt Go.WideMaps Go.WideElems Go.RowKit
set_option maxRecDepth 100000
theorem lifted_CompareDifferences(os:Os)(started:os.Started)(H:Type)(enc:TypeId×Value->H) :
  ReturnsInHanded {} Tryz.checked os 7 .any (fun w args=>(Rows.compareDifferencesSpec.pre enc prog Tryz.f7 [] false w args/\laidMetH prog D7 w)/\sizedMet enc prog Tryz.f7 (OpenSpec.ofChange Rows.compareDifferencesSpec) false w args)
   (Rows.compareDifferencesSpec.post enc prog Tryz.f7 false true false false):=by
 refine aFs (C:=Tryz.checked) (X:=fun w _=>laidMetH prog D7 w) (fun _ _ _ hh h=>h.of_heap hh) own started (by kernel_rfl) func7
  (ChangeSpec.witness_shaped (enc:=enc) (C:=Tryz.checked) (os:=os) (X:=fun w _=>laidMetH prog D7 w) false (YD os) #[.agg #[.slice none 0 0,.slice none 0 0,.slice none 0 0],.agg #[.slice none 0 0,.slice none 0 0,.slice none 0 0]] 12 rfl (World.shaped_of_RefB (by kernel_rfl) (by kernel_rfl)) (by kernel_rfl) (by kernel_rfl) (by kernel_rfl) (aFt os _)) ?_
 intro W base args ds gs before hsh hval hW _ _ hL _
 have hval:∀(j:Nat) t v,Tryz.f7.params[j]?=some t->args[j]?=some v->Value.okWide prog W .any base t v:=hval
 have K4:=hW
 obtain⟨p,q,hA,_,_,_,_⟩:=hW
 have hA:DataW.TrodAll enc prog W 0 (fun _=>true) true Tryz.f7.params.toList args.toList ds p:=hA
 rw[Tryz.params7]at hA hval
 obtain⟨v1,v2,d1,d2,p1,p2,rfl,_,_,h1,h2⟩:=trodAll_two hA
 obtain⟨q1,t1,r1⟩:=YE (n:=12) (t:=26) (v:=v1) (by kernel_rfl) (hval 0 _ _ rfl rfl) h1
 obtain⟨p1',e1,ok1⟩:=YF t1
 rw[e1]at r1
 obtain⟨q2,t2,r2⟩:=YE (n:=12) (t:=26) (v:=v2) (by kernel_rfl) (hval 1 _ _ rfl rfl) h2
 obtain⟨D8,e2,ok2⟩:=YF t2
 rw[e2]at r2
 have run:=aFu aFv rfl rfl rfl rfl rfl rfl rfl rfl rfl p1' D8 ok1 ok2
 refine(aI.calls aFw bK names run (jA hsh hL) (YG r1 (YG r2 aFx))).mono fun e' W' ⟨he,hb⟩=>?_
 subst he
 exact⟨_,rfl,aFy laidOut rfl K4 hb rfl underlying4 (by kernel_rfl) (fun ds hg hd=>by
  subst hg
  match ds,hd with
  | [d1,d2],_=>rfl)⟩
theorem compareDifferences_holds:Rows.CompareDifferencesSaid:=
 OpenClaim.holds_of_wide 7 Tryz.f7 rfl rfl rfl rfl rfl rfl rfl ⟨rfl,rfl,rfl,rfl,rfl⟩ rfl rfl rfl rfl rfl (by kernel_rfl) func7 (by kernel_rfl)
  (of_decide_eq_true (by kernel_rfl)) (by unfold Func.isWrapper;first|(rw[yAJ (by decide +kernel)];kernel_rfl)|(rw[yAI (by decide +kernel)];exact⟨rfl,rfl⟩))
  (fun os started H enc _=>lifted_CompareDifferences os started H enc)
theorem compareDifferences_card:Rows.CompareDifferencesCardSaid:=
 Claim7.holds_tied_plain_at .later [] [.data,.data,.data] true (true,"fb728158b6e916623bad043b76e2826853c2cfa1ed62eb5aad62ad7867ddaab4") false
  compareDifferences_holds (fun _ h=>by cases h) (by kernel_rfl) (fun _ h=>by cases h) compareDifferences_row_tie rfl ⟨rfl,rfl⟩ (by kernel_rfl) rfl
  (fun f fn hf hfn=>by
   obtain rfl:f=7:=yBe ((show prog.funcNamed "bombarde/bombardelaw51.CompareDifferences" = some 7 by kernel_rfl).symm.trans hf) |>.symm
   obtain rfl:fn=Tryz.f7:=(yBe (func7.symm.trans hfn)).symm
   exact⟨by kernel_rfl,fun j t ht=>by
    rw[Tryz.params7]at ht
    have hm:=yDC ht
    have hall:(#[26,26].all fun u=>!prog.wantsStandIn u)=true:=by kernel_rfl
    have:=Array.all_eq_true_iff_forall_mem.1 hall t hm
    exact(show prog.wantsStandIn t=false by simpa using this)⟩)
  (by kernel_rfl)
end Go.Proofs.YteegpeenjdgodaaGreatDoor
end
