/-
  DescriptionOutlines holds: the law answers true, whatever it is handed.
-/
import Derived.Test.YtnogdlnjafblaaaGreatDoorJ2
import Derived.Test.YtnogdlnjafblaaaGreatDoorJ4
set_option linter.all false
set_option maxHeartbeats 40000000
set_option maxRecDepth 100000
open Go.Proofs.Tryz
namespace Go.Proofs.YtnogdlnjafblaaaGreatDoor
open Go Go.Kz Go.ChangeShapes Go.WideShapes Go.ChangeAt Go.WideMaps Go.WideElems Go.RowKit
set_option maxRecDepth 100000
theorem lifted_DescriptionOutlines(os:Os)(started:os.Started)(H:Type)(enc:TypeId×Value->H) :
  ReturnsInHanded {} Tryz.checked os 5 .any (fun w args=>(Rows.descriptionOutlinesSpec.pre enc prog Tryz.f5 [] false w args/\laidMetH prog TU w)/\sizedMet enc prog Tryz.f5 (OpenSpec.ofChange Rows.descriptionOutlinesSpec) false w args)
   (Rows.descriptionOutlinesSpec.post enc prog Tryz.f5 false true false false):=by
 refine aRr (C:=Tryz.checked) (X:=fun w _=>laidMetH prog TU w) (fun _ _ _ hh h=>h.of_heap hh) own started (by kernel_rfl) func5
  (ChangeSpec.witness_shaped (enc:=enc) (C:=Tryz.checked) (os:=os) (X:=fun w _=>laidMetH prog TU w) false (aJc os) #[.agg #[.slice none 0 0,.slice none 0 0,.slice none 0 0]] 12 rfl (World.shaped_of_RefB (by kernel_rfl) (by kernel_rfl)) (by kernel_rfl) (by kernel_rfl) (by kernel_rfl) (aRs os _)) ?_
 intro W base args ds gs before hsh hval hW _ _ hL _
 have hval:∀(j:Nat) t v,Tryz.f5.params[j]?=some t->args[j]?=some v->Value.okWide prog W .any base t v:=hval
 have hW':=hW
 obtain⟨p,q,hA,_,_,_,_⟩:=hW
 have hA:DataW.TrodAll enc prog W 0 (fun _=>true) true Tryz.f5.params.toList args.toList ds p:=hA
 rw[Tryz.params5]at hA hval
 obtain⟨v1,d1,rfl,_,h1⟩:=trodAll_one hA
 obtain⟨q1,t1,r1⟩:=aRt (n:=12) (t:=52) (v:=v1) (by kernel_rfl) (hval 0 _ _ rfl rfl) h1
 obtain⟨p1',e1,ok1⟩:=aRu t1
 rw[e1]at r1
 have run:=aRv aRw rfl rfl rfl rfl rfl rfl p1' ok1
 refine(aJ.calls aRx follows names run (iG hsh hL) (aRy r1 aRz)).mono fun e' W' ⟨he,hb⟩=>?_
 subst he
 exact⟨_,rfl,aRA laidOut rfl hW' hb rfl underlying4 (by kernel_rfl) (fun ds hg hd=>by
  subst hg
  match ds,hd with
  | [d1],_=>rfl)⟩
theorem descriptionOutlines_holds:Rows.DescriptionOutlinesSaid:=
 OpenClaim.holds_of_wide 5 Tryz.f5 rfl rfl rfl rfl rfl rfl rfl ⟨rfl,rfl,rfl,rfl,rfl⟩ rfl rfl rfl rfl rfl (by kernel_rfl) func5 (by kernel_rfl)
  (yDq (by kernel_rfl)) (by unfold Func.isWrapper;first|(rw[yAJ (by decide +kernel)];kernel_rfl)|(rw[yAI (by decide +kernel)];exact⟨rfl,rfl⟩))
  (fun os started H enc _=>lifted_DescriptionOutlines os started H enc)
theorem descriptionOutlines_card:Rows.DescriptionOutlinesCardSaid:=
 Claim7.holds_tied_plain_at .later [] [.data,.data,.data,.data,.pinned] true (true,"8f013cedd3b2edc27d9618cb82c6639f39825c6779d2b69040b393d233581dd0") true
  descriptionOutlines_holds (fun _ h=>by cases h) (by kernel_rfl) (fun _ h=>by cases h) descriptionOutlines_row_tie rfl ⟨rfl,rfl⟩ (by kernel_rfl) rfl
  (fun f fn hf hfn=>by
   obtain rfl:f=5:=yBw ((show prog.funcNamed "bombarde/bombardelaw20.DescriptionOutlines" = some 5 by kernel_rfl).symm.trans hf) |>.symm
   obtain rfl:fn=Tryz.f5:=(yBw (func5.symm.trans hfn)).symm
   exact⟨by kernel_rfl,fun j t ht=>by
    rw[Tryz.params5]at ht
    have hm:=yCX ht
    have hall:(#[52].all fun u=>!prog.wantsStandIn u)=true:=by kernel_rfl
    have:=Array.all_eq_true_iff_forall_mem.1 hall t hm
    exact(show prog.wantsStandIn t=false by simpa using this)⟩)
  (by kernel_rfl)
end Go.Proofs.YtnogdlnjafblaaaGreatDoor
