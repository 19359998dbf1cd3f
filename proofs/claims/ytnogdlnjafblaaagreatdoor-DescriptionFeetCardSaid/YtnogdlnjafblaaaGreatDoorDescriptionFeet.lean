/-
  DescriptionFeet holds: the law answers true, whatever it is handed.
-/
import Derived.Test.YtnogdlnjafblaaaGreatDoorL2
import Derived.Test.YtnogdlnjafblaaaGreatDoorL1
set_option linter.all false
set_option maxHeartbeats 40000000
set_option maxRecDepth 100000
open Go.Proofs.Tryz
namespace Go.Proofs.YtnogdlnjafblaaaGreatDoor
open Go Go.Kz Go.ChangeShapes Go.WideShapes Go.ChangeAt Go.WideMaps Go.WideElems Go.RowKit
set_option maxRecDepth 100000
theorem lifted_DescriptionFeet(os:Os)(started:os.Started)(H:Type)(enc:TypeId×Value->H) :
  ReturnsInHanded {} Tryz.checked os 3 .any (fun w args=>(Rows.descriptionFeetSpec.pre enc prog Tryz.f3 [] false w args/\laidMetH prog QP w)/\sizedMet enc prog Tryz.f3 (OpenSpec.ofChange Rows.descriptionFeetSpec) false w args)
   (Rows.descriptionFeetSpec.post enc prog Tryz.f3 false true false false):=by
 refine aNM (C:=Tryz.checked) (X:=fun w _=>laidMetH prog QP w) (fun _ _ _ hh h=>h.of_heap hh) own started (by kernel_rfl) func3
  (ChangeSpec.witness_shaped (enc:=enc) (C:=Tryz.checked) (os:=os) (X:=fun w _=>laidMetH prog QP w) false (aGO os) #[.agg #[.int .i64 0,.int .i64 0]] 12 rfl (World.shaped_of_RefB (by kernel_rfl) (by kernel_rfl)) (by kernel_rfl) (by kernel_rfl) (by kernel_rfl) (aNN os _)) ?_
 intro W base args ds gs before hsh hval hW _ _ hL _
 have hval:∀(j:Nat) t v,Tryz.f3.params[j]?=some t->args[j]?=some v->Value.okWide prog W .any base t v:=hval
 have Z3:=hW
 obtain⟨p,q,hA,_,_,_,_⟩:=hW
 have hA:DataW.TrodAll enc prog W 0 (fun _=>true) true Tryz.f3.params.toList args.toList ds p:=hA
 rw[Tryz.params3]at hA hval
 obtain⟨v1,d1,rfl,_,h1⟩:=trodAll_one hA
 obtain⟨q1,t1,r1⟩:=aNO (n:=12) (t:=23) (v:=v1) (by kernel_rfl) (hval 0 _ _ rfl rfl) h1
 obtain⟨x,e1⟩:=aNP t1
 rw[e1]at r1
 have run:=aNQ aNR rfl rfl rfl rfl rfl rfl x
 refine(aI.calls aNS follows names run (gU hsh hL) (aNT r1 aNU)).mono fun e' W' ⟨he,hb⟩=>?_
 subst he
 exact⟨_,rfl,aNV laidOut rfl Z3 hb rfl underlying4 (by kernel_rfl) (fun ds hg hd=>by
  subst hg
  match ds,hd with
  | [d1],_=>rfl)⟩
theorem descriptionFeet_holds:Rows.DescriptionFeetSaid:=
 OpenClaim.holds_of_wide 3 Tryz.f3 rfl rfl rfl rfl rfl rfl rfl ⟨rfl,rfl,rfl,rfl,rfl⟩ rfl rfl rfl rfl rfl (by kernel_rfl) func3 (by kernel_rfl)
  (yDg (by kernel_rfl)) (by unfold Func.isWrapper;first|(rw[yAJ (by decide +kernel)];kernel_rfl)|(rw[yAI (by decide +kernel)];exact⟨rfl,rfl⟩))
  (fun os started H enc _=>lifted_DescriptionFeet os started H enc)
theorem descriptionFeet_card:Rows.DescriptionFeetCardSaid:=
 Claim7.holds_tied_plain_at .later [] [.data,.data,.data,.data,.pinned] true (true,"8f013cedd3b2edc27d9618cb82c6639f39825c6779d2b69040b393d233581dd0") true
  descriptionFeet_holds (fun _ h=>by cases h) (by kernel_rfl) (fun _ h=>by cases h) descriptionFeet_row_tie rfl ⟨rfl,rfl⟩ (by kernel_rfl) rfl
  (fun f fn hf hfn=>by
   obtain rfl:f=3:=yBr ((show prog.funcNamed "bombarde/bombardelaw20.DescriptionFeet" = some 3 by kernel_rfl).symm.trans hf) |>.symm
   obtain rfl:fn=Tryz.f3:=(yBr (func3.symm.trans hfn)).symm
   exact⟨by kernel_rfl,fun j t ht=>by
    rw[Tryz.params3]at ht
    have hm:=yCI ht
    have hall:(#[23].all fun u=>!prog.wantsStandIn u)=true:=by kernel_rfl
    have:=Array.all_eq_true_iff_forall_mem.1 hall t hm
    exact(show prog.wantsStandIn t=false by simpa using this)⟩)
  (by kernel_rfl)
end Go.Proofs.YtnogdlnjafblaaaGreatDoor
