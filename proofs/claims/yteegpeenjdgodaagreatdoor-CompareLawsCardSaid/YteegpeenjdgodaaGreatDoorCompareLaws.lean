/-
  CompareLaws holds: the law answers true, whatever it is handed.
-/
import Derived.Test.YteegpeenjdgodaaGreatDoorIZc
set_option linter.all false
set_option maxHeartbeats 40000000
set_option maxRecDepth 100000
open Go.Proofs.Tryz
noncomputable section
namespace Go.Proofs.YteegpeenjdgodaaGreatDoor
open Go Go.Kz Go.ChangeShapes Go.WideShapes Go.ChangeAt Go.WideMaps Go.WideElems Go.RowKit
set_option maxRecDepth 100000
theorem lifted_CompareLaws(os:Os)(started:os.Started)(H:Type)(enc:TypeId×Value->H) :
  ReturnsInHanded {} Tryz.checked os 8 .any (fun w args=>(Rows.compareLawsSpec.pre enc prog Tryz.f8 [] false w args/\laidMetH prog FQ w)/\sizedMet enc prog Tryz.f8 (OpenSpec.ofChange Rows.compareLawsSpec) false w args)
   (Rows.compareLawsSpec.post enc prog Tryz.f8 false true false false):=by
 refine aG1 (C:=Tryz.checked) (X:=fun w _=>laidMetH prog FQ w) (fun _ _ _ hh h=>h.of_heap hh) own started (by kernel_rfl) func8
  (ChangeSpec.witness_shaped (enc:=enc) (C:=Tryz.checked) (os:=os) (X:=fun w _=>laidMetH prog FQ w) false (aAi os) #[.agg #[.slice none 0 0,.slice none 0 0,.slice none 0 0],.agg #[.int .i64 0,.int .i64 0,.int .i64 0,.slice none 0 0,.slice none 0 0,.slice none 0 0,.int .u8 0]] 12 rfl (World.shaped_of_RefB (by kernel_rfl) (by kernel_rfl)) (by kernel_rfl) (by kernel_rfl) (by kernel_rfl) (aG2 os _)) ?_
 intro W base args ds gs before hsh hval hW _ _ hL _
 have hval:∀(j:Nat) t v,Tryz.f8.params[j]?=some t->args[j]?=some v->Value.okWide prog W .any base t v:=hval
 have MF:=hW
 obtain⟨p,q,hA,_,_,_,_⟩:=hW
 have hA:DataW.TrodAll enc prog W 0 (fun _=>true) true Tryz.f8.params.toList args.toList ds p:=hA
 rw[Tryz.params8]at hA hval
 obtain⟨v1,v2,d1,d2,p1,p2,rfl,_,_,h1,h2⟩:=trodAll_two hA
 obtain⟨q1,t1,r1⟩:=aAj (n:=12) (t:=26) (v:=v1) (by kernel_rfl) (hval 0 _ _ rfl rfl) h1
 obtain⟨p1',e1,RC⟩:=aAk t1
 rw[e1]at r1
 obtain⟨q2,t2,r2⟩:=aAj (n:=12) (t:=43) (v:=v2) (by kernel_rfl) (hval 1 _ _ rfl rfl) h2
 obtain⟨FT,e2,RD⟩:=aG3 t2
 rw[e2]at r2
 have run:=aG4 aG5 rfl rfl rfl rfl rfl rfl rfl rfl rfl rfl rfl rfl p1' FT RC RD
 refine(aJ.calls aG6 bI names run (jQ hsh hL) (aAl r1 (aAl r2 aG7))).mono fun e' W' ⟨he,hb⟩=>?_
 subst he
 exact⟨_,rfl,aG8 laidOut rfl MF hb rfl underlying4 (by kernel_rfl) (fun ds hg hd=>by
  subst hg
  match ds,hd with
  | [d1,d2],_=>rfl)⟩
theorem compareLaws_holds:Rows.CompareLawsSaid:=
 OpenClaim.holds_of_wide 8 Tryz.f8 rfl rfl rfl rfl rfl rfl rfl ⟨rfl,rfl,rfl,rfl,rfl⟩ rfl rfl rfl rfl rfl (by kernel_rfl) func8 (by kernel_rfl)
  (yDh (by kernel_rfl)) (by unfold Func.isWrapper;first|(rw[yAJ (by decide +kernel)];kernel_rfl)|(rw[yAI (by decide +kernel)];exact⟨rfl,rfl⟩))
  (fun os started H enc _=>lifted_CompareLaws os started H enc)
theorem compareLaws_card:Rows.CompareLawsCardSaid:=
 Claim7.holds_tied_plain_at .later [] [.data,.data,.data] true (true,"fb728158b6e916623bad043b76e2826853c2cfa1ed62eb5aad62ad7867ddaab4") false
  compareLaws_holds (fun _ h=>by cases h) (by kernel_rfl) (fun _ h=>by cases h) compareLaws_row_tie rfl ⟨rfl,rfl⟩ (by kernel_rfl) rfl
  (fun f fn hf hfn=>by
   obtain rfl:f=8:=yAU ((show prog.funcNamed "bombarde/bombardelaw51.CompareLaws" = some 8 by kernel_rfl).symm.trans hf) |>.symm
   obtain rfl:fn=Tryz.f8:=(yAU (func8.symm.trans hfn)).symm
   exact⟨by kernel_rfl,fun j t ht=>by
    rw[Tryz.params8]at ht
    have hm:=yDD ht
    have hall:(#[26,43].all fun u=>!prog.wantsStandIn u)=true:=by kernel_rfl
    have:=Array.all_eq_true_iff_forall_mem.1 hall t hm
    exact(show prog.wantsStandIn t=false by simpa using this)⟩)
  (by kernel_rfl)
end Go.Proofs.YteegpeenjdgodaaGreatDoor
end
