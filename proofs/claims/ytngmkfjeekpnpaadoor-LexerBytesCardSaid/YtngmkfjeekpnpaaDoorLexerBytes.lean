/-
  LexerBytes holds: the law answers true, whatever it is handed.
-/
import Derived.Test.YtngmkfjeekpnpaaDoorP9
import Derived.Test.YtngmkfjeekpnpaaDoorP3
import Derived.Test.YtngmkfjeekpnpaaDoorP6
set_option linter.all false

/-
  Layer 19: LexerBytes, walked.
-/
namespace Go.Kz
open Go Go.Proofs

variable {E : PExt} (hU : Uni E)
include hU
set_option maxRecDepth 10000
set_option maxHeartbeats 4000000

theorem r_Bytes (h0 : E 6 = none) (h1 : E 12 = some (entry (gf1 .text (tks.tup3 .pos i64) fun s => gif ((s.length : Int) < 4000000000) (some (scanS s)))))
    (h2 : E 11 = some (entry (gf0 .bool (some true))))
    (h3 : E 14 = some (entry (gf3 tks tks .bool .bool fun l r all => gif (l.length ≤ 100000000000) (some (sameTs all l r)))))
    (h4 : E 15 = some (entry (gf1 .text (tks.tup3 .pos i64) fun s => gif (s.length ≤ 10000) (some (scanS s)))))
    (a b how : Int) (hh : 0 ≤ how ∧ how ≤ 255) : Run Tryd.prog E 6 [u8.emb a, u8.emb b, u8.emb how] (Em.bool.emb true) := by
  have fin : ∀ s : List UInt8, s.length ≤ 4 → ∃ x p e, scanS s = (x, p, e) ∧ x.length ≤ 100000000000 ∧ sameTs true x x = true ∧ (s.length : Int) < 4000000000 ∧ s.length ≤ 10000 := by
    intro s hs
    have hlen := scanS_len s
    exact ⟨(scanS s).1, (scanS s).2.1, (scanS s).2.2, rfl, by omega, sameTs_refl true _, by omega, by omega⟩
  apply Run.bodyL h0 Tryd.func6 rfl
  focus (simp [show Tryd.f6.ntmps = _ from rfl, List.replicate]; rfl)
  have key : ∀ s : List UInt8, s.length ≤ 4 → 0 ≤ s.length := fun s _ => Nat.zero_le _
  by_cases c0 : how.tmod 3 = 0
  · obtain ⟨x, p, e, hs, l1, hsm, l2, l3⟩ := fin [120, UInt8.ofNat a.toNat, UInt8.ofNat b.toNat] (by simp)
    have gx := And.intro @h2 (And.intro @c0 (And.intro @h1 (And.intro @h3 (And.intro @h4 (And.intro @hs (And.intro @l1 (And.intro @hsm (And.intro @l2 (@l3)))))))))
    refine goP ?_
    clear gx
    simp (disch := first | omega | (simp; done) | (simp; omega)) [decide_eq_decide] <;> try rfl
  · by_cases c1 : how.tmod 3 = 1
    · obtain ⟨x, p, e, hs, l1, hsm, l2, l3⟩ := fin [UInt8.ofNat a.toNat, 120, UInt8.ofNat b.toNat] (by simp)
      have gx := And.intro @h2 (And.intro @c0 (And.intro @c1 (And.intro @h1 (And.intro @h3 (And.intro @h4 (And.intro @hs (And.intro @l1 (And.intro @hsm (And.intro @l2 (@l3))))))))))
      refine goP ?_
      clear gx
      simp (disch := first | omega | (simp; done) | (simp; omega)) [decide_eq_decide] <;> try rfl
    · obtain ⟨x, p, e, hs, l1, hsm, l2, l3⟩ := fin [UInt8.ofNat a.toNat, UInt8.ofNat b.toNat, 56, 39] (by simp)
      have gx := And.intro @h2 (And.intro @c0 (And.intro @c1 (And.intro @h1 (And.intro @h3 (And.intro @h4 (And.intro @hs (And.intro @l1 (And.intro @hsm (And.intro @l2 (@l3))))))))))
      refine goP ?_
      clear gx
      simp (disch := first | omega | (simp; done) | (simp; omega)) [decide_eq_decide] <;> try rfl
end Go.Kz

/-
  What LexerBytes is handed.
-/
namespace Go.Proofs.YtngmkfjeekpnpaaDoor
open Go Go.Kz Go.ChangeShapes Go.WideShapes Go.ChangeAt Go.WideMaps Go.WideElems Go.RowKit
set_option maxRecDepth 100000
theorem ty_u8 {d : Nat} {qs : List PD} (h : Typed Tryd.prog (d + 2) 5 qs) : ∃ n : Int, asPD Tryd.prog 5 qs = .int .u8 n ∧ 0 ≤ n ∧ n ≤ 255 := by
  obtain ⟨n, rfl, w⟩ := typed_int Tryd.underlying5 h
  exact ⟨n, by rfl, wf_u8 w⟩
end Go.Proofs.YtngmkfjeekpnpaaDoor

/-
  LexerBytes holds: the law answers true, whatever it is handed.
-/
namespace Go.Proofs.YtngmkfjeekpnpaaDoor
open Go Go.Kz Go.ChangeShapes Go.WideShapes Go.ChangeAt Go.WideMaps Go.WideElems Go.RowKit
set_option maxRecDepth 100000

theorem lifted_LexerBytes (os : Os) (started : os.Started) (H : Type) (enc : TypeId × Value → H) :
    ReturnsInHanded {} Tryd.checked os 6 .any (fun w args => (Rows.lexerBytesSpec.pre enc Tryd.prog Tryd.f6 [] false w args ∧ laidMetH Tryd.prog laidL w) ∧ sizedMet enc Tryd.prog Tryd.f6 (OpenSpec.ofChange Rows.lexerBytesSpec) false w args)
      (Rows.lexerBytesSpec.post enc Tryd.prog Tryd.f6 false true false false) := by
  refine handed_shaped (C := Tryd.checked) (X := fun w _ => laidMetH Tryd.prog laidL w) (fun _ _ _ hh h => h.of_heap hh) own started (by kernel_rfl) Tryd.func6
    (ChangeSpec.witness_shaped (enc := enc) (C := Tryd.checked) (os := os) (X := fun w _ => laidMetH Tryd.prog laidL w) false (lexDoor os) #[.int .u8 0, .int .u8 0, .int .u8 0] 12 rfl (World.shaped_of_RefB (by kernel_rfl) (by kernel_rfl)) (by kernel_rfl) (by kernel_rfl) (by kernel_rfl) (door_met os _)) ?_
  intro W base args ds gs before hsh hval hW _ _ hL _
  have hval : ∀ (j : Nat) t v, Tryd.f6.params[j]? = some t → args[j]? = some v → Value.okWide Tryd.prog W .any base t v := hval
  have hW' := hW
  obtain ⟨p, q, hA, _, _, _, _⟩ := hW
  have hA : DataW.TrodAll enc Tryd.prog W 0 (fun _ => true) true Tryd.f6.params.toList args.toList ds p := hA
  rw [Tryd.params6] at hA hval
  obtain ⟨v1, v2, v3, d1, d2, d3, p1, p2, p3, rfl, _, _, h1, h2, h3⟩ := trodAll_three hA
  obtain ⟨q1, t1, r1⟩ := arg_typed (n := 12) (t := 5) (v := v1) (by kernel_rfl) (hval 0 _ _ rfl rfl) h1
  obtain ⟨a, e1, _⟩ := ty_u8 t1
  rw [e1] at r1
  obtain ⟨q2, t2, r2⟩ := arg_typed (n := 12) (t := 5) (v := v2) (by kernel_rfl) (hval 1 _ _ rfl rfl) h2
  obtain ⟨b, e2, _⟩ := ty_u8 t2
  rw [e2] at r2
  obtain ⟨q3, t3, r3⟩ := arg_typed (n := 12) (t := 5) (v := v3) (by kernel_rfl) (hval 2 _ _ rfl rfl) h3
  obtain ⟨how, e3, hh⟩ := ty_u8 t3
  rw [e3] at r3
  have run := r_Bytes En2_uni rfl rfl rfl rfl rfl a b how hh
  refine (Run.calls En2_ok follows names run (glob hsh hL) (vrs_cons r1 (vrs_cons r2 (vrs_cons r3 vrs_nil)))).mono fun e' W' ⟨he, hb⟩ => ?_
  subst he
  exact ⟨_, rfl, law_post laidOut rfl hW' hb rfl Tryd.underlying4 (by kernel_rfl) (fun ds hg hd => by
    subst hg
    match ds, hd with
    | [d1, d2, d3], _ => rfl)⟩

theorem lexerBytes_holds : Rows.LexerBytesSaid :=
  OpenClaim.holds_of_wide 6 Tryd.f6 rfl rfl rfl rfl rfl rfl rfl ⟨rfl, rfl, rfl, rfl, rfl⟩ rfl rfl rfl rfl rfl (by kernel_rfl) Tryd.func6 (by kernel_rfl)
    (of_decide_eq_true (by kernel_rfl)) (by unfold Func.isWrapper; first | (rw [if_pos (by decide +kernel)]; kernel_rfl) | (rw [if_neg (by decide +kernel)]; exact ⟨rfl, rfl⟩))
    (fun os started H enc _ => lifted_LexerBytes os started H enc)

theorem lexerBytes_card : Rows.LexerBytesCardSaid :=
  Claim7.holds_tied_plain_at .later [] [.data, .data, .data, .data, .pinned] true (true, "c0be699b855568e9df29e407351f013d4f347c995e2c35068880bb9fe0430a49") false
    lexerBytes_holds (fun _ h => by cases h) (by kernel_rfl) (fun _ h => by cases h) lexerBytes_row_tie rfl ⟨rfl, rfl⟩ (by kernel_rfl) rfl
    (fun f fn hf hfn => by
      obtain rfl : f = 6 := Option.some.inj ((show Tryd.prog.funcNamed "bombarde/bombardelaw19.LexerBytes" = some 6 by kernel_rfl).symm.trans hf) |>.symm
      obtain rfl : fn = Tryd.f6 := (Option.some.inj (Tryd.func6.symm.trans hfn)).symm
      exact ⟨by kernel_rfl, fun j t ht => by
        rw [Tryd.params6] at ht
        have hm := Array.mem_of_getElem? ht
        have hall : (#[5, 5, 5].all fun u => !Tryd.prog.wantsStandIn u) = true := by kernel_rfl
        have := Array.all_eq_true_iff_forall_mem.1 hall t hm
        exact (show Tryd.prog.wantsStandIn t = false by simpa using this)⟩)
    (by kernel_rfl)
end Go.Proofs.YtngmkfjeekpnpaaDoor
