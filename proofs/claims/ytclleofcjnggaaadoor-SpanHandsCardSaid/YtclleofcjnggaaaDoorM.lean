/-
  The table of the functions.
-/
import Derived.Test.YtclleofcjnggaaaDoorL
import Derived.Test.YtclleofcjnggaaaDoorK
set_option linter.all false
namespace Go.Kz
open Go Go.Proofs
set_option maxRecDepth 10000

theorem E0_uni : Uni E0 := Uni.none.entry
noncomputable def E1 : PExt := E0.add 55 (entry (gf1 .bv64 i64 fun x => some (tz x : Int)))
theorem E1_uni : Uni E1 := E0_uni.entry
theorem E1_ok : ExtOk Tryd.prog E1 := E0_ok.add1 follows (fun x z hz => by simp only [Option.some.injEq] at hz; subst hz; exact r_tz E0_uni rfl x)
noncomputable def E2 : PExt := E1.add 44 gAll
theorem E2_uni : Uni E2 := E1_uni.other (fun args p h => by unfold gAll at h; split at h <;> simp at h)
theorem E2_ok : ExtOk Tryd.prog E2 := E1_ok.add follows (fun fl args σ p σ1 h => ev_all E1_uni rfl fl args σ p σ1 h)
noncomputable def E3 : PExt := E2.add 38 (entry (gf1 .notes i64s fun s => some s.list))
theorem E3_uni : Uni E3 := E2_uni.entry
theorem E3_ok : ExtOk Tryd.prog E3 := E2_ok.add1 follows (fun x z hz => by simp only [Option.some.injEq] at hz; subst hz; exact r_members E2_uni rfl rfl rfl rfl rfl rfl x)
noncomputable def E4 : PExt := E3.add 41 (entry (gf1 i64s i64 fun l => gif ((l.length : Int) < 1000000) (some (widthP l))))
theorem E4_uni : Uni E4 := E3_uni.entry
theorem E4_ok : ExtOk Tryd.prog E4 := E3_ok.add1 follows (fun x z hz => by obtain ⟨hg, hz⟩ := gif_some hz; simp only [Option.some.injEq] at hz; subst hz; exact r_width E3_uni rfl x hg)
noncomputable def E5 : PExt := E4.add 43 (entry (gf2 .player i64s .bool fun p l => gif ((l.length : Int) < 1000000) (some (oneOk p l))))
theorem E5_uni : Uni E5 := E4_uni.entry
theorem E5_ok : ExtOk Tryd.prog E5 := E4_ok.add2 follows (fun x y z hz => by obtain ⟨hg, hz⟩ := gif_some hz; simp only [Option.some.injEq] at hz; subst hz; exact r_one E4_uni rfl rfl x y hg)
noncomputable def E6 : PExt := E5.add 35 (entry (gf1 .player i64 fun p => some (errOf p)))
theorem E6_uni : Uni E6 := E5_uni.entry
theorem E6_ok : ExtOk Tryd.prog E6 := E5_ok.add1 follows (fun x z hz => by simp only [Option.some.injEq] at hz; subst hz; exact r_Check E5_uni rfl x)
noncomputable def E7 : PExt := E6.add 25 (entry (gf2 .player .notes (Em.bool.tup2 i64) fun p s => some (oneF p s)))
theorem E7_uni : Uni E7 := E6_uni.entry
theorem E7_ok : ExtOk Tryd.prog E7 := E6_ok.add2 follows (fun x y z hz => by simp only [Option.some.injEq] at hz; subst hz; exact r_One E6_uni rfl rfl rfl rfl x y)
noncomputable def E8 : PExt := E7.add 13 (entry (gf1 .player i64 fun p => some (errOf p)))
theorem E8_uni : Uni E8 := E7_uni.entry
theorem E8_ok : ExtOk Tryd.prog E8 := E7_ok.add1 follows (fun x z hz => by simp only [Option.some.injEq] at hz; subst hz; exact r_check E7_uni rfl x)
noncomputable def E9 : PExt := E8.add 37 (entry (gf2 .notes i64 .bool fun s n => some (memI s n)))
theorem E9_uni : Uni E9 := E8_uni.entry
theorem E9_ok : ExtOk Tryd.prog E9 := E8_ok.add2 follows (fun x y z hz => by simp only [Option.some.injEq] at hz; subst hz; exact r_has E8_uni rfl x y)
noncomputable def E10 : PExt := E9.add 14 (entry (gf1 .notes i64s fun s => some s.list))
theorem E10_uni : Uni E10 := E9_uni.entry
theorem E10_ok : ExtOk Tryd.prog E10 := E9_ok.add1 follows (fun x z hz => by simp only [Option.some.injEq] at hz; subst hz; exact r_list E9_uni rfl rfl x)
noncomputable def E11 : PExt := E10.add 20 (entry (gf3 i64s i64 i64 .bool fun l n w => gif ((l.length : Int) < 1000000) (some (holdsOk l n w))))
theorem E11_uni : Uni E11 := E10_uni.entry
theorem E11_ok : ExtOk Tryd.prog E11 := E10_ok.add3 follows (fun x y u z hz => by obtain ⟨hg, hz⟩ := gif_some hz; simp only [Option.some.injEq] at hz; subst hz; exact r_holds E10_uni rfl x y u hg)

end Go.Kz
