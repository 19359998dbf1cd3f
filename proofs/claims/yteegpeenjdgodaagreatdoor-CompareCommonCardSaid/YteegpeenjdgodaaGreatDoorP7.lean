/-
  Part P7 of the way: an interpreter over pure data, its soundness, walks through functions.
-/
import Derived.Test.YteegpeenjdgodaaGreatDoorP6
set_option linter.all false

/-
  Layer 18: the organ of a plan, walked.
-/
namespace Go.Kz
open Go Go.Proofs
set_option maxRecDepth 100000
set_option maxHeartbeats 40000000
theorem ranksS_succ (R : List RPlan) (i : Nat) (a : RPlan) (hi : i < R.length) (ha : R[i] = a) : ranksS R (i + 1) = ranksS R i ++ [rankS a i] := by
  unfold ranksS
  rw [List.range_succ, List.map_append]
  congr 1
  simp [List.getD_eq_getElem?_getD, hi, ha]
theorem ranksS_len (R : List RPlan) (i : Nat) : (ranksS R i).length = i := by simp [ranksS]
noncomputable def gRM : Nat → List PD → List SObj → Option (PD × List SObj) := entry (gf2 Em.rplan i64 Em.rank fun x i => gif (okRp x ∧ 0 ≤ i ∧ i < 10) (some (rankS x i.toNat)))
theorem gRM_of {x : RPlan} {i : Nat} (hx : okRp x) (hi : i < 10) (fl : Nat) (σ : List SObj) : gRM fl [Em.rplan.emb x, .int .i64 i] σ = some (Em.rank.emb (rankS x i), σ) := by
  have e2 : i64.dec (.int .i64 (i : Int)) = some (i : Int) := Em.dec_some rfl
  unfold gRM entry gf2
  simp only [Em.dec_emb, e2]
  rw [gif_pos ⟨hx, by omega, by omega⟩]
  rfl
theorem boardsS_succ (rs : List RankD) (D : List BoardD) (i : Nat) (a : BoardD) (hi : i < D.length) (ha : D[i] = a) : boardsS rs D (i + 1) = boardsS rs D i ++ [boardS rs a i] := by
  unfold boardsS
  rw [List.range_succ, List.map_append]
  congr 1
  simp [List.getD_eq_getElem?_getD, hi, ha]
theorem boardsS_len (rs : List RankD) (D : List BoardD) (i : Nat) : (boardsS rs D i).length = i := by simp [boardsS]
theorem pullsS_succ (rs : List RankD) (lo hg : Int) (L : List PullD) (i : Nat) (a : PullD) (hi : i < L.length) (ha : L[i] = a) : pullsS rs lo hg L (i + 1) = pullsS rs lo hg L i ++ [pullS rs lo hg a i] := by
  unfold pullsS
  rw [List.range_succ, List.map_append]
  congr 1
  simp [List.getD_eq_getElem?_getD, hi, ha]
theorem pullsS_len (rs : List RankD) (lo hg : Int) (L : List PullD) (i : Nat) : (pullsS rs lo hg L i).length = i := by simp [pullsS]
theorem linksS_succ (n : Nat) (L : List LinkD) (i : Nat) (a : LinkD) (hi : i < L.length) (ha : L[i] = a) : linksS n L (i + 1) = linksS n L i ++ [linkS n a i] := by
  unfold linksS
  rw [List.range_succ, List.map_append]
  congr 1
  simp [List.getD_eq_getElem?_getD, hi, ha]
theorem linksS_len (n : Nat) (L : List LinkD) (i : Nat) : (linksS n L i).length = i := by simp [linksS]
theorem RowAt.ne {σ : List SObj} {tok : Tok} {e : TypeId} {k n id : Nat} {o : SObj} (h : RowAt σ tok e k n) (ho : σ[id]? = some o) (hn : notOwn (some o)) : tok ≠ .own id := by
  rintro rfl
  rcases h with ⟨_, h⟩ | ⟨_, id', h, h2⟩
  · cases h
  · simp only [Tok.own.injEq] at h
    subst h
    rw [ho, Option.some.injEq] at h2
    subst h2
    exact hn
theorem RowAt.set {σ : List SObj} {tok : Tok} {e : TypeId} {k n id : Nat} {o x : SObj} (h : RowAt σ tok e k n) (ho : σ[id]? = some o) (hn : notOwn (some o)) : RowAt (σ.set id x) tok e k n :=
  h.keep fun j o' ej hj => by
    have : id ≠ j := fun e => h.ne ho hn (by rw [ej, e])
    rw [List.getElem?_set_ne this]
    exact hj
theorem app_keep {σ τ : List SObj} {i : Nat} {o : SObj} (h : σ[i]? = some o) : (σ ++ τ)[i]? = some o := by
  rw [List.getElem?_append_left (List.getElem?_eq_some_iff.1 h).1]
  exact h
noncomputable def gPl : List PD → Option PD := fun args => match args with
  | [a, b, c, d] => match ranks.dec a, Em.feet.dec b, Em.pull.dec c, i64.dec d with
    | some rs, some lh, some x, some i => gif ((∀ r ∈ rs, (r.num, r.den) ∈ feetAll) ∧ 1 ≤ rs.length ∧ rs.length ≤ 60 ∧ 0 ≤ lh.1 ∧ lh.1 ≤ lh.2 ∧ lh.2 ≤ 200 ∧ okPu x ∧ 0 ≤ i ∧ i < 10) (some (Em.stop.emb (pullS rs lh.1 lh.2 x i.toNat)))
    | _, _, _, _ => none
  | _ => none
noncomputable def gPu : Nat → List PD → List SObj → Option (PD × List SObj) := entry gPl
theorem gPl_of {W : PD} {rs : List RankD} {lo hg : Int} {x : PullD} {i : Nat} (hW : W.strip = ranks.emb rs) (hr : ∀ r ∈ rs, (r.num, r.den) ∈ feetAll) (h1 : 1 ≤ rs.length) (h2 : rs.length ≤ 60) (hlo : 0 ≤ lo) (hlh : lo ≤ hg) (hhg : hg ≤ 200) (hx : okPu x) (hi : i < 10) (fl : Nat) (σ : List SObj) :
    gPu fl [W, .agg [.int .i64 lo, .int .i64 hg], Em.pull.emb x, .int .i64 i] σ = some (Em.stop.emb (pullS rs lo hg x i), σ) := by
  have e1 : ranks.dec W = some rs := Em.dec_some hW
  have e2 : Em.feet.dec (.agg [.int .i64 lo, .int .i64 hg]) = some (lo, hg) := Em.dec_some (Em.feet.str (lo, hg))
  have e3 : i64.dec (.int .i64 (i : Int)) = some (i : Int) := Em.dec_some rfl
  unfold gPu entry gPl
  simp only [e1, e2, e3, Em.dec_emb]
  rw [gif_pos ⟨hr, h1, h2, hlo, hlh, hhg, hx, by omega, by omega⟩]
  rfl
variable {E : PExt} (hU : Uni E)
include hU
theorem r_Make (h0 : E 13 = none) (h1 : E 30 = some gRM) (h2 : E 31 = some gPu) (p : PlanD) (hp : okPl p) (hf : fitsB p = true) : Run Tryz.prog E 13 [Em.plan.emb p] (Em.organ.emb (organS p)) := by
  obtain ⟨R, D, C⟩ := p
  have hf0 := hf
  simp only [fitsB, Bool.and_eq_true, decide_eq_true_eq] at hf0
  obtain ⟨⟨⟨⟨⟨hR1, hR3⟩, hD1⟩, hD3⟩, hC3⟩, hS3⟩ := hf0
  obtain ⟨hpR, hpD, hpC⟩ := hp
  simp only at hpR hpD hpC
  simp only [emb_plan, emb_organ, emb_list]
  apply Run.bodyL h0 Tryz.func13 rfl
  focus (simp [show Tryz.f13.ntmps = _ from rfl, List.replicate]; rfl)
  have gx := True.intro
  refine goA ?_
  clear gx
  refine Wp.loopI (fun m fr σ => ∃ (i z : Nat), ∃ gg : Nat → PD, (i + m = R.length ∧ (ranksS R i = [] ∨ z = 6)) ∧ fr = gg 0 :: .ptr 0 0 :: .ptr 1 0 :: .ptr 2 0 :: .int .i64 i :: gg 5 :: gg 6 :: gg 7 :: gg 8 :: gg 9 :: gg 10 :: gg 11 :: gg 12 :: gg 13 :: gg 14 :: gg 15 :: gg 16 :: gg 17 :: gg 18 :: gg 19 :: gg 20 :: gg 21 :: gg 22 :: gg 23 :: gg 24 :: gg 25 :: gg 26 :: gg 27 :: gg 28 :: gg 29 :: gg 30 :: gg 31 :: gg 32 :: gg 33 :: gg 34 :: gg 35 :: gg 36 :: gg 37 :: gg 38 :: gg 39 :: gg 40 :: gg 41 :: gg 42 :: gg 43 :: gg 44 :: gg 45 :: gg 46 :: gg 47 :: gg 48 :: gg 49 :: gg 50 :: gg 51 :: gg 52 :: gg 53 :: gg 54 :: gg 55 :: gg 56 :: gg 57 :: gg 58 :: gg 59 :: gg 60 :: gg 61 :: gg 62 :: gg 63 :: gg 64 :: gg 65 :: gg 66 :: gg 67 :: gg 68 :: gg 69 :: gg 70 :: gg 71 :: gg 72 :: gg 73 :: gg 74 :: gg 75 :: gg 76 :: gg 77 :: gg 78 :: gg 79 :: gg 80 :: gg 81 :: gg 82 :: gg 83 :: gg 84 :: gg 85 :: gg 86 :: gg 87 :: gg 88 :: gg 89 :: gg 90 :: gg 91 :: gg 92 :: gg 93 :: gg 94 :: gg 95 :: gg 96 :: gg 97 :: gg 98 :: gg 99 :: gg 100 :: gg 101 :: gg 102 :: gg 103 :: gg 104 :: gg 105 :: gg 106 :: gg 107 :: gg 108 :: gg 109 :: gg 110 :: gg 111 :: gg 112 :: gg 113 :: gg 114 :: gg 115 :: gg 116 :: gg 117 :: gg 118 :: gg 119 :: gg 120 :: gg 121 :: gg 122 :: gg 123 :: gg 124 :: gg 125 :: gg 126 :: gg 127 :: gg 128 :: gg 129 :: gg 130 :: gg 131 :: gg 132 :: gg 133 :: gg 134 :: gg 135 :: gg 136 :: gg 137 :: gg 138 :: gg 139 :: gg 140 :: gg 141 :: gg 142 :: gg 143 :: gg 144 :: gg 145 :: gg 146 :: gg 147 :: gg 148 :: gg 149 :: gg 150 :: gg 151 :: gg 152 :: [] ∧ σ = St [.box (.agg [.slice (sz 9 R) (R.map Em.rplan.emb) .any, .slice (sz 4 D) (D.map Em.board.emb) .any, .slice (sz 4 C) (C.map Em.link.emb) .any]), .box (.agg [.str [], .slice 0 [] .full, .slice 0 [] .full, .slice 0 [] .full]), .box (.agg [.str [79, 114, 103, 97, 110], .slice z ((ranksS R i).map Em.rank.emb) (outTok 3 (ranksS R i).length), .slice 0 [] .full, .slice 0 [] .full])] 48 6 (ranksS R i).length) ?_ (R.length) (by refine ⟨0, 0, ?_⟩; exact exF (⟨by omega, .inl rfl⟩) (by (first | rfl | (simp [ranksS, outTok]; repeat (first | rfl | (apply And.intro))) | (simp [ranksS, outTok]; done))) (by (first | rfl | (simp [ranksS, outTok]; repeat (first | rfl | (apply And.intro))) | (simp [ranksS, outTok]; done))))
  rintro m fr σ ⟨i, z, gg, hI, rfl, rfl⟩
  obtain ⟨hm, hz⟩ := hI
  by_cases hi : i < R.length
  · have q1 : (i : Int) < (R.length : Int) := by omega
    obtain ⟨a, ha⟩ : ∃ a, R[i] = a := ⟨_, rfl⟩
    have hs := ranksS_succ R i a hi ha
    have hl := ranksS_len R i
    have hG := gRM_of (i := i) (hpR a (ha ▸ List.getElem_mem hi)) (by omega)
    obtain ⟨q, hq⟩ : ∃ q, rankS a i = q := ⟨_, rfl⟩
    rw [hq] at hG hs
    obtain ⟨L, hL⟩ : ∃ L, ranksS R i = L := ⟨_, rfl⟩
    rw [hL] at hz hl hs ⊢
    obtain ⟨q0, q1', q2, q3, q4, q5⟩ := q
    obtain ⟨a0, a1, a2, a3, a4, a5, a6, a7, a8⟩ := a
    simp only [emb_rplan, emb_rank, emb_list] at hG
    have gx := And.intro @q1 (And.intro @hi (And.intro @ha (And.intro @h1 (And.intro @hG (And.intro @hz (@hl))))))
    refine goA ?_
    clear gx
    refine LoopI.normal (m - 1) (by omega) (by refine ⟨i + 1, 6, ?_⟩; exact exF (⟨by omega, .inr rfl⟩) (by (first | rfl | (simp [hs, hl]; repeat (first | rfl | (apply And.intro))) | (simp [hs, hl]; done))) (by (first | rfl | (simp [hs, hl]; repeat (first | rfl | (apply And.intro))) | (simp [hs, hl]; done))))
  · have q1 : ¬ (i : Int) < (R.length : Int) := by omega
    obtain rfl : i = R.length := by omega
    have hl := ranksS_len R R.length
    have hne : ranksS R R.length ≠ [] := fun h => by rw [h] at hl; simp at hl; omega
    have hz6 : z = 6 := hz.resolve_left hne
    subst hz6
    have gx := @q1
    refine goA ?_
    clear gx
    have hrf : ∀ r ∈ ranksS R R.length, (r.num, r.den) ∈ feetAll := by
      intro r hr
      simp only [ranksS, List.mem_map, List.mem_range] at hr
      obtain ⟨j, hj, rfl⟩ := hr
      have : R.getD j default = R[j] := by simp [List.getD_eq_getElem?_getD, hj]
      rw [this]
      exact all_mem _ (hpR _ (List.getElem_mem hj)).2.1
    have hrl := hl
    obtain ⟨rs, hrs⟩ : ∃ r, ranksS R R.length = r := ⟨_, rfl⟩
    have hO : organS ⟨R, D, C⟩ = ⟨[79, 114, 103, 97, 110], rs, boardsS rs D D.length, linksS D.length C C.length⟩ := by
      unfold organS
      simp only [hrs]
    rw [hO]
    rw [hrs] at hrf hrl hne ⊢
    clear hO hrs hz hl hm q1
    obtain ⟨W, hW⟩ : ∃ W, PD.slice 6 (rs.map Em.rank.emb) (outTok 3 rs.length) = W := ⟨_, rfl⟩
    have hWs : W.strip = ranks.emb rs := by
      rw [← hW, PD.strip_slice]
      show _ = PD.slice (sz 6 rs) (rs.map Em.rank.emb) .any
      rw [sz_ne hne, show (rs.map Em.rank.emb).map PD.strip = rs.map Em.rank.emb by rw [List.map_map]; exact List.map_congr_left fun x _ => Em.rank.str x]
      simp [hne]
    rw [hW]
    obtain ⟨X0, hX0⟩ : ∃ X, SObj.box (.agg [.slice (sz 9 R) (R.map Em.rplan.emb) .any, .slice (sz 4 D) (D.map Em.board.emb) .any, .slice (sz 4 C) (C.map Em.link.emb) .any]) = X := ⟨_, rfl⟩
    obtain ⟨σ0, hσ0⟩ : ∃ s, St [X0, .box (.agg [.str [], .slice 0 [] .full, .slice 0 [] .full, .slice 0 [] .full]), .box (.agg [.str [79, 114, 103, 97, 110], W, .slice 0 [] .full, .slice 0 [] .full])] 48 6 rs.length = s := ⟨_, rfl⟩
    have s0 : σ0[0]? = some X0 := by rw [← hσ0]; exact St_get (by simp)
    have s1 : σ0[1]? = some (.box (.agg [.str [], .slice 0 [] .full, .slice 0 [] .full, .slice 0 [] .full])) := by rw [← hσ0]; exact St_get (by simp)
    have s2 : σ0[2]? = some (.box (.agg [.str [79, 114, 103, 97, 110], W, .slice 0 [] .full, .slice 0 [] .full])) := by rw [← hσ0]; exact St_get (by simp)
    rw [hX0, hσ0]
    have hB0 : boardsS rs D 0 = [] := rfl
    refine Wp.loopI (fun m fr σ => ∃ (i z : Nat) (tok : Tok) (σ1 : List SObj), ∃ gg : Nat → PD, (i + m = D.length ∧ (boardsS rs D i = [] ∨ z = 5) ∧ RowAt σ1 tok 53 5 i ∧ σ1[0]? = some X0 ∧ σ1[1]? = some (.box (.agg [.str [], .slice 0 [] .full, .slice 0 [] .full, .slice 0 [] .full])) ∧ σ1[2]? = some (.box (.agg [.str [79, 114, 103, 97, 110], W, .slice z ((boardsS rs D i).map Em.div.emb) tok, .slice 0 [] .full]))) ∧ fr = gg 0 :: .ptr 0 0 :: .ptr 1 0 :: .ptr 2 0 :: gg 4 :: .int .i64 i :: gg 6 :: gg 7 :: gg 8 :: gg 9 :: gg 10 :: gg 11 :: gg 12 :: gg 13 :: gg 14 :: gg 15 :: gg 16 :: gg 17 :: gg 18 :: gg 19 :: gg 20 :: gg 21 :: gg 22 :: gg 23 :: gg 24 :: gg 25 :: gg 26 :: gg 27 :: gg 28 :: gg 29 :: gg 30 :: gg 31 :: gg 32 :: gg 33 :: gg 34 :: gg 35 :: gg 36 :: gg 37 :: gg 38 :: gg 39 :: gg 40 :: gg 41 :: gg 42 :: gg 43 :: gg 44 :: gg 45 :: gg 46 :: gg 47 :: gg 48 :: gg 49 :: gg 50 :: gg 51 :: gg 52 :: gg 53 :: gg 54 :: gg 55 :: gg 56 :: gg 57 :: gg 58 :: gg 59 :: gg 60 :: gg 61 :: gg 62 :: gg 63 :: gg 64 :: gg 65 :: gg 66 :: gg 67 :: gg 68 :: gg 69 :: gg 70 :: gg 71 :: gg 72 :: gg 73 :: gg 74 :: gg 75 :: gg 76 :: gg 77 :: gg 78 :: gg 79 :: gg 80 :: gg 81 :: gg 82 :: gg 83 :: gg 84 :: gg 85 :: gg 86 :: gg 87 :: gg 88 :: gg 89 :: gg 90 :: gg 91 :: gg 92 :: gg 93 :: gg 94 :: gg 95 :: gg 96 :: gg 97 :: gg 98 :: gg 99 :: gg 100 :: gg 101 :: gg 102 :: gg 103 :: gg 104 :: gg 105 :: gg 106 :: gg 107 :: gg 108 :: gg 109 :: gg 110 :: gg 111 :: gg 112 :: gg 113 :: gg 114 :: gg 115 :: gg 116 :: gg 117 :: gg 118 :: gg 119 :: gg 120 :: gg 121 :: gg 122 :: gg 123 :: gg 124 :: gg 125 :: gg 126 :: gg 127 :: gg 128 :: gg 129 :: gg 130 :: gg 131 :: gg 132 :: gg 133 :: gg 134 :: gg 135 :: gg 136 :: gg 137 :: gg 138 :: gg 139 :: gg 140 :: gg 141 :: gg 142 :: gg 143 :: gg 144 :: gg 145 :: gg 146 :: gg 147 :: gg 148 :: gg 149 :: gg 150 :: gg 151 :: gg 152 :: [] ∧ σ = σ1) ?_ (D.length) (by refine ⟨0, 0, .full, σ0, ?_⟩; exact exF (⟨by omega, .inl rfl, .inl ⟨rfl, rfl⟩, s0, s1, by rw [hB0]; exact s2⟩) (by (first | rfl | (simp []; repeat (first | rfl | (apply And.intro))) | (simp []; done))) (by (first | rfl | (simp []; repeat (first | rfl | (apply And.intro))) | (simp []; done))))
    rintro m fr σ ⟨i, z, tok, σ1, gg, hI, rfl, rfl⟩
    obtain ⟨hm, hz, hrow, g0, g1, g2⟩ := hI
    by_cases hi : i < D.length
    · have q1 : (i : Int) < (D.length : Int) := by omega
      obtain ⟨a, ha⟩ : ∃ a, D[i] = a := ⟨_, rfl⟩
      obtain ⟨hl8, hk8, hP8⟩ := hpD a (ha ▸ List.getElem_mem hi)
      have hP3 : a.stops.length ≤ 3 := by
        have := List.all_eq_true.1 hS3 a (ha ▸ List.getElem_mem hi)
        simpa using this
      have hbs := boardsS_succ rs D i a hi ha
      obtain ⟨l, ke, pe, P⟩ := a
      simp only at hl8 hk8 hP8 hP3
      obtain ⟨l, rfl⟩ : ∃ q : Nat, l = q := ⟨l.toNat, by have := hl8.1; omega⟩
      obtain ⟨ke, rfl⟩ : ∃ q : Nat, ke = q := ⟨ke.toNat, by have := hk8.1; omega⟩
      obtain ⟨L, hL⟩ : ∃ L, l % 12 = L := ⟨_, rfl⟩
      obtain ⟨K, hK⟩ : ∃ K, ke % 9 = K := ⟨_, rfl⟩
      have t1 : (l : Int).tmod 12 = (L : Int) := by rw [← hL]; rfl
      have t2 : IntKind.i64.wrap (L : Int) = (L : Int) := by rw [IntKind.wrap_i64]; omega
      have t3 : IntKind.i64.wrap (36 + (L : Int)) = 36 + (L : Int) := by rw [IntKind.wrap_i64]; omega
      have t4 : (ke : Int).tmod 9 = (K : Int) := by rw [← hK]; rfl
      have t5 : IntKind.i64.wrap (K : Int) = (K : Int) := by rw [IntKind.wrap_i64]; omega
      have t6 : IntKind.i64.wrap (36 + (L : Int) + (K : Int)) = 36 + (L : Int) + K := by rw [IntKind.wrap_i64]; omega
      have d2 : IntKind.i64.wrap (48 + (i : Int)) = 48 + (i : Int) := by rw [IntKind.wrap_i64]; omega
      have d3 : IntKind.u8.wrap (48 + (i : Int)) = 48 + (i : Int) := by simp only [IntKind.wrap, IntKind.bits, IntKind.signed]; simp; omega
      obtain ⟨dg, hdg⟩ : ∃ d, UInt8.ofNat (48 + (i : Int)).toNat = d := ⟨_, rfl⟩
      obtain ⟨ps, hps⟩ : ∃ f, pullsS rs (36 + (L : Int)) (36 + (L : Int) + K) P = f := ⟨_, rfl⟩
      have hbo : boardS rs ⟨l, ke, pe, P⟩ i = ⟨[68, dg], pe, 36 + (L : Int), 36 + (L : Int) + K, ps P.length⟩ := by
        unfold boardS digit
        simp only [show (l : Int) % 12 = (L : Int) by omega, show (ke : Int) % 9 = (K : Int) by omega, hps, ← hdg, show (48 + (i : Int)).toNat = 48 + i by omega]
      rw [hbo] at hbs
      have hpsl : ∀ k, (ps k).length = k := fun k => by rw [← hps]; exact pullsS_len _ _ _ _ _
      have hps0 : ps 0 = [] := List.eq_nil_of_length_eq_zero (hpsl 0)
      have hpss : ∀ (k : Nat) (x : PullD) (hk : k < P.length), P[k] = x → ps (k + 1) = ps k ++ [pullS rs (36 + (L : Int)) (36 + (L : Int) + K) x k] := fun k x hk hx => by rw [← hps]; exact pullsS_succ _ _ _ _ _ _ hk hx
      have g0' := g0
      rw [← hX0] at g0'
      have gx := And.intro @q1 (And.intro @hi (And.intro @ha (And.intro @g0' (And.intro @t1 (And.intro @t2 (And.intro @t3 (And.intro @t4 (And.intro @t5 (And.intro @t6 (And.intro @d2 (And.intro @d3 (@hdg))))))))))))
      refine goA ?_
      clear gx
      have hlt2 : 2 < σ.length := (List.getElem?_eq_some_iff.1 g2).1
      obtain ⟨BX, hBX⟩ : ∃ B, SObj.box (.agg [.int .u8 l, .int .u8 ke, .bool pe, .slice (sz 4 P) (P.map Em.pull.emb) .any]) = B := ⟨_, rfl⟩
      rw [hBX]
      obtain ⟨DX, hDX⟩ : ∃ B, SObj.box (.agg [.str [68, dg], .bool pe, .int .i64 (36 + (L : Int)), .int .i64 (36 + (L : Int) + K), .slice 0 [] .full]) = B := ⟨_, rfl⟩
      rw [hDX]
      have u0 : (σ ++ [BX, DX])[0]? = some X0 := by rw [List.getElem?_append_left (by omega)]; exact g0
      have u1 : (σ ++ [BX, DX])[1]? = _ := (List.getElem?_append_left (by omega)).trans g1
      have u2 : (σ ++ [BX, DX])[2]? = _ := (List.getElem?_append_left (by omega)).trans g2
      have u3 : (σ ++ [BX, DX])[σ.length]? = some BX := by simp
      have u4 : (σ ++ [BX, DX])[σ.length + 1]? = some DX := by simp
      have urow := hrow.more (τ := [BX, DX])
      obtain ⟨σ3, hσ3⟩ : ∃ s, σ ++ [BX, DX] = s := ⟨_, rfl⟩
      rw [hσ3] at u0 u1 u2 u3 u4 urow ⊢
      obtain ⟨pb, hpb⟩ : ∃ n, σ.length = n := ⟨_, rfl⟩
      rw [hpb] at u3 u4 hlt2 ⊢
      obtain ⟨M, hM⟩ : ∃ M, M = m := ⟨_, rfl⟩
      rw [← hM] at hm ⊢
      clear hM hσ3 hpb g0 g0' g1 g2 hrow
      rw [← hDX] at u4
      refine Wp.loopI (fun m fr σ => ∃ (k z2 : Nat) (tk2 : Tok) (σ2 : List SObj), ∃ gg : Nat → PD, (k + m = P.length ∧ (ps k = [] ∨ z2 = 4) ∧ RowAt σ2 tk2 56 4 k ∧ RowAt σ2 tok 53 5 i ∧ (∀ id, tk2 = .own id → tok ≠ .own id) ∧ σ2[0]? = some X0 ∧ σ2[1]? = some (.box (.agg [.str [], .slice 0 [] .full, .slice 0 [] .full, .slice 0 [] .full])) ∧ σ2[2]? = some (.box (.agg [.str [79, 114, 103, 97, 110], W, .slice z ((boardsS rs D i).map Em.div.emb) tok, .slice 0 [] .full])) ∧ σ2[pb]? = some BX ∧ σ2[pb + 1]? = some (.box (.agg [.str [68, dg], .bool pe, .int .i64 (36 + (L : Int)), .int .i64 (36 + (L : Int) + K), .slice z2 ((ps k).map Em.stop.emb) tk2]))) ∧ fr = gg 0 :: .ptr 0 0 :: .ptr 1 0 :: .ptr 2 0 :: gg 4 :: .int .i64 i :: .ptr pb 0 :: gg 7 :: .ptr (pb + 1) 0 :: .int .i64 k :: gg 10 :: gg 11 :: gg 12 :: gg 13 :: gg 14 :: gg 15 :: gg 16 :: gg 17 :: gg 18 :: gg 19 :: gg 20 :: gg 21 :: gg 22 :: gg 23 :: gg 24 :: gg 25 :: gg 26 :: gg 27 :: gg 28 :: gg 29 :: gg 30 :: gg 31 :: gg 32 :: gg 33 :: gg 34 :: gg 35 :: gg 36 :: gg 37 :: gg 38 :: gg 39 :: gg 40 :: gg 41 :: gg 42 :: gg 43 :: gg 44 :: gg 45 :: gg 46 :: gg 47 :: gg 48 :: gg 49 :: gg 50 :: gg 51 :: gg 52 :: gg 53 :: gg 54 :: gg 55 :: gg 56 :: gg 57 :: gg 58 :: gg 59 :: gg 60 :: gg 61 :: gg 62 :: gg 63 :: gg 64 :: gg 65 :: gg 66 :: gg 67 :: gg 68 :: gg 69 :: gg 70 :: gg 71 :: gg 72 :: gg 73 :: gg 74 :: gg 75 :: gg 76 :: gg 77 :: gg 78 :: gg 79 :: gg 80 :: gg 81 :: gg 82 :: gg 83 :: gg 84 :: gg 85 :: gg 86 :: gg 87 :: gg 88 :: gg 89 :: gg 90 :: gg 91 :: gg 92 :: gg 93 :: gg 94 :: gg 95 :: gg 96 :: gg 97 :: gg 98 :: gg 99 :: gg 100 :: gg 101 :: gg 102 :: gg 103 :: gg 104 :: gg 105 :: gg 106 :: gg 107 :: gg 108 :: gg 109 :: gg 110 :: gg 111 :: gg 112 :: gg 113 :: gg 114 :: gg 115 :: gg 116 :: gg 117 :: gg 118 :: gg 119 :: gg 120 :: gg 121 :: gg 122 :: gg 123 :: gg 124 :: gg 125 :: gg 126 :: gg 127 :: gg 128 :: gg 129 :: gg 130 :: gg 131 :: gg 132 :: gg 133 :: gg 134 :: gg 135 :: gg 136 :: gg 137 :: gg 138 :: gg 139 :: gg 140 :: gg 141 :: gg 142 :: gg 143 :: gg 144 :: gg 145 :: gg 146 :: gg 147 :: gg 148 :: gg 149 :: gg 150 :: gg 151 :: gg 152 :: [] ∧ σ = σ2) ?_ (P.length) (by refine ⟨0, 0, .full, σ3, ?_⟩; exact exF (⟨by omega, .inl hps0, .inl ⟨rfl, rfl⟩, urow, (fun id e => (by cases e)), u0, u1, u2, u3, (by rw [hps0]; exact u4)⟩) (by (first | rfl | (simp []; repeat (first | rfl | (apply And.intro))) | (simp []; done))) (by (first | rfl | (simp []; repeat (first | rfl | (apply And.intro))) | (simp []; done))))
      rintro m fr σ ⟨k, z2, tk2, σ2, gg, hI, rfl, rfl⟩
      obtain ⟨hm2, hz2, hrow2, hrowD, hne2, v0, v1, v2, v3, v4⟩ := hI
      by_cases hk : k < P.length
      · have q2 : (k : Int) < (P.length : Int) := by omega
        obtain ⟨x, hx⟩ : ∃ x, P[k] = x := ⟨_, rfl⟩
        have hsu := hpss k x hk hx
        have hG := gPl_of (i := k) (x := x) (lo := 36 + (L : Int)) (hg := 36 + (L : Int) + K) hWs hrf (by omega) (by omega) (by omega) (by omega) (by omega) (hP8 x (hx ▸ List.getElem_mem hk)) (by omega)
        obtain ⟨q, hq⟩ : ∃ q, pullS rs (36 + (L : Int)) (36 + (L : Int) + K) x k = q := ⟨_, rfl⟩
        rw [hq] at hG hsu
        obtain ⟨q0, q1', q2', q3⟩ := q
        obtain ⟨x0, x1, x2, x3⟩ := x
        simp only [emb_pull, emb_stop, emb_list] at hG
        rw [← hBX] at v3
        obtain ⟨A, hA⟩ : ∃ A, (ps k).map Em.stop.emb = A := ⟨_, rfl⟩
        have hAl : A.length = k := by rw [← hA, List.length_map, hpsl]
        have hA0 : A = [] ∨ z2 = 4 := hz2.imp (fun h => by rw [← hA, h]; rfl) id
        obtain ⟨tok', σ4, hap, hr', hkeep, hnew⟩ := pappend_row (P := Tryz.prog) (t := 51) (e := 56) (k := 4) (b := 56) (s := z2) (xs := A) (p := .agg [.str q0, .int .i64 q1', .int .i64 q2', .slice (sz 3 q3) (q3.map Em.seg.emb) .any]) (tk := .any) (tok := tk2) (σ := σ)
          Tryz.underlying51 (by kernel_rfl) hA0 (by rw [hAl]; exact hrow2) (by omega) (by omega)
        rw [hA] at v4
        have nX : notOwn (some X0) := by rw [← hX0]; trivial
        have nB : notOwn (some BX) := by rw [← hBX]; trivial
        rw [hBX] at v3
        have w0 := hkeep 0 _ (hrow2.ne v0 nX) v0
        have w1 := hkeep 1 _ (hrow2.ne v1 trivial) v1
        have w2 := hkeep 2 _ (hrow2.ne v2 trivial) v2
        have w3 := hkeep pb _ (hrow2.ne v3 nB) v3
        have w4 := hkeep (pb + 1) _ (hrow2.ne v4 trivial) v4
        rw [hAl] at hr'
        have hrowD' := (hrowD.keep (σ' := σ4) fun id o e h => hkeep id o (fun e2 => hne2 id e2 e) h)
        have hne' : ∀ id, tok' = .own id → tok ≠ .own id := fun id e e2 => by
          rcases hnew id e with e3 | e3
          · exact hne2 id e3 e2
          · subst e3
            rcases hrowD with ⟨_, e4⟩ | ⟨_, id', e4, h5⟩
            · rw [e4] at e2; cases e2
            · rw [e4] at e2
              simp only [Tok.own.injEq] at e2
              subst e2
              have := (List.getElem?_eq_some_iff.1 h5).1
              omega
        rw [← hBX] at v3
        have gx := And.intro @q2 (And.intro @hk (And.intro @hx (And.intro @v0 (And.intro @v1 (And.intro @v2 (And.intro @v3 (And.intro @v4 (And.intro @h2 (And.intro @hG (And.intro @hap (@w4)))))))))))
        refine goA ?_
        clear gx
        have hlt4 : pb + 1 < σ4.length := (List.getElem?_eq_some_iff.1 w4).1
        refine LoopI.normal (m - 1) (by omega) (by refine ⟨k + 1, 4, tok', σ4.set (pb + 1) (.box (.agg [.str [68, dg], .bool pe, .int .i64 (36 + (L : Int)), .int .i64 (36 + (L : Int) + K), .slice 4 (A ++ [.agg [.str q0, .int .i64 q1', .int .i64 q2', .slice (sz 3 q3) (q3.map Em.seg.emb) .any]]) tok'])), ?_⟩; exact exF (⟨by omega, .inr rfl, hr'.set w4 trivial, hrowD'.set w4 trivial, hne', (by rw [List.getElem?_set_ne (by omega)]; exact w0), (by rw [List.getElem?_set_ne (by omega)]; exact w1), (by rw [List.getElem?_set_ne (by omega)]; exact w2), (by rw [List.getElem?_set_ne (by omega)]; exact w3), (by rw [hsu, List.map_append, hA]; exact List.getElem?_set_self hlt4)⟩) (by (first | rfl | (simp []; repeat (first | rfl | (apply And.intro))) | (simp []; done))) (by (first | rfl | (simp []; repeat (first | rfl | (apply And.intro))) | (simp []; done))))
      · have q2 : ¬ (k : Int) < (P.length : Int) := by omega
        obtain rfl : k = P.length := by omega
        obtain ⟨Y, hY⟩ : ∃ Y, PD.slice z2 ((ps P.length).map Em.stop.emb) tk2 = Y := ⟨_, rfl⟩
        have hYp : Y.plain = true := by rw [← hY]; rfl
        have hYs : Y.strip = .slice (sz 4 (ps P.length)) ((ps P.length).map Em.stop.emb) .any := by
          rw [← hY, PD.strip_slice, show ((ps P.length).map Em.stop.emb).map PD.strip = (ps P.length).map Em.stop.emb by rw [List.map_map]; exact List.map_congr_left fun x _ => Em.stop.str x]
          rcases hz2 with h | h
          · rw [h]; rfl
          · rw [h]; simp [sz]
        rw [hY] at v4
        rw [← hBX] at v3
        obtain ⟨A, hA⟩ : ∃ A, (boardsS rs D i).map Em.div.emb = A := ⟨_, rfl⟩
        have hAl : A.length = i := by rw [← hA, List.length_map, boardsS_len]
        have hA0 : A = [] ∨ z = 5 := hz.imp (fun h => by rw [← hA, h]; rfl) id
        rw [hA] at v2
        obtain ⟨tok', σ4, hap, hr', hkeep, hnew⟩ := pappend_row (P := Tryz.prog) (t := 32) (e := 53) (k := 5) (b := 64) (s := z) (xs := A) (p := .agg [.str [68, dg], .bool pe, .int .i64 (36 + (L : Int)), .int .i64 (36 + (L : Int) + K), .slice (sz 4 (ps P.length)) ((ps P.length).map Em.stop.emb) .any]) (tk := .any) (tok := tok) (σ := σ)
          Tryz.underlying32 (by kernel_rfl) hA0 (by rw [hAl]; exact hrowD) (by omega) (by omega)
        have nX : notOwn (some X0) := by rw [← hX0]; trivial
        have w0 := hkeep 0 _ (hrowD.ne v0 nX) v0
        have w1 := hkeep 1 _ (hrowD.ne v1 trivial) v1
        have w2 := hkeep 2 _ (hrowD.ne v2 trivial) v2
        rw [hAl] at hr'
        have gx := And.intro @q2 (And.intro @v0 (And.intro @v1 (And.intro @v2 (And.intro @v3 (And.intro @v4 (And.intro @hap (And.intro @w2 (And.intro @hYp (@hYs)))))))))
        refine goA ?_
        clear gx
        have hlt4 : 2 < σ4.length := (List.getElem?_eq_some_iff.1 w2).1
        refine LoopI.normal (M - 1) (by omega) (by refine ⟨i + 1, 5, tok', σ4.set 2 (.box (.agg [.str [79, 114, 103, 97, 110], W, .slice 5 (A ++ [.agg [.str [68, dg], .bool pe, .int .i64 (36 + (L : Int)), .int .i64 (36 + (L : Int) + K), .slice (sz 4 (ps P.length)) ((ps P.length).map Em.stop.emb) .any]]) tok', .slice 0 [] .full])), ?_⟩; exact exF (⟨by omega, .inr rfl, hr'.set w2 trivial, (by rw [List.getElem?_set_ne (by omega)]; exact w0), (by rw [List.getElem?_set_ne (by omega)]; exact w1), (by rw [hbs, List.map_append, hA]; exact List.getElem?_set_self hlt4)⟩) (by (first | rfl | (simp []; repeat (first | rfl | (apply And.intro))) | (simp []; done))) (by (first | rfl | (simp []; repeat (first | rfl | (apply And.intro))) | (simp []; done))))
    · have q1 : ¬ (i : Int) < (D.length : Int) := by omega
      obtain rfl : i = D.length := by omega
      have hbl := boardsS_len rs D D.length
      have hbne : boardsS rs D D.length ≠ [] := fun h => by rw [h] at hbl; simp at hbl; omega
      have hz5 : z = 5 := hz.resolve_left hbne
      subst hz5
      obtain ⟨Y, hY⟩ : ∃ Y, PD.slice 5 ((boardsS rs D D.length).map Em.div.emb) tok = Y := ⟨_, rfl⟩
      have hYp : Y.plain = true := by rw [← hY]; rfl
      have hYs : Y.strip = .slice (sz 5 (boardsS rs D D.length)) ((boardsS rs D D.length).map Em.div.emb) .any := by
        rw [← hY, PD.strip_slice, show ((boardsS rs D D.length).map Em.div.emb).map PD.strip = (boardsS rs D D.length).map Em.div.emb by rw [List.map_map]; exact List.map_congr_left fun x _ => Em.div.str x]
        rw [sz_ne hbne]
        simp [hbne]
      have hWp : W.plain = true := by rw [← hW]; rfl
      have hWs' : W.strip = .slice (sz 6 rs) (rs.map Em.rank.emb) .any := hWs
      rw [hY] at g2
      have g0' := g0
      rw [← hX0] at g0'
      have gx := And.intro @q1 (And.intro @g0' (And.intro @g1 (@g2)))
      refine goA ?_
      clear gx
      have hL0 : linksS D.length C 0 = [] := rfl
      refine Wp.loopI (fun m fr σ => ∃ (j z3 : Nat) (tk3 : Tok) (σ1 : List SObj), ∃ gg : Nat → PD, (j + m = C.length ∧ (linksS D.length C j = [] ∨ z3 = 5) ∧ RowAt σ1 tk3 58 5 j ∧ σ1[0]? = some X0 ∧ σ1[1]? = some (.box (.agg [.str [], .slice 0 [] .full, .slice 0 [] .full, .slice 0 [] .full])) ∧ σ1[2]? = some (.box (.agg [.str [79, 114, 103, 97, 110], W, Y, .slice z3 ((linksS D.length C j).map Em.coup.emb) tk3]))) ∧ fr = gg 0 :: .ptr 0 0 :: .ptr 1 0 :: .ptr 2 0 :: gg 4 :: gg 5 :: gg 6 :: gg 7 :: gg 8 :: gg 9 :: .int .i64 D.length :: .int .i64 j :: gg 12 :: gg 13 :: gg 14 :: gg 15 :: gg 16 :: gg 17 :: gg 18 :: gg 19 :: gg 20 :: gg 21 :: gg 22 :: gg 23 :: gg 24 :: gg 25 :: gg 26 :: gg 27 :: gg 28 :: gg 29 :: gg 30 :: gg 31 :: gg 32 :: gg 33 :: gg 34 :: gg 35 :: gg 36 :: gg 37 :: gg 38 :: gg 39 :: gg 40 :: gg 41 :: gg 42 :: gg 43 :: gg 44 :: gg 45 :: gg 46 :: gg 47 :: gg 48 :: gg 49 :: gg 50 :: gg 51 :: gg 52 :: gg 53 :: gg 54 :: gg 55 :: gg 56 :: gg 57 :: gg 58 :: gg 59 :: gg 60 :: gg 61 :: gg 62 :: gg 63 :: gg 64 :: gg 65 :: gg 66 :: gg 67 :: gg 68 :: gg 69 :: gg 70 :: gg 71 :: gg 72 :: gg 73 :: gg 74 :: gg 75 :: gg 76 :: gg 77 :: gg 78 :: gg 79 :: gg 80 :: gg 81 :: gg 82 :: gg 83 :: gg 84 :: gg 85 :: gg 86 :: gg 87 :: gg 88 :: gg 89 :: gg 90 :: gg 91 :: gg 92 :: gg 93 :: gg 94 :: gg 95 :: gg 96 :: gg 97 :: gg 98 :: gg 99 :: gg 100 :: gg 101 :: gg 102 :: gg 103 :: gg 104 :: gg 105 :: gg 106 :: gg 107 :: gg 108 :: gg 109 :: gg 110 :: gg 111 :: gg 112 :: gg 113 :: gg 114 :: gg 115 :: gg 116 :: gg 117 :: gg 118 :: gg 119 :: gg 120 :: gg 121 :: gg 122 :: gg 123 :: gg 124 :: gg 125 :: gg 126 :: gg 127 :: gg 128 :: gg 129 :: gg 130 :: gg 131 :: gg 132 :: gg 133 :: gg 134 :: gg 135 :: gg 136 :: gg 137 :: gg 138 :: gg 139 :: gg 140 :: gg 141 :: gg 142 :: gg 143 :: gg 144 :: gg 145 :: gg 146 :: gg 147 :: gg 148 :: gg 149 :: gg 150 :: gg 151 :: gg 152 :: [] ∧ σ = σ1) ?_ (C.length) (by refine ⟨0, 0, .full, σ, ?_⟩; exact exF (⟨by omega, .inl hL0, .inl ⟨rfl, rfl⟩, g0, g1, (by rw [hL0]; exact g2)⟩) (by (first | rfl | (simp []; repeat (first | rfl | (apply And.intro))) | (simp []; done))) (by (first | rfl | (simp []; repeat (first | rfl | (apply And.intro))) | (simp []; done))))
      rintro m fr σ ⟨j, z3, tk3, σ1, gg, hI, rfl, rfl⟩
      obtain ⟨hm, hz, hrow, g0, g1, g2⟩ := hI
      by_cases hj : j < C.length
      · have q1 : (j : Int) < (C.length : Int) := by omega
        obtain ⟨a, ha⟩ : ∃ a, C[j] = a := ⟨_, rfl⟩
        obtain ⟨ho8, hd8, hs8⟩ := hpC a (ha ▸ List.getElem_mem hj)
        have hls := linksS_succ D.length C j a hj ha
        obtain ⟨o, d, s, th⟩ := a
        simp only at ho8 hd8 hs8
        obtain ⟨o, rfl⟩ : ∃ q : Nat, o = q := ⟨o.toNat, by have := ho8.1; omega⟩
        obtain ⟨d, rfl⟩ : ∃ q : Nat, d = q := ⟨d.toNat, by have := hd8.1; omega⟩
        have ho9 := ho8.2
        have hd9 := hd8.2
        have t1 : IntKind.i64.wrap (o : Int) = (o : Int) := by rw [IntKind.wrap_i64]; omega
        have t2 : IntKind.i64.wrap (d : Int) = (d : Int) := by rw [IntKind.wrap_i64]; omega
        have t3 : IntKind.i64.wrap s = s := by have := hs8.1; have := hs8.2; rw [IntKind.wrap_i64]; omega
        have t4 : ¬ (D.length : Int) = 0 := by omega
        have t5 : ¬ D = [] := fun h => by rw [h] at hD1; simp at hD1
        obtain ⟨O, hO⟩ : ∃ O : Int, (o : Int).tmod (D.length : Int) = O := ⟨_, rfl⟩
        obtain ⟨Q, hQ⟩ : ∃ Q : Int, (d : Int).tmod (D.length : Int) = Q := ⟨_, rfl⟩
        obtain ⟨S, hS⟩ : ∃ S : Int, s.tmod 25 = S := ⟨_, rfl⟩
        have hO' : (o : Int) % (D.length : Int) = O := hO
        have hQ' : (d : Int) % (D.length : Int) = Q := hQ
        have d2 : IntKind.i64.wrap (48 + (j : Int)) = 48 + (j : Int) := by rw [IntKind.wrap_i64]; omega
        have d3 : IntKind.u8.wrap (48 + (j : Int)) = 48 + (j : Int) := by simp only [IntKind.wrap, IntKind.bits, IntKind.signed]; simp; omega
        obtain ⟨dg, hdg⟩ : ∃ d, UInt8.ofNat (48 + (j : Int)).toNat = d := ⟨_, rfl⟩
        have hln : linkS D.length ⟨o, d, s, th⟩ j = ⟨[67, dg], O, Q, if O = Q ∧ S = 0 then 12 else S, th⟩ := by
          unfold linkS digit
          simp only [hO', hQ', hS, ← hdg, show (48 + (j : Int)).toNat = 48 + j by omega]
        rw [hln] at hls
        have g0' := g0
        rw [← hX0] at g0'
        by_cases hoq : O = Q
        · by_cases hS0 : S = 0
          · subst hoq
            subst hS0
            have hE : (if O = O ∧ (0 : Int) = 0 then (12 : Int) else (0 : Int)) = 12 := by simp
            rw [hE] at hls
            obtain ⟨A, hA⟩ : ∃ A, (linksS D.length C j).map Em.coup.emb = A := ⟨_, rfl⟩
            have hAl : A.length = j := by rw [← hA, List.length_map, linksS_len]
            have hA0 : A = [] ∨ z3 = 5 := hz.imp (fun h => by rw [← hA, h]; rfl) id
            rw [hA] at g2
            have nX : notOwn (some X0) := by rw [← hX0]; trivial
            have u0 := app_keep (τ := [.box (.agg [.int .u8 o, .int .u8 d, .int .i8 s, .bool th]), .box (.agg [.str [67, dg], .int .i64 O, .int .i64 O, .int .i64 12, .bool th])]) g0
            have u1 := app_keep (τ := [.box (.agg [.int .u8 o, .int .u8 d, .int .i8 s, .bool th]), .box (.agg [.str [67, dg], .int .i64 O, .int .i64 O, .int .i64 12, .bool th])]) g1
            have u2 := app_keep (τ := [.box (.agg [.int .u8 o, .int .u8 d, .int .i8 s, .bool th]), .box (.agg [.str [67, dg], .int .i64 O, .int .i64 O, .int .i64 12, .bool th])]) g2
            have urow := hrow.more (τ := [.box (.agg [.int .u8 o, .int .u8 d, .int .i8 s, .bool th]), .box (.agg [.str [67, dg], .int .i64 O, .int .i64 O, .int .i64 12, .bool th])])
            obtain ⟨tok', σ4, hap, hr', hkeep, hnew⟩ := pappend_row (P := Tryz.prog) (t := 33) (e := 58) (k := 5) (b := 48) (s := z3) (xs := A) (p := .agg [.str [67, dg], .int .i64 O, .int .i64 O, .int .i64 12, .bool th]) (tk := .any) (tok := tk3)
              Tryz.underlying33 (by kernel_rfl) hA0 (by rw [hAl]; exact urow) (by omega) (by omega)
            have w0 := hkeep 0 _ (urow.ne u0 nX) u0
            have w1 := hkeep 1 _ (urow.ne u1 trivial) u1
            have w2 := hkeep 2 _ (urow.ne u2 trivial) u2
            rw [hAl] at hr'
            have gx := And.intro @q1 (And.intro @hj (And.intro @ha (And.intro @g0' (And.intro @g2 (And.intro @u2 (And.intro @hap (And.intro @w2 (And.intro @t1 (And.intro @t2 (And.intro @t3 (And.intro @t4 (And.intro @t5 (And.intro @hO (And.intro @hQ (And.intro @hS (And.intro @d2 (And.intro @d3 (@hdg))))))))))))))))))
            refine goA ?_
            clear gx
            have hlt4 : 2 < σ4.length := (List.getElem?_eq_some_iff.1 w2).1
            refine LoopI.normal (m - 1) (by omega) (by refine ⟨j + 1, 5, tok', σ4.set 2 (.box (.agg [.str [79, 114, 103, 97, 110], W, Y, .slice 5 (A ++ [.agg [.str [67, dg], .int .i64 O, .int .i64 O, .int .i64 12, .bool th]]) tok'])), ?_⟩; exact exF (⟨by omega, .inr rfl, hr'.set w2 trivial, (by rw [List.getElem?_set_ne (by omega)]; exact w0), (by rw [List.getElem?_set_ne (by omega)]; exact w1), (by rw [hls, List.map_append, hA]; exact List.getElem?_set_self hlt4)⟩) (by (first | rfl | (simp []; repeat (first | rfl | (apply And.intro))) | (simp []; done))) (by (first | rfl | (simp []; repeat (first | rfl | (apply And.intro))) | (simp []; done))))
          · subst hoq
            have hE : (if O = O ∧ S = 0 then (12 : Int) else S) = S := by simp [hS0]
            rw [hE] at hls
            obtain ⟨A, hA⟩ : ∃ A, (linksS D.length C j).map Em.coup.emb = A := ⟨_, rfl⟩
            have hAl : A.length = j := by rw [← hA, List.length_map, linksS_len]
            have hA0 : A = [] ∨ z3 = 5 := hz.imp (fun h => by rw [← hA, h]; rfl) id
            rw [hA] at g2
            have nX : notOwn (some X0) := by rw [← hX0]; trivial
            have u0 := app_keep (τ := [.box (.agg [.int .u8 o, .int .u8 d, .int .i8 s, .bool th]), .box (.agg [.str [67, dg], .int .i64 O, .int .i64 O, .int .i64 S, .bool th])]) g0
            have u1 := app_keep (τ := [.box (.agg [.int .u8 o, .int .u8 d, .int .i8 s, .bool th]), .box (.agg [.str [67, dg], .int .i64 O, .int .i64 O, .int .i64 S, .bool th])]) g1
            have u2 := app_keep (τ := [.box (.agg [.int .u8 o, .int .u8 d, .int .i8 s, .bool th]), .box (.agg [.str [67, dg], .int .i64 O, .int .i64 O, .int .i64 S, .bool th])]) g2
            have urow := hrow.more (τ := [.box (.agg [.int .u8 o, .int .u8 d, .int .i8 s, .bool th]), .box (.agg [.str [67, dg], .int .i64 O, .int .i64 O, .int .i64 S, .bool th])])
            obtain ⟨tok', σ4, hap, hr', hkeep, hnew⟩ := pappend_row (P := Tryz.prog) (t := 33) (e := 58) (k := 5) (b := 48) (s := z3) (xs := A) (p := .agg [.str [67, dg], .int .i64 O, .int .i64 O, .int .i64 S, .bool th]) (tk := .any) (tok := tk3)
              Tryz.underlying33 (by kernel_rfl) hA0 (by rw [hAl]; exact urow) (by omega) (by omega)
            have w0 := hkeep 0 _ (urow.ne u0 nX) u0
            have w1 := hkeep 1 _ (urow.ne u1 trivial) u1
            have w2 := hkeep 2 _ (urow.ne u2 trivial) u2
            rw [hAl] at hr'
            have gx := And.intro @q1 (And.intro @hj (And.intro @ha (And.intro @g0' (And.intro @g2 (And.intro @u2 (And.intro @hap (And.intro @w2 (And.intro @t1 (And.intro @t2 (And.intro @t3 (And.intro @t4 (And.intro @t5 (And.intro @hO (And.intro @hQ (And.intro @hS (And.intro @d2 (And.intro @d3 (And.intro @hdg (@hS0)))))))))))))))))))
            refine goA ?_
            clear gx
            have hlt4 : 2 < σ4.length := (List.getElem?_eq_some_iff.1 w2).1
            refine LoopI.normal (m - 1) (by omega) (by refine ⟨j + 1, 5, tok', σ4.set 2 (.box (.agg [.str [79, 114, 103, 97, 110], W, Y, .slice 5 (A ++ [.agg [.str [67, dg], .int .i64 O, .int .i64 O, .int .i64 S, .bool th]]) tok'])), ?_⟩; exact exF (⟨by omega, .inr rfl, hr'.set w2 trivial, (by rw [List.getElem?_set_ne (by omega)]; exact w0), (by rw [List.getElem?_set_ne (by omega)]; exact w1), (by rw [hls, List.map_append, hA]; exact List.getElem?_set_self hlt4)⟩) (by (first | rfl | (simp []; repeat (first | rfl | (apply And.intro))) | (simp []; done))) (by (first | rfl | (simp []; repeat (first | rfl | (apply And.intro))) | (simp []; done))))
        · skip
          have hE : (if O = Q ∧ S = 0 then (12 : Int) else S) = S := by simp [hoq]
          rw [hE] at hls
          obtain ⟨A, hA⟩ : ∃ A, (linksS D.length C j).map Em.coup.emb = A := ⟨_, rfl⟩
          have hAl : A.length = j := by rw [← hA, List.length_map, linksS_len]
          have hA0 : A = [] ∨ z3 = 5 := hz.imp (fun h => by rw [← hA, h]; rfl) id
          rw [hA] at g2
          have nX : notOwn (some X0) := by rw [← hX0]; trivial
          have u0 := app_keep (τ := [.box (.agg [.int .u8 o, .int .u8 d, .int .i8 s, .bool th]), .box (.agg [.str [67, dg], .int .i64 O, .int .i64 Q, .int .i64 S, .bool th])]) g0
          have u1 := app_keep (τ := [.box (.agg [.int .u8 o, .int .u8 d, .int .i8 s, .bool th]), .box (.agg [.str [67, dg], .int .i64 O, .int .i64 Q, .int .i64 S, .bool th])]) g1
          have u2 := app_keep (τ := [.box (.agg [.int .u8 o, .int .u8 d, .int .i8 s, .bool th]), .box (.agg [.str [67, dg], .int .i64 O, .int .i64 Q, .int .i64 S, .bool th])]) g2
          have urow := hrow.more (τ := [.box (.agg [.int .u8 o, .int .u8 d, .int .i8 s, .bool th]), .box (.agg [.str [67, dg], .int .i64 O, .int .i64 Q, .int .i64 S, .bool th])])
          obtain ⟨tok', σ4, hap, hr', hkeep, hnew⟩ := pappend_row (P := Tryz.prog) (t := 33) (e := 58) (k := 5) (b := 48) (s := z3) (xs := A) (p := .agg [.str [67, dg], .int .i64 O, .int .i64 Q, .int .i64 S, .bool th]) (tk := .any) (tok := tk3)
            Tryz.underlying33 (by kernel_rfl) hA0 (by rw [hAl]; exact urow) (by omega) (by omega)
          have w0 := hkeep 0 _ (urow.ne u0 nX) u0
          have w1 := hkeep 1 _ (urow.ne u1 trivial) u1
          have w2 := hkeep 2 _ (urow.ne u2 trivial) u2
          rw [hAl] at hr'
          have gx := And.intro @q1 (And.intro @hj (And.intro @ha (And.intro @g0' (And.intro @g2 (And.intro @u2 (And.intro @hap (And.intro @w2 (And.intro @t1 (And.intro @t2 (And.intro @t3 (And.intro @t4 (And.intro @t5 (And.intro @hO (And.intro @hQ (And.intro @hS (And.intro @d2 (And.intro @d3 (And.intro @hdg (@hoq)))))))))))))))))))
          refine goA ?_
          clear gx
          have hlt4 : 2 < σ4.length := (List.getElem?_eq_some_iff.1 w2).1
          refine LoopI.normal (m - 1) (by omega) (by refine ⟨j + 1, 5, tok', σ4.set 2 (.box (.agg [.str [79, 114, 103, 97, 110], W, Y, .slice 5 (A ++ [.agg [.str [67, dg], .int .i64 O, .int .i64 Q, .int .i64 S, .bool th]]) tok'])), ?_⟩; exact exF (⟨by omega, .inr rfl, hr'.set w2 trivial, (by rw [List.getElem?_set_ne (by omega)]; exact w0), (by rw [List.getElem?_set_ne (by omega)]; exact w1), (by rw [hls, List.map_append, hA]; exact List.getElem?_set_self hlt4)⟩) (by (first | rfl | (simp []; repeat (first | rfl | (apply And.intro))) | (simp []; done))) (by (first | rfl | (simp []; repeat (first | rfl | (apply And.intro))) | (simp []; done))))
      · have q1 : ¬ (j : Int) < (C.length : Int) := by omega
        obtain rfl : j = C.length := by omega
        have hzs : PD.strip (.slice z3 ((linksS D.length C C.length).map Em.coup.emb) tk3) = .slice (sz 5 (linksS D.length C C.length)) ((linksS D.length C C.length).map Em.coup.emb) .any := by
          rw [PD.strip_slice, show ((linksS D.length C C.length).map Em.coup.emb).map PD.strip = (linksS D.length C C.length).map Em.coup.emb by rw [List.map_map]; exact List.map_congr_left fun x _ => Em.coup.str x]
          rcases hz with h | h
          · rw [h]; rfl
          · rw [h]; simp [sz]
        obtain ⟨V, hV⟩ : ∃ V, PD.slice z3 ((linksS D.length C C.length).map Em.coup.emb) tk3 = V := ⟨_, rfl⟩
        have hVp : V.plain = true := by rw [← hV]; rfl
        rw [hV] at g2 hzs
        have hs1 : ∀ x, (σ.set 1 x)[1]? = some x := fun x => List.getElem?_set_self (List.getElem?_eq_some_iff.1 g1).1
        have g0' := g0
        rw [← hX0] at g0'
        have hWq := hWp
        have hYq := hYp
        have hVq := hVp
        unfold PD.plain at hWq hYq hVq
        have gx := And.intro @q1 (And.intro @g0' (And.intro @g1 (And.intro @g2 (And.intro @hWq (And.intro @hYq (@hVq))))))
        refine goA ?_
        clear gx
        simp (disch := first | omega | (simp; done) | (simp; omega)) [decide_eq_decide, hs1, hWs', hYs, hzs] <;> try rfl
end Go.Kz

/-
  Layer 18: organ.Check.
-/
namespace Go.Kz
open Go Go.Proofs
set_option maxRecDepth 100000
set_option maxHeartbeats 4000000
-- %maps
def rnGo : List (List UInt8) → List RankD → Int
  | _, [] => 0
  | ns, r :: t => if rankE r ≠ 0 then rankE r else if seenB ns r.name = true then 9 else rnGo (ns ++ [r.name]) t
def divsGo (rs : List RankD) : List (List UInt8) → List DivD → Int
  | _, [] => 0
  | ns, d :: t => if nameB d.name = false then 8 else if seenB ns d.name = true then 9 else if divE rs d ≠ 0 then divE rs d else divsGo rs (ns ++ [d.name]) t
def keysOf (l : List DivD) : List (Int × Int) := l.map fun d => (d.low, d.high)
def partE (o : OrganD) : Int := if o.divs.length = 0 then 13 else if 8 < o.divs.length then 4 else if divsGo o.ranks [] o.divs ≠ 0 then divsGo o.ranks [] o.divs else couplerE (keysOf o.divs) o.coups
def organE (o : OrganD) : Int := if nameB o.name = false then 8 else if 60 < o.ranks.length then 4 else if rnGo [] o.ranks ≠ 0 then rnGo [] o.ranks else partE o
def okDv (d : DivD) : Prop := okN d.name ∧ d.stops.length ≤ 1000000 ∧ ∀ s ∈ d.stops, okSt s
def okOr (o : OrganD) : Prop := okN o.name ∧ okPlace o.ranks ∧ (o.divs.length ≤ 1000000 ∧ ∀ d ∈ o.divs, okDv d) ∧ o.coups.length ≤ 1000000 ∧ ∀ x ∈ o.coups, okN x.name
noncomputable def gDv : Nat → List PD → List SObj → Option (PD × List SObj) := entry (gf2 Em.organ Em.div i64 fun o d => gif (okPlace o.ranks ∧ okDv d) (some (divE o.ranks d)))
theorem gDv_of {o : OrganD} {d : DivD} (h : okPlace o.ranks) (hs : okDv d) (fl : Nat) (σ : List SObj) : gDv fl [Em.organ.emb o, Em.div.emb d] σ = some (.int .i64 (divE o.ranks d), σ) := by
  have e1 := Em.dec_some (Em.organ.str o)
  have e2 := Em.dec_some (Em.div.str d)
  unfold gDv entry gf2
  simp only [e1, e2]
  rw [gif_pos ⟨h, hs⟩]
  rfl
noncomputable def gCl : Nat → List PD → List SObj → Option (PD × List SObj) := entry (gf2 compsE coupsE i64 fun ks l => gif (ks.length ≤ 1000000 ∧ l.length ≤ 1000000 ∧ ∀ x ∈ l, okN x.name) (some (couplerE ks l)))
theorem gCl_of {ks : List (Int × Int)} {l : List CoupD} {p : PD} (h1 : ks.length ≤ 1000000) (h2 : l.length ≤ 1000000) (h3 : ∀ x ∈ l, okN x.name) (hp : p.strip = compsE.emb ks) (fl : Nat) (σ : List SObj) : gCl fl [p, coupsE.emb l] σ = some (.int .i64 (couplerE ks l), σ) := by
  have e1 := Em.dec_some hp
  have e2 := Em.dec_some (coupsE.str l)
  unfold gCl entry gf2
  simp only [e1, e2]
  rw [gif_pos ⟨h1, h2, h3⟩]
  rfl
variable {E : PExt} (hU : Uni E)
include hU
theorem r_organ (h0 : E 27 = none) (h1 : E 60 = some gNm) (h2 : E 61 = some gRk) (h3 : E 62 = some gAg) (h4 : E 63 = some gDv) (h5 : E 64 = some gCl) (o : OrganD) (ho : okOr o) :
    Run Tryz.prog E 27 [Em.organ.emb o] (i64.emb (organE o)) := by
  have hO := fun d (hd : okDv d) => gDv_of (o := o) ho.2.1 hd
  obtain ⟨on, rs, od, oc⟩ := o
  obtain ⟨hon, hrs, ⟨hdl, hdd⟩, hcl, hcn⟩ := ho
  simp only at hon hrs hdl hdd hcl hcn
  have hN := gNm_of hon
  simp only [emb_organ, emb_list] at hO
  unfold organE
  simp only [emb_organ, emb_list]
  cases c1 : nameB on with
  | false =>
    rw [c1] at hN
    rw [if_pos rfl]
    apply Run.bodyL h0 Tryz.func27 rfl
    focus (simp [show Tryz.f27.ntmps = _ from rfl, List.replicate]; rfl)
    have gx := And.intro @h1 (@hN)
    refine goM ?_
    clear gx
    simp (disch := first | omega | (simp; done) | (simp; omega)) [decide_eq_decide] <;> try rfl
  | true =>
  rw [c1] at hN
  rw [if_neg (by simp)]
  by_cases c2 : 60 < rs.length
  · have c3 : 60 < (rs.length : Int) := by omega
    rw [if_pos c2]
    apply Run.bodyL h0 Tryz.func27 rfl
    focus (simp [show Tryz.f27.ntmps = _ from rfl, List.replicate]; rfl)
    have gx := And.intro @h1 (And.intro @hN (And.intro @c2 (@c3)))
    refine goM ?_
    clear gx
    simp (disch := first | omega | (simp; done) | (simp; omega)) [decide_eq_decide] <;> try rfl
  have c3 : ¬ 60 < (rs.length : Int) := by omega
  rw [if_neg c2]
  obtain ⟨C, hC⟩ : ∃ C, partE ⟨on, rs, od, oc⟩ = C := ⟨_, rfl⟩
  rw [hC]
  obtain ⟨B, hB⟩ : ∃ B, (if rnGo [] rs ≠ 0 then rnGo [] rs else C) = B := ⟨_, rfl⟩
  rw [hB]
  have us := u_seen
  apply Run.bodyL h0 Tryz.func27 rfl
  focus (simp [show Tryz.f27.ntmps = _ from rfl, List.replicate]; rfl)
  have gx := And.intro @h1 (And.intro @hN (And.intro @c2 (And.intro @c3 (@us))))
  refine goM ?_
  clear gx
  obtain ⟨X, hX⟩ : ∃ X, SObj.box (.agg [.str on, .slice (sz 6 rs) (rs.map Em.rank.emb) .any, .slice (sz 5 od) (od.map Em.div.emb) .any, .slice (sz 5 oc) (oc.map Em.coup.emb) .any]) = X := ⟨_, rfl⟩
  refine Wp.loopI (fun m fr σ => ∃ (i : Nat) (σ1 : List SObj), ∃ gg : Nat → PD, (i + m = rs.length ∧ σ1[0]? = some X ∧ σ1[1]? = some (mapN ((rs.take i).map RankD.name)) ∧ (if rnGo ((rs.take i).map RankD.name) (rs.drop i) ≠ 0 then rnGo ((rs.take i).map RankD.name) (rs.drop i) else C) = B) ∧ fr = gg 0 :: .ptr 0 0 :: gg 2 :: .mref 1 :: gg 4 :: gg 5 :: gg 6 :: gg 7 :: gg 8 :: gg 9 :: gg 10 :: gg 11 :: gg 12 :: gg 13 :: gg 14 :: gg 15 :: gg 16 :: gg 17 :: gg 18 :: gg 19 :: gg 20 :: gg 21 :: gg 22 :: gg 23 :: gg 24 :: ranks.emb rs :: .int .i64 rs.length :: .int .i64 i :: gg 28 :: gg 29 :: gg 30 :: gg 31 :: gg 32 :: gg 33 :: gg 34 :: gg 35 :: gg 36 :: gg 37 :: gg 38 :: gg 39 :: gg 40 :: gg 41 :: gg 42 :: gg 43 :: gg 44 :: gg 45 :: gg 46 :: gg 47 :: gg 48 :: gg 49 :: gg 50 :: gg 51 :: gg 52 :: gg 53 :: gg 54 :: gg 55 :: gg 56 :: gg 57 :: gg 58 :: gg 59 :: gg 60 :: gg 61 :: gg 62 :: gg 63 :: gg 64 :: gg 65 :: gg 66 :: gg 67 :: gg 68 :: gg 69 :: gg 70 :: gg 71 :: gg 72 :: gg 73 :: gg 74 :: gg 75 :: gg 76 :: gg 77 :: gg 78 :: gg 79 :: gg 80 :: gg 81 :: gg 82 :: gg 83 :: gg 84 :: gg 85 :: gg 86 :: gg 87 :: gg 88 :: [] ∧ σ = σ1) ?_ (rs.length) (by refine ⟨0, [X, .map []], ?_⟩; exact exF (⟨by omega, rfl, rfl, hB⟩) (by (first | rfl | (simp [hX]; repeat (first | rfl | (apply And.intro))) | (simp [hX]; done))) (by (first | rfl | (simp [hX]; repeat (first | rfl | (apply And.intro))) | (simp [hX]; done))))
  rintro m fr σ ⟨i, σ1, gg, hI, rfl, rfl⟩
  obtain ⟨hm, hx0, hz0, hs⟩ := hI
  by_cases hi : i < rs.length
  · have q1 : (i : Int) < (rs.length : Int) := by omega
    obtain ⟨a, ha⟩ : ∃ a, rs[i] = a := ⟨_, rfl⟩
    have hc4 : rs.drop i = a :: rs.drop (i + 1) := by rw [List.drop_eq_getElem_cons hi, ha]
    have htk : (rs.take (i + 1)).map RankD.name = (rs.take i).map RankD.name ++ [a.name] := by rw [List.take_succ_eq_append_getElem hi, ha, List.map_append]; rfl
    have hE := gRk_of (hrs.1 a (ha ▸ List.getElem_mem hi))
    rw [hc4] at hs
    unfold rnGo at hs
    have hlt0 := (List.getElem?_eq_some_iff.1 hx0).1
    have hlt2 := (List.getElem?_eq_some_iff.1 hz0).1
    have j0 : ∀ x : SObj, (σ ++ [x])[σ.length]? = some x := fun x => by simp
    obtain ⟨a0, a1, a2, a3, a4, a5⟩ := a
    obtain ⟨e, he⟩ : ∃ e, rankE ⟨a0, a1, a2, a3, a4, a5⟩ = e := ⟨_, rfl⟩
    rw [he] at hE hs
    simp only [emb_rank, emb_list] at hE
    simp only at hs htk
    by_cases c4 : e = 0
    rotate_left
    · simp only [ne_eq, c4, not_false_eq_true, if_true] at hs
      subst hs
      have gx := And.intro @q1 (And.intro @hi (And.intro @ha (And.intro @j0 (And.intro @h2 (And.intro @hE (@c4))))))
      refine goM ?_
      clear gx
      simp (disch := first | omega | (simp; done) | (simp; omega)) [decide_eq_decide] <;> try rfl
    subst c4
    simp only [ne_eq, not_true_eq_false, if_false] at hs
    obtain ⟨Z, hZ⟩ : ∃ Z, SObj.box (.agg [.str a0, .str a1, .int .i64 a2, .int .i64 a3, .int .i64 a4, .slice (sz 1 a5) (a5.map i64.emb) .any]) = Z := ⟨_, rfl⟩
    have hmz : (σ ++ [Z])[1]? = some (mapN ((rs.take i).map RankD.name)) := by rw [List.getElem?_append_left hlt2]; exact hz0
    cases hb : seenB ((rs.take i).map RankD.name) a0 with
    | true =>
      rw [hb] at hs
      simp only [if_true, show ¬ (9 : Int) = 0 by omega, not_false_eq_true] at hs
      subst hs
      have hA := fun fl => gAg_9 (fl := fl) hmz hb
      rw [← hZ] at hA
      have gx := And.intro @q1 (And.intro @hi (And.intro @ha (And.intro @j0 (And.intro @h2 (And.intro @hE (And.intro @h3 (@hA)))))))
      refine goM ?_
      clear gx
      simp (disch := first | omega | (simp; done) | (simp; omega)) [decide_eq_decide] <;> try rfl
    | false =>
      rw [hb] at hs
      simp only [Bool.false_eq_true, if_false] at hs
      have hA := gAg_0 (fl := 0) hmz hb (Nat.zero_le _)
      obtain ⟨τ2, hτ⟩ : ∃ t, (σ ++ [Z]).set 1 (mapN ((rs.take i).map RankD.name ++ [a0])) = t := ⟨_, rfl⟩
      have t0 : τ2[0]? = some X := by rw [← hτ, List.getElem?_set_ne (by omega), List.getElem?_append_left hlt0]; exact hx0
      have t2 : τ2[1]? = some (mapN ((rs.take i).map RankD.name ++ [a0])) := by rw [← hτ]; exact List.getElem?_set_self (by simp; omega)
      rw [hτ] at hA
      rw [← hZ] at hA
      clear hτ
      have gx := And.intro @q1 (And.intro @hi (And.intro @ha (And.intro @j0 (And.intro @h2 (And.intro @hE (And.intro @h3 (@hA)))))))
      refine goM ?_
      clear gx
      refine LoopI.normal (m - 1) (by omega) (by refine ⟨i + 1, τ2, ?_⟩; exact exF (⟨by omega, t0, by rw [htk]; exact t2, by rw [htk]; exact hs⟩) (by (first | rfl | (simp []; repeat (first | rfl | (apply And.intro))) | (simp []; done))) (by (first | rfl | (simp []; repeat (first | rfl | (apply And.intro))) | (simp []; done))))
  have q1 : ¬ (i : Int) < (rs.length : Int) := by omega
  rw [List.drop_eq_nil_of_le (by omega)] at hs
  have hs2 : C = B := hs
  rw [hs2] at hC
  clear hs hs2 hB
  have hx1 := hx0
  rw [← hX] at hx1
  obtain ⟨hlt0, hxe⟩ := List.getElem?_eq_some_iff.1 hx1
  unfold partE at hC
  simp only at hC
  by_cases c4 : od.length = 0
  · rw [if_pos c4] at hC
    subst hC
    have c5 : od = [] := List.eq_nil_of_length_eq_zero c4
    subst c5
    have gx := And.intro @q1 (And.intro @hx1 (And.intro @hlt0 (@hxe)))
    refine goM ?_
    clear gx
    simp (disch := first | omega | (simp; done) | (simp; omega)) [decide_eq_decide] <;> try rfl
  rw [if_neg c4] at hC
  have c4' : ¬ od = [] := fun h => c4 (by rw [h]; rfl)
  by_cases c5 : 8 < od.length
  · rw [if_pos c5] at hC
    subst hC
    have c6 : 8 < (od.length : Int) := by omega
    have gx := And.intro @q1 (And.intro @hx1 (And.intro @hlt0 (And.intro @hxe (And.intro @c4 (And.intro @c4' (And.intro @c5 (@c6)))))))
    refine goM ?_
    clear gx
    simp (disch := first | omega | (simp; done) | (simp; omega)) [decide_eq_decide] <;> try rfl
  rw [if_neg c5] at hC
  have c6 : ¬ 8 < (od.length : Int) := by omega
  have gx := And.intro @q1 (And.intro @hx1 (And.intro @hlt0 (And.intro @hxe (And.intro @c4 (And.intro @c4' (And.intro @c5 (And.intro @c6 (@us))))))))
  refine goM ?_
  clear gx
  obtain ⟨M, hM⟩ : ∃ M, σ.length = M := ⟨_, rfl⟩
  obtain ⟨σa, hσa⟩ : ∃ t, σ ++ [SObj.map []] = t := ⟨_, rfl⟩
  have g0 : σa[0]? = some X := by rw [← hσa, List.getElem?_append_left hlt0]; exact hx0
  have gM : σa[M]? = some (mapN []) := by rw [← hσa, ← hM]; simp; rfl
  have hM0 : 0 < M := by omega
  rw [hσa, hM]
  clear hσa hM q1
  refine Wp.loopI (fun m fr σ => ∃ (j z : Nat) (tok : Tok) (σ1 : List SObj), ∃ gg : Nat → PD, (j + m = od.length ∧ σ1[0]? = some X ∧ σ1[M]? = some (mapN ((od.take j).map DivD.name)) ∧ (keysOf (od.take j) = [] ∨ z = 2) ∧ RowAt σ1 tok 50 2 j ∧ (if divsGo rs ((od.take j).map DivD.name) (od.drop j) ≠ 0 then divsGo rs ((od.take j).map DivD.name) (od.drop j) else couplerE (keysOf od) oc) = B) ∧ fr = gg 0 :: .ptr 0 0 :: gg 2 :: .mref M :: gg 4 :: gg 5 :: gg 6 :: gg 7 :: .slice z ((keysOf (od.take j)).map Em.feet.emb) tok :: gg 9 :: gg 10 :: gg 11 :: gg 12 :: gg 13 :: gg 14 :: gg 15 :: gg 16 :: gg 17 :: gg 18 :: gg 19 :: gg 20 :: gg 21 :: gg 22 :: gg 23 :: gg 24 :: gg 25 :: gg 26 :: gg 27 :: gg 28 :: gg 29 :: gg 30 :: gg 31 :: gg 32 :: gg 33 :: gg 34 :: gg 35 :: gg 36 :: gg 37 :: gg 38 :: gg 39 :: gg 40 :: gg 41 :: gg 42 :: gg 43 :: gg 44 :: gg 45 :: gg 46 :: gg 47 :: gg 48 :: gg 49 :: gg 50 :: gg 51 :: gg 52 :: gg 53 :: gg 54 :: gg 55 :: divsE.emb od :: .int .i64 od.length :: .int .i64 j :: gg 59 :: gg 60 :: gg 61 :: gg 62 :: gg 63 :: gg 64 :: gg 65 :: gg 66 :: gg 67 :: gg 68 :: gg 69 :: gg 70 :: gg 71 :: gg 72 :: gg 73 :: gg 74 :: gg 75 :: gg 76 :: gg 77 :: gg 78 :: gg 79 :: gg 80 :: gg 81 :: gg 82 :: gg 83 :: gg 84 :: gg 85 :: gg 86 :: gg 87 :: gg 88 :: [] ∧ σ = σ1) ?_ (od.length) (by refine ⟨0, 0, .full, σa, ?_⟩; exact exF (⟨by omega, g0, gM, .inl rfl, .inl ⟨rfl, rfl⟩, hC⟩) (by (first | rfl | (simp [keysOf]; repeat (first | rfl | (apply And.intro))) | (simp [keysOf]; done))) (by (first | rfl | (simp [keysOf]; repeat (first | rfl | (apply And.intro))) | (simp [keysOf]; done))))
  rintro m fr σ ⟨j, z, tok, σ1, gg, hI, rfl, rfl⟩
  obtain ⟨hm2, hx2, hz2, hzz, hrow, hs2⟩ := hI
  have hx3 := hx2
  rw [← hX] at hx3
  obtain ⟨hlt3, hxe3⟩ := List.getElem?_eq_some_iff.1 hx3
  by_cases hj : j < od.length
  · have q1 : (j : Int) < (od.length : Int) := by omega
    obtain ⟨a, ha⟩ : ∃ a, od[j] = a := ⟨_, rfl⟩
    have hda : okDv a := hdd a (ha ▸ List.getElem_mem hj)
    have hc4 : od.drop j = a :: od.drop (j + 1) := by rw [List.drop_eq_getElem_cons hj, ha]
    have htk : (od.take (j + 1)).map DivD.name = (od.take j).map DivD.name ++ [a.name] := by rw [List.take_succ_eq_append_getElem hj, ha, List.map_append]; rfl
    have hkk : keysOf (od.take (j + 1)) = keysOf (od.take j) ++ [(a.low, a.high)] := by unfold keysOf; rw [List.take_succ_eq_append_getElem hj, ha, List.map_append]; rfl
    have hkl : (keysOf (od.take j)).length = j := by unfold keysOf; rw [List.length_map, List.length_take]; omega
    have hnn := gNm_of hda.1
    have hE := hO a hda
    rw [hc4] at hs2
    unfold divsGo at hs2
    have hlt4 := (List.getElem?_eq_some_iff.1 hz2).1
    have j0 : ∀ x : SObj, (σ ++ [x])[σ.length]? = some x := fun x => by simp
    obtain ⟨a0, a1, a2, a3, a4⟩ := a
    obtain ⟨e, he⟩ : ∃ e, divE rs ⟨a0, a1, a2, a3, a4⟩ = e := ⟨_, rfl⟩
    simp only [he, emb_div, emb_list] at hE
    rw [he] at hs2
    simp only at hs2 htk hnn hkk
    cases d1 : nameB a0 with
    | false =>
      rw [d1] at hnn hs2
      simp only [if_true, show ¬ (8 : Int) = 0 by omega, ne_eq, not_false_eq_true] at hs2
      subst hs2
      have gx := And.intro @q1 (And.intro @hj (And.intro @ha (And.intro @j0 (And.intro @h1 (@hnn)))))
      refine goM ?_
      clear gx
      simp (disch := first | omega | (simp; done) | (simp; omega)) [decide_eq_decide] <;> try rfl
    | true =>
    rw [d1] at hnn hs2
    simp only [Bool.true_eq_false, if_false] at hs2
    obtain ⟨Z, hZ⟩ : ∃ Z, SObj.box (.agg [.str a0, .bool a1, .int .i64 a2, .int .i64 a3, .slice (sz 4 a4) (a4.map Em.stop.emb) .any]) = Z := ⟨_, rfl⟩
    have hmz : (σ ++ [Z])[M]? = some (mapN ((od.take j).map DivD.name)) := by rw [List.getElem?_append_left hlt4]; exact hz2
    cases hb : seenB ((od.take j).map DivD.name) a0 with
    | true =>
      rw [hb] at hs2
      simp only [if_true, show ¬ (9 : Int) = 0 by omega, ne_eq, not_false_eq_true] at hs2
      subst hs2
      have hA := fun fl => gAg_9 (fl := fl) hmz hb
      rw [← hZ] at hA
      have gx := And.intro @q1 (And.intro @hj (And.intro @ha (And.intro @j0 (And.intro @h1 (And.intro @hnn (And.intro @h3 (@hA)))))))
      refine goM ?_
      clear gx
      simp (disch := first | omega | (simp; done) | (simp; omega)) [decide_eq_decide] <;> try rfl
    | false =>
    rw [hb] at hs2
    simp only [Bool.false_eq_true, if_false] at hs2
    have hA := gAg_0 (fl := 0) hmz hb (Nat.zero_le _)
    obtain ⟨τ2, hτ⟩ : ∃ t, (σ ++ [Z]).set M (mapN ((od.take j).map DivD.name ++ [a0])) = t := ⟨_, rfl⟩
    have t0 : τ2[0]? = some X := by rw [← hτ, List.getElem?_set_ne (by omega), List.getElem?_append_left hlt3]; exact hx2
    have t2 : τ2[M]? = some (mapN ((od.take j).map DivD.name ++ [a0])) := by rw [← hτ]; exact List.getElem?_set_self (by simp; omega)
    have tz : τ2[σ.length]? = some Z := by rw [← hτ, List.getElem?_set_ne (by omega)]; exact j0 Z
    have tr : RowAt τ2 tok 50 2 j := by rw [← hτ]; exact hrow.more.set hmz trivial
    rw [hτ] at hA
    rw [← hZ] at hA tz
    have t0' := t0
    rw [← hX] at t0'
    obtain ⟨l0, te0⟩ := List.getElem?_eq_some_iff.1 t0'
    obtain ⟨l1, te1⟩ := List.getElem?_eq_some_iff.1 tz
    clear hτ
    by_cases d2 : e = 0
    rotate_left
    · simp only [ne_eq, d2, not_false_eq_true, if_true] at hs2
      subst hs2
      have gx := And.intro @q1 (And.intro @hj (And.intro @ha (And.intro @j0 (And.intro @h1 (And.intro @hnn (And.intro @h3 (And.intro @hA (And.intro @t0' (And.intro @l0 (And.intro @te0 (And.intro @tz (And.intro @l1 (And.intro @te1 (And.intro @h4 (And.intro @hE (@d2))))))))))))))))
      refine goM ?_
      clear gx
      simp (disch := first | omega | (simp; done) | (simp; omega)) [decide_eq_decide] <;> try rfl
    subst d2
    simp only [ne_eq, not_true_eq_false, if_false] at hs2
    obtain ⟨A, hAA⟩ : ∃ A, (keysOf (od.take j)).map Em.feet.emb = A := ⟨_, rfl⟩
    have hAl : A.length = j := by rw [← hAA, List.length_map, hkl]
    obtain ⟨tok', σ4, hap, hr', hkeep, hnew⟩ := pappend_row (P := Tryz.prog) (t := 98) (e := 50) (k := 2) (b := 16) (s := z) (xs := A) (p := .agg [.int .i64 a2, .int .i64 a3]) (tk := .any) (tok := tok) (σ := τ2)
      Tryz.underlying98 (by kernel_rfl) (hzz.imp (fun h => by rw [← hAA, h]; rfl) id) (by rw [hAl]; exact tr) (by omega) (by omega)
    have nX : notOwn (some X) := by rw [← hX]; trivial
    have w0 := hkeep 0 _ (tr.ne t0 nX) t0
    have w2 := hkeep M _ (tr.ne t2 trivial) t2
    rw [hAl] at hr'
    have gx := And.intro @q1 (And.intro @hj (And.intro @ha (And.intro @j0 (And.intro @h1 (And.intro @hnn (And.intro @h3 (And.intro @hA (And.intro @t0' (And.intro @l0 (And.intro @te0 (And.intro @tz (And.intro @l1 (And.intro @te1 (And.intro @h4 (And.intro @hE (And.intro @hAA (@hap)))))))))))))))))
    refine goM ?_
    clear gx
    have hK : (keysOf (od.take (j + 1))).map Em.feet.emb = A ++ [.agg [.int .i64 a2, .int .i64 a3]] := by rw [hkk, List.map_append, hAA]; rfl
    refine LoopI.normal (m - 1) (by omega) (by refine ⟨j + 1, 2, tok', σ4, ?_⟩; exact exF (⟨by omega, w0, by rw [htk]; exact w2, .inr rfl, hr', by rw [htk]; exact hs2⟩) (by (first | rfl | (simp [hK]; repeat (first | rfl | (apply And.intro))) | (simp [hK]; done))) (by (first | rfl | (simp [hK]; repeat (first | rfl | (apply And.intro))) | (simp [hK]; done))))
  · have q1 : ¬ (j : Int) < (od.length : Int) := by omega
    obtain rfl : j = od.length := by omega
    rw [List.drop_length] at hs2
    have hs3 : couplerE (keysOf od) oc = B := hs2
    rw [List.take_length] at hzz ⊢
    have hkn : keysOf od ≠ [] := fun h => c4' (by simpa [keysOf] using h)
    have hz1 : z = 2 := hzz.resolve_left hkn
    subst hz1
    have hst : (PD.slice 2 ((keysOf od).map Em.feet.emb) tok).strip = compsE.emb (keysOf od) := by
      rw [PD.strip_slice, show ((keysOf od).map Em.feet.emb).map PD.strip = (keysOf od).map Em.feet.emb by rw [List.map_map]; exact List.map_congr_left fun x _ => Em.feet.str x]
      rw [emb_list]
      simp [sz, hkn]
    have hE := gCl_of (ks := keysOf od) (l := oc) (by unfold keysOf; rw [List.length_map]; exact hdl) hcl hcn hst
    rw [hs3] at hE
    simp only [emb_list] at hE
    have gx := And.intro @q1 (And.intro @hx3 (And.intro @hlt3 (And.intro @hxe3 (And.intro @h5 (@hE)))))
    refine goM ?_
    clear gx
    simp (disch := first | omega | (simp; done) | (simp; omega)) [decide_eq_decide] <;> try rfl
end Go.Kz

/-
  Chapter 51: closures that compare names (compare.Common).
-/
namespace Go.Kz
open Go Go.Proofs
set_option maxRecDepth 100000
set_option maxHeartbeats 4000000

def gClD : Nat → List PD → List SObj → Option (PD × List SObj) := fun _ args σ => match args with
  | [.agg [.str n, .bool x1, .int .i64 x2, .int .i64 x3, .slice xk xl xt], .ptr id 0] => match σ[id]? with
    | some (.box (.agg [.str nm, .bool _, .int .i64 _, .int .i64 _, .slice _ _ _])) => some (.bool (decide (n = nm)), σ ++ [.box (.agg [.str n, .bool x1, .int .i64 x2, .int .i64 x3, .slice xk xl xt])])
    | _ => none
  | _ => none
section
variable {E : PExt} (hU : Uni E)
include hU
theorem r_clD (h0 : E 53 = none) (fl : Nat) (x0 : List UInt8) (x1 : Bool) (x2 : Int) (x3 : Int) (xk : Nat) (xl : List PD) (xt : Tok) (nm : List UInt8) (y1 : Bool) (y2 : Int) (y3 : Int) (yk : Nat) (yl : List PD) (yt : Tok) (id : Nat) (τ : List SObj) (hid : τ[id]? = some (.box (.agg [.str nm, .bool y1, .int .i64 y2, .int .i64 y3, .slice yk yl yt]))) :
    WpC Tryz.prog E fl (.inl 53) [.agg [.str x0, .bool x1, .int .i64 x2, .int .i64 x3, .slice xk xl xt], .ptr id 0] τ (fun p1 σ1 => p1 = .bool (decide (x0 = nm)) ∧ σ1 = τ ++ [.box (.agg [.str x0, .bool x1, .int .i64 x2, .int .i64 x3, .slice xk xl xt])]) := by
  obtain ⟨hlt, he⟩ := List.getElem?_eq_some_iff.1 hid
  have j0 : ∀ x : SObj, (τ ++ [x])[τ.length]? = some x := fun x => by simp
  by_cases c : x0 = nm
  · rw [decide_eq_true c]
    apply WpC.bodyL h0 Tryz.func53 rfl
    focus (simp [show Tryz.f53.ntmps = _ from rfl, List.replicate]; rfl)
    have gx := And.intro @j0 (And.intro @hid (And.intro @hlt (And.intro @he (@c))))
    refine goA ?_
    clear gx
    exact ⟨_, _, rfl, rfl, rfl⟩
  · rw [decide_eq_false c]
    have f0 : (x0 == nm) = false := by simpa using c
    apply WpC.bodyL h0 Tryz.func53 rfl
    focus (simp [show Tryz.f53.ntmps = _ from rfl, List.replicate]; rfl)
    have gx := And.intro @j0 (And.intro @hid (And.intro @hlt (And.intro @he (And.intro @c (@f0)))))
    refine goA ?_
    clear gx
    exact ⟨_, _, rfl, rfl, rfl⟩
theorem lib_clD (hE : ExtOk Tryz.prog E) (h0 : E 53 = none) : ExtOk Tryz.prog (E.add 53 gClD) :=
  hE.add (by kernel_rfl) fun fl args σ p σ' h => by
    unfold gClD at h
    split at h
    · split at h
      · rename_i hid
        simp only [Option.some.injEq, Prod.mk.injEq] at h
        obtain ⟨rfl, rfl⟩ := h
        exact WpC.ex2 (r_clD hU h0 fl _ _ _ _ _ _ _ _ _ _ _ _ _ _ _ σ hid)
      · cases h
    · cases h
end

def gClS : Nat → List PD → List SObj → Option (PD × List SObj) := fun _ args σ => match args with
  | [.agg [.str n, .int .i64 x1, .int .i64 x2, .slice xk xl xt], .ptr id 0] => match σ[id]? with
    | some (.box (.agg [.str nm, .int .i64 _, .int .i64 _, .slice _ _ _])) => some (.bool (decide (n = nm)), σ ++ [.box (.agg [.str n, .int .i64 x1, .int .i64 x2, .slice xk xl xt])])
    | _ => none
  | _ => none
section
variable {E : PExt} (hU : Uni E)
include hU
theorem r_clS (h0 : E 55 = none) (fl : Nat) (x0 : List UInt8) (x1 : Int) (x2 : Int) (xk : Nat) (xl : List PD) (xt : Tok) (nm : List UInt8) (y1 : Int) (y2 : Int) (yk : Nat) (yl : List PD) (yt : Tok) (id : Nat) (τ : List SObj) (hid : τ[id]? = some (.box (.agg [.str nm, .int .i64 y1, .int .i64 y2, .slice yk yl yt]))) :
    WpC Tryz.prog E fl (.inl 55) [.agg [.str x0, .int .i64 x1, .int .i64 x2, .slice xk xl xt], .ptr id 0] τ (fun p1 σ1 => p1 = .bool (decide (x0 = nm)) ∧ σ1 = τ ++ [.box (.agg [.str x0, .int .i64 x1, .int .i64 x2, .slice xk xl xt])]) := by
  obtain ⟨hlt, he⟩ := List.getElem?_eq_some_iff.1 hid
  have j0 : ∀ x : SObj, (τ ++ [x])[τ.length]? = some x := fun x => by simp
  by_cases c : x0 = nm
  · rw [decide_eq_true c]
    apply WpC.bodyL h0 Tryz.func55 rfl
    focus (simp [show Tryz.f55.ntmps = _ from rfl, List.replicate]; rfl)
    have gx := And.intro @j0 (And.intro @hid (And.intro @hlt (And.intro @he (@c))))
    refine goA ?_
    clear gx
    exact ⟨_, _, rfl, rfl, rfl⟩
  · rw [decide_eq_false c]
    have f0 : (x0 == nm) = false := by simpa using c
    apply WpC.bodyL h0 Tryz.func55 rfl
    focus (simp [show Tryz.f55.ntmps = _ from rfl, List.replicate]; rfl)
    have gx := And.intro @j0 (And.intro @hid (And.intro @hlt (And.intro @he (And.intro @c (@f0)))))
    refine goA ?_
    clear gx
    exact ⟨_, _, rfl, rfl, rfl⟩
theorem lib_clS (hE : ExtOk Tryz.prog E) (h0 : E 55 = none) : ExtOk Tryz.prog (E.add 55 gClS) :=
  hE.add (by kernel_rfl) fun fl args σ p σ' h => by
    unfold gClS at h
    split at h
    · split at h
      · rename_i hid
        simp only [Option.some.injEq, Prod.mk.injEq] at h
        obtain ⟨rfl, rfl⟩ := h
        exact WpC.ex2 (r_clS hU h0 fl _ _ _ _ _ _ _ _ _ _ _ _ _ σ hid)
      · cases h
    · cases h
end
end Go.Kz

/-
  Chapter 51: where a division, a stop with a name lies.
-/
namespace Go.Kz
open Go Go.Proofs
set_option maxRecDepth 100000
set_option maxHeartbeats 4000000

def bxD (x : DivD) : SObj := .box (Em.div.emb x)
def nmD (nm : List UInt8) (x : DivD) : Bool := decide (x.name = nm)
section
variable {E : PExt} (hU : Uni E)
include hU
theorem r_IndexFuncD (h0 : E 52 = none) (h1 : E 53 = some gClD) (fl : Nat) (l : List DivD) (nm : List UInt8) (y1 : Bool) (y2 y3 : Int) (yk : Nat) (yl : List PD) (yt : Tok) (id : Nat) (τ : List SObj) (hid : τ[id]? = some (.box (.agg [.str nm, .bool y1, .int .i64 y2, .int .i64 y3, .slice yk yl yt]))) (hl : l.length ≤ 1000000) :
    WpC Tryz.prog E fl (.inl 52) [(Em.div.list 5).emb l, .func 53 [.ptr id 0]] τ (fun p1 σ1 => p1 = .int .i64 (ixF (nmD nm) l 0) ∧ σ1 = τ ++ (l.take (visN (nmD nm) l)).map bxD) := by
  obtain ⟨B, hB⟩ : ∃ B, ixF (nmD nm) l 0 = B := ⟨_, rfl⟩
  obtain ⟨V, hV⟩ : ∃ B, visN (nmD nm) l = B := ⟨_, rfl⟩
  rw [hB, hV]
  apply WpC.bodyL h0 Tryz.func52 rfl
  focus (simp [show Tryz.f52.ntmps = _ from rfl, List.replicate]; rfl)
  have gx := True.intro
  refine goA ?_
  clear gx
  refine Wp.loopI (fun m fr σ => ∃ (i : Nat), ∃ gg : Nat → PD, (i + m = l.length ∧ ixF (nmD nm) (l.drop i) i = B ∧ visN (nmD nm) (l.drop i) + i = V) ∧ fr = [(Em.div.list 5).emb l, .func 53 [.ptr id 0], gg 2, gg 3, gg 4, gg 5, (Em.div.list 5).emb l, .int .i64 l.length, .int .i64 i, gg 9, gg 10, gg 11, gg 12, gg 13, gg 14, gg 15, gg 16, gg 17, gg 18] ∧ σ = τ ++ (l.take i).map bxD) ?_ (l.length) (by refine ⟨0, ?_⟩; exact exF (⟨by omega, hB, hV⟩) (by (first | rfl | (simp []; repeat (first | rfl | (apply And.intro))) | (simp []; done))) (by (first | rfl | (simp []; repeat (first | rfl | (apply And.intro))) | (simp []; done))))
  rintro m fr σ ⟨i, gg, hI, rfl, rfl⟩
  obtain ⟨hm, hs, hv⟩ := hI
  by_cases hi : i < l.length
  · have q1 : (i : Int) < (l.length : Int) := by omega
    obtain ⟨a, ha⟩ : ∃ a, l[i] = a := ⟨_, rfl⟩
    have hc : l.drop i = a :: l.drop (i + 1) := by rw [List.drop_eq_getElem_cons hi, ha]
    have htk : l.take (i + 1) = l.take i ++ [a] := by rw [List.take_succ_eq_append_getElem hi, ha]
    obtain ⟨hlt, _⟩ := List.getElem?_eq_some_iff.1 hid
    obtain ⟨ρ, hρ⟩ : ∃ ρ, τ ++ (l.take i).map bxD = ρ := ⟨_, rfl⟩
    have hid2 : ρ[id]? = some (.box (.agg [.str nm, .bool y1, .int .i64 y2, .int .i64 y3, .slice yk yl yt])) := by rw [← hρ, List.getElem?_append_left hlt]; exact hid
    have hst : τ ++ (l.take (i + 1)).map bxD = ρ ++ [bxD a] := by rw [htk, List.map_append, ← List.append_assoc, hρ]; rfl
    rw [hc] at hs hv
    unfold ixF at hs
    unfold visN at hv
    obtain ⟨a0, a1, a2, a3, a4⟩ := a
    have hE : gClD fl [.agg [.str a0, .bool a1, .int .i64 a2, .int .i64 a3, .slice (sz 4 a4) (a4.map Em.stop.emb) .any], .ptr id 0] ρ = some (.bool (decide (a0 = nm)), ρ ++ [.box (.agg [.str a0, .bool a1, .int .i64 a2, .int .i64 a3, .slice (sz 4 a4) (a4.map Em.stop.emb) .any])]) := by
      unfold gClD
      simp only [hid2]
    have hst2 : τ ++ (l.take (i + 1)).map bxD = ρ ++ [.box (.agg [.str a0, .bool a1, .int .i64 a2, .int .i64 a3, .slice (sz 4 a4) (a4.map Em.stop.emb) .any])] := hst
    have hst3 : τ ++ List.take (i + 1) (l.map bxD) = ρ ++ [.box (.agg [.str a0, .bool a1, .int .i64 a2, .int .i64 a3, .slice (sz 4 a4) (a4.map Em.stop.emb) .any])] := by rw [← List.map_take]; exact hst2
    rw [hρ]
    by_cases hb : a0 = nm
    · rw [if_pos (by simp [nmD, hb])] at hs hv
      have hB2 : B = (i : Int) := hs.symm
      have hV2 : V = i + 1 := by omega
      rw [decide_eq_true hb] at hE
      rw [hB2, hV2, hst2]
      clear hs hB2
      have gx := And.intro @q1 (And.intro @hi (@ha))
      refine goA ?_
      clear gx
      first | refine Wp.seq ?_ | skip
      apply Wp.regionS
      repeat (first
        | (refine Fr.i ?_; simp only [pput, List.set_cons_zero, List.set_cons_succ]; try rfl)
        | (refine By.i ?_; (focus (simp (disch := first | omega | (simp; done) | (simp; omega)) [wrap_i64, wrap_u64, h1, hE, hi, ha]; first | done | rfl | exact ⟨rfl, rfl⟩)))
        | (refine By.i ?_; simp (disch := first | omega | (simp; done) | (simp; omega)) [wrap_i64, wrap_u64, h1, hE, hi, ha]; refine ⟨(by (try simp only [List.length_append, List.length_cons, List.length_nil, maxLen]); omega), rfl⟩)
        | (refine Wt.i ?_; first | rfl | (focus (simp [h1, hE, hi, ha]; done)))
        | (refine Ns.i ?_; (try simp only [List.append_nil, List.nil_append, List.cons_append, List.append_assoc, List.length_append, List.length_cons, List.length_nil, Nat.zero_add, Nat.reduceAdd]); rfl) | rfl
        | (apply SL.pass; (focus (refine Wt.i ?_; rfl))) | (apply SL.convertR; (focus rfl)) | apply SL.move | apply SL.assign | apply SL.load | apply SL.isnilE | apply SL.isnilN | apply SL.make | apply SL.binOp | apply SL.append
        | apply SL.copy | apply SL.builtin | apply SL.fieldAddr | apply SL.indexAddr | apply SL.field | apply SL.extract | apply SL.fcall | apply SL.pick | apply SL.store | apply SL.unOp | apply SL.convert | apply SL.index | apply SL.slice
        | apply SL.build | apply SL.nilCheck | apply SL.buildSlice | apply SL.box | apply SL.alloc | apply SL.makeFunc)
      apply SQ.nil
      have gx := @q1
      refine goA ?_
      clear gx
      exact ⟨_, _, rfl, rfl, rfl⟩
    · rw [if_neg (by simp [nmD, hb])] at hs hv
      rw [decide_eq_false hb] at hE
      have gx := And.intro @q1 (And.intro @hi (@ha))
      refine goA ?_
      clear gx
      first | refine Wp.seq ?_ | skip
      apply Wp.regionS
      repeat (first
        | (refine Fr.i ?_; simp only [pput, List.set_cons_zero, List.set_cons_succ]; try rfl)
        | (refine By.i ?_; (focus (simp (disch := first | omega | (simp; done) | (simp; omega)) [wrap_i64, wrap_u64, h1, hE, hi, ha]; first | done | rfl | exact ⟨rfl, rfl⟩)))
        | (refine By.i ?_; simp (disch := first | omega | (simp; done) | (simp; omega)) [wrap_i64, wrap_u64, h1, hE, hi, ha]; refine ⟨(by (try simp only [List.length_append, List.length_cons, List.length_nil, maxLen]); omega), rfl⟩)
        | (refine Wt.i ?_; first | rfl | (focus (simp [h1, hE, hi, ha]; done)))
        | (refine Ns.i ?_; (try simp only [List.append_nil, List.nil_append, List.cons_append, List.append_assoc, List.length_append, List.length_cons, List.length_nil, Nat.zero_add, Nat.reduceAdd]); rfl) | rfl
        | (apply SL.pass; (focus (refine Wt.i ?_; rfl))) | (apply SL.convertR; (focus rfl)) | apply SL.move | apply SL.assign | apply SL.load | apply SL.isnilE | apply SL.isnilN | apply SL.make | apply SL.binOp | apply SL.append
        | apply SL.copy | apply SL.builtin | apply SL.fieldAddr | apply SL.indexAddr | apply SL.field | apply SL.extract | apply SL.fcall | apply SL.pick | apply SL.store | apply SL.unOp | apply SL.convert | apply SL.index | apply SL.slice
        | apply SL.build | apply SL.nilCheck | apply SL.buildSlice | apply SL.box | apply SL.alloc | apply SL.makeFunc)
      apply SQ.nil
      have gx := @q1
      refine goA ?_
      clear gx
      refine LoopI.normal (m - 1) (by omega) (by refine ⟨i + 1, ?_⟩; exact exF (⟨by omega, hs, by omega⟩) (by (first | rfl | (simp [hst3]; repeat (first | rfl | (apply And.intro))) | (simp [hst3]; done))) (by (first | rfl | (simp [hst3]; repeat (first | rfl | (apply And.intro))) | (simp [hst3]; done))))
  · have q1 : ¬ (i : Int) < (l.length : Int) := by omega
    obtain rfl : i = l.length := by omega
    rw [List.drop_length] at hs hv
    have hB2 : B = -1 := hs.symm
    have hV2 : V = l.length := by simpa [visN] using hv.symm
    rw [hB2, hV2]
    have gx := @q1
    refine goA ?_
    clear gx
    exact ⟨_, _, rfl, rfl, rfl⟩
end

def bxS (x : StopD) : SObj := .box (Em.stop.emb x)
def nmS (nm : List UInt8) (x : StopD) : Bool := decide (x.name = nm)
section
variable {E : PExt} (hU : Uni E)
include hU
theorem r_IndexFuncS (h0 : E 54 = none) (h1 : E 55 = some gClS) (fl : Nat) (l : List StopD) (nm : List UInt8) (y1 y2 : Int) (yk : Nat) (yl : List PD) (yt : Tok) (id : Nat) (τ : List SObj) (hid : τ[id]? = some (.box (.agg [.str nm, .int .i64 y1, .int .i64 y2, .slice yk yl yt]))) (hl : l.length ≤ 1000000) :
    WpC Tryz.prog E fl (.inl 54) [(Em.stop.list 4).emb l, .func 55 [.ptr id 0]] τ (fun p1 σ1 => p1 = .int .i64 (ixF (nmS nm) l 0) ∧ σ1 = τ ++ (l.take (visN (nmS nm) l)).map bxS) := by
  obtain ⟨B, hB⟩ : ∃ B, ixF (nmS nm) l 0 = B := ⟨_, rfl⟩
  obtain ⟨V, hV⟩ : ∃ B, visN (nmS nm) l = B := ⟨_, rfl⟩
  rw [hB, hV]
  apply WpC.bodyL h0 Tryz.func54 rfl
  focus (simp [show Tryz.f54.ntmps = _ from rfl, List.replicate]; rfl)
  have gx := True.intro
  refine goA ?_
  clear gx
  refine Wp.loopI (fun m fr σ => ∃ (i : Nat), ∃ gg : Nat → PD, (i + m = l.length ∧ ixF (nmS nm) (l.drop i) i = B ∧ visN (nmS nm) (l.drop i) + i = V) ∧ fr = [(Em.stop.list 4).emb l, .func 55 [.ptr id 0], gg 2, gg 3, gg 4, gg 5, (Em.stop.list 4).emb l, .int .i64 l.length, .int .i64 i, gg 9, gg 10, gg 11, gg 12, gg 13, gg 14, gg 15, gg 16, gg 17, gg 18] ∧ σ = τ ++ (l.take i).map bxS) ?_ (l.length) (by refine ⟨0, ?_⟩; exact exF (⟨by omega, hB, hV⟩) (by (first | rfl | (simp []; repeat (first | rfl | (apply And.intro))) | (simp []; done))) (by (first | rfl | (simp []; repeat (first | rfl | (apply And.intro))) | (simp []; done))))
  rintro m fr σ ⟨i, gg, hI, rfl, rfl⟩
  obtain ⟨hm, hs, hv⟩ := hI
  by_cases hi : i < l.length
  · have q1 : (i : Int) < (l.length : Int) := by omega
    obtain ⟨a, ha⟩ : ∃ a, l[i] = a := ⟨_, rfl⟩
    have hc : l.drop i = a :: l.drop (i + 1) := by rw [List.drop_eq_getElem_cons hi, ha]
    have htk : l.take (i + 1) = l.take i ++ [a] := by rw [List.take_succ_eq_append_getElem hi, ha]
    obtain ⟨hlt, _⟩ := List.getElem?_eq_some_iff.1 hid
    obtain ⟨ρ, hρ⟩ : ∃ ρ, τ ++ (l.take i).map bxS = ρ := ⟨_, rfl⟩
    have hid2 : ρ[id]? = some (.box (.agg [.str nm, .int .i64 y1, .int .i64 y2, .slice yk yl yt])) := by rw [← hρ, List.getElem?_append_left hlt]; exact hid
    have hst : τ ++ (l.take (i + 1)).map bxS = ρ ++ [bxS a] := by rw [htk, List.map_append, ← List.append_assoc, hρ]; rfl
    rw [hc] at hs hv
    unfold ixF at hs
    unfold visN at hv
    obtain ⟨a0, a1, a2, a3⟩ := a
    have hE : gClS fl [.agg [.str a0, .int .i64 a1, .int .i64 a2, .slice (sz 3 a3) (a3.map Em.seg.emb) .any], .ptr id 0] ρ = some (.bool (decide (a0 = nm)), ρ ++ [.box (.agg [.str a0, .int .i64 a1, .int .i64 a2, .slice (sz 3 a3) (a3.map Em.seg.emb) .any])]) := by
      unfold gClS
      simp only [hid2]
    have hst2 : τ ++ (l.take (i + 1)).map bxS = ρ ++ [.box (.agg [.str a0, .int .i64 a1, .int .i64 a2, .slice (sz 3 a3) (a3.map Em.seg.emb) .any])] := hst
    have hst3 : τ ++ List.take (i + 1) (l.map bxS) = ρ ++ [.box (.agg [.str a0, .int .i64 a1, .int .i64 a2, .slice (sz 3 a3) (a3.map Em.seg.emb) .any])] := by rw [← List.map_take]; exact hst2
    rw [hρ]
    by_cases hb : a0 = nm
    · rw [if_pos (by simp [nmS, hb])] at hs hv
      have hB2 : B = (i : Int) := hs.symm
      have hV2 : V = i + 1 := by omega
      rw [decide_eq_true hb] at hE
      rw [hB2, hV2, hst2]
      clear hs hB2
      have gx := And.intro @q1 (And.intro @hi (@ha))
      refine goA ?_
      clear gx
      first | refine Wp.seq ?_ | skip
      apply Wp.regionS
      repeat (first
        | (refine Fr.i ?_; simp only [pput, List.set_cons_zero, List.set_cons_succ]; try rfl)
        | (refine By.i ?_; (focus (simp (disch := first | omega | (simp; done) | (simp; omega)) [wrap_i64, wrap_u64, h1, hE, hi, ha]; first | done | rfl | exact ⟨rfl, rfl⟩)))
        | (refine By.i ?_; simp (disch := first | omega | (simp; done) | (simp; omega)) [wrap_i64, wrap_u64, h1, hE, hi, ha]; refine ⟨(by (try simp only [List.length_append, List.length_cons, List.length_nil, maxLen]); omega), rfl⟩)
        | (refine Wt.i ?_; first | rfl | (focus (simp [h1, hE, hi, ha]; done)))
        | (refine Ns.i ?_; (try simp only [List.append_nil, List.nil_append, List.cons_append, List.append_assoc, List.length_append, List.length_cons, List.length_nil, Nat.zero_add, Nat.reduceAdd]); rfl) | rfl
        | (apply SL.pass; (focus (refine Wt.i ?_; rfl))) | (apply SL.convertR; (focus rfl)) | apply SL.move | apply SL.assign | apply SL.load | apply SL.isnilE | apply SL.isnilN | apply SL.make | apply SL.binOp | apply SL.append
        | apply SL.copy | apply SL.builtin | apply SL.fieldAddr | apply SL.indexAddr | apply SL.field | apply SL.extract | apply SL.fcall | apply SL.pick | apply SL.store | apply SL.unOp | apply SL.convert | apply SL.index | apply SL.slice
        | apply SL.build | apply SL.nilCheck | apply SL.buildSlice | apply SL.box | apply SL.alloc | apply SL.makeFunc)
      apply SQ.nil
      have gx := @q1
      refine goA ?_
      clear gx
      exact ⟨_, _, rfl, rfl, rfl⟩
    · rw [if_neg (by simp [nmS, hb])] at hs hv
      rw [decide_eq_false hb] at hE
      have gx := And.intro @q1 (And.intro @hi (@ha))
      refine goA ?_
      clear gx
      first | refine Wp.seq ?_ | skip
      apply Wp.regionS
      repeat (first
        | (refine Fr.i ?_; simp only [pput, List.set_cons_zero, List.set_cons_succ]; try rfl)
        | (refine By.i ?_; (focus (simp (disch := first | omega | (simp; done) | (simp; omega)) [wrap_i64, wrap_u64, h1, hE, hi, ha]; first | done | rfl | exact ⟨rfl, rfl⟩)))
        | (refine By.i ?_; simp (disch := first | omega | (simp; done) | (simp; omega)) [wrap_i64, wrap_u64, h1, hE, hi, ha]; refine ⟨(by (try simp only [List.length_append, List.length_cons, List.length_nil, maxLen]); omega), rfl⟩)
        | (refine Wt.i ?_; first | rfl | (focus (simp [h1, hE, hi, ha]; done)))
        | (refine Ns.i ?_; (try simp only [List.append_nil, List.nil_append, List.cons_append, List.append_assoc, List.length_append, List.length_cons, List.length_nil, Nat.zero_add, Nat.reduceAdd]); rfl) | rfl
        | (apply SL.pass; (focus (refine Wt.i ?_; rfl))) | (apply SL.convertR; (focus rfl)) | apply SL.move | apply SL.assign | apply SL.load | apply SL.isnilE | apply SL.isnilN | apply SL.make | apply SL.binOp | apply SL.append
        | apply SL.copy | apply SL.builtin | apply SL.fieldAddr | apply SL.indexAddr | apply SL.field | apply SL.extract | apply SL.fcall | apply SL.pick | apply SL.store | apply SL.unOp | apply SL.convert | apply SL.index | apply SL.slice
        | apply SL.build | apply SL.nilCheck | apply SL.buildSlice | apply SL.box | apply SL.alloc | apply SL.makeFunc)
      apply SQ.nil
      have gx := @q1
      refine goA ?_
      clear gx
      refine LoopI.normal (m - 1) (by omega) (by refine ⟨i + 1, ?_⟩; exact exF (⟨by omega, hs, by omega⟩) (by (first | rfl | (simp [hst3]; repeat (first | rfl | (apply And.intro))) | (simp [hst3]; done))) (by (first | rfl | (simp [hst3]; repeat (first | rfl | (apply And.intro))) | (simp [hst3]; done))))
  · have q1 : ¬ (i : Int) < (l.length : Int) := by omega
    obtain rfl : i = l.length := by omega
    rw [List.drop_length] at hs hv
    have hB2 : B = -1 := hs.symm
    have hV2 : V = l.length := by simpa [visN] using hv.symm
    rw [hB2, hV2]
    have gx := @q1
    refine goA ?_
    clear gx
    exact ⟨_, _, rfl, rfl, rfl⟩
end
end Go.Kz

/-
  Chapter 51: IndexFunc at divisions and stops, as entries.
-/
namespace Go.Kz
open Go Go.Proofs
set_option maxRecDepth 100000
set_option maxHeartbeats 4000000

open Classical in
noncomputable def gIxFD : Nat → List PD → List SObj → Option (PD × List SObj) := fun _ args σ => match args with
  | [p, .func g [.ptr id 0]] => match (Em.div.list 5).dec p with
    | some l => if p = (Em.div.list 5).emb l ∧ g = 53 ∧ l.length ≤ 1000000 then match σ[id]? with
        | some (.box (.agg [.str nm, .bool _, .int .i64 _, .int .i64 _, .slice _ _ _])) => some (.int .i64 (ixF (nmD nm) l 0), σ ++ (l.take (visN (nmD nm) l)).map bxD)
        | _ => none
      else none
    | none => none
  | _ => none
theorem lib_IndexFuncD {E : PExt} (hU : Uni E) (hE : ExtOk Tryz.prog E) (h0 : E 52 = none) (h1 : E 53 = some gClD) : ExtOk Tryz.prog (E.add 52 gIxFD) :=
  hE.add (by kernel_rfl) fun fl args σ p σ' h => by
    unfold gIxFD at h
    split at h
    · split at h
      · rename_i l hl
        split at h
        · rename_i hc
          obtain ⟨rfl, rfl, hlen⟩ := hc
          split at h
          · rename_i hid
            simp only [Option.some.injEq, Prod.mk.injEq] at h
            obtain ⟨rfl, rfl⟩ := h
            exact WpC.ex2 (r_IndexFuncD hU h0 h1 fl l _ _ _ _ _ _ _ _ σ hid hlen)
          · cases h
        · cases h
      · cases h
    · cases h

open Classical in
noncomputable def gIxFS : Nat → List PD → List SObj → Option (PD × List SObj) := fun _ args σ => match args with
  | [p, .func g [.ptr id 0]] => match (Em.stop.list 4).dec p with
    | some l => if p = (Em.stop.list 4).emb l ∧ g = 55 ∧ l.length ≤ 1000000 then match σ[id]? with
        | some (.box (.agg [.str nm, .int .i64 _, .int .i64 _, .slice _ _ _])) => some (.int .i64 (ixF (nmS nm) l 0), σ ++ (l.take (visN (nmS nm) l)).map bxS)
        | _ => none
      else none
    | none => none
  | _ => none
theorem lib_IndexFuncS {E : PExt} (hU : Uni E) (hE : ExtOk Tryz.prog E) (h0 : E 54 = none) (h1 : E 55 = some gClS) : ExtOk Tryz.prog (E.add 54 gIxFS) :=
  hE.add (by kernel_rfl) fun fl args σ p σ' h => by
    unfold gIxFS at h
    split at h
    · split at h
      · rename_i l hl
        split at h
        · rename_i hc
          obtain ⟨rfl, rfl, hlen⟩ := hc
          split at h
          · rename_i hid
            simp only [Option.some.injEq, Prod.mk.injEq] at h
            obtain ⟨rfl, rfl⟩ := h
            exact WpC.ex2 (r_IndexFuncS hU h0 h1 fl l _ _ _ _ _ _ _ σ hid hlen)
          · cases h
        · cases h
      · cases h
    · cases h
theorem gIxFD_of {l : List DivD} (hl : l.length ≤ 1000000) {id : Nat} {σ : List SObj} {nm : List UInt8} {y1 : Bool} {y2 y3 : Int} {yk : Nat} {yl : List PD} {yt : Tok} (hid : σ[id]? = some (.box (.agg [.str nm, .bool y1, .int .i64 y2, .int .i64 y3, .slice yk yl yt]))) (fl : Nat) :
    gIxFD fl [(Em.div.list 5).emb l, .func 53 [.ptr id 0]] σ = some (.int .i64 (ixF (nmD nm) l 0), σ ++ (l.take (visN (nmD nm) l)).map bxD) := by
  have e1 := Em.dec_some ((Em.div.list 5).str l)
  unfold gIxFD
  simp only [e1]
  rw [if_pos ⟨trivial, trivial, hl⟩]
  simp only [hid]
theorem gIxFS_of {l : List StopD} (hl : l.length ≤ 1000000) {id : Nat} {σ : List SObj} {nm : List UInt8} {y1 y2 : Int} {yk : Nat} {yl : List PD} {yt : Tok} (hid : σ[id]? = some (.box (.agg [.str nm, .int .i64 y1, .int .i64 y2, .slice yk yl yt]))) (fl : Nat) :
    gIxFS fl [(Em.stop.list 4).emb l, .func 55 [.ptr id 0]] σ = some (.int .i64 (ixF (nmS nm) l 0), σ ++ (l.take (visN (nmS nm) l)).map bxS) := by
  have e1 := Em.dec_some ((Em.stop.list 4).str l)
  unfold gIxFS
  simp only [e1]
  rw [if_pos ⟨trivial, trivial, hl⟩]
  simp only [hid]
end Go.Kz
