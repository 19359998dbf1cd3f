/-
  Part P7 of the way: an interpreter over pure data, its soundness, walks through functions.
-/
import Derived.Test.YteegpeenjdgodaaGreatDoorP6
set_option linter.all false

/-
  Layer 18: the organ of a plan, walked.
-/
namespace Go.Kz
open Go Go.Proofs
set_option maxRecDepth 100000
set_option maxHeartbeats 40000000
theorem ranksS_succ (R : List RPlan) (i : Nat) (a : RPlan) (hi : i < R.length) (ha : R[i] = a) : ranksS R (i + 1) = ranksS R i ++ [rankS a i] := by
  unfold ranksS
  rw [List.range_succ, List.map_append]
  congr 1
  simp [List.getD_eq_getElem?_getD, hi, ha]
theorem ranksS_len (R : List RPlan) (i : Nat) : (ranksS R i).length = i := by simp [ranksS]
noncomputable def gRM : Nat → List PD → List SObj → Option (PD × List SObj) := entry (gf2 Em.rplan i64 Em.rank fun x i => gif (okRp x ∧ 0 ≤ i ∧ i < 10) (some (rankS x i.toNat)))
theorem gRM_of {x : RPlan} {i : Nat} (hx : okRp x) (hi : i < 10) (fl : Nat) (σ : List SObj) : gRM fl [Em.rplan.emb x, .int .i64 i] σ = some (Em.rank.emb (rankS x i), σ) := by
  have e2 : i64.dec (.int .i64 (i : Int)) = some (i : Int) := Em.dec_some rfl
  unfold gRM entry gf2
  simp only [Em.dec_emb, e2]
  rw [gif_pos ⟨hx, by omega, by omega⟩]
  rfl
theorem boardsS_succ (rs : List RankD) (D : List BoardD) (i : Nat) (a : BoardD) (hi : i < D.length) (ha : D[i] = a) : boardsS rs D (i + 1) = boardsS rs D i ++ [boardS rs a i] := by
  unfold boardsS
  rw [List.range_succ, List.map_append]
  congr 1
  simp [List.getD_eq_getElem?_getD, hi, ha]
theorem boardsS_len (rs : List RankD) (D : List BoardD) (i : Nat) : (boardsS rs D i).length = i := by simp [boardsS]
theorem pullsS_succ (rs : List RankD) (lo hg : Int) (L : List PullD) (i : Nat) (a : PullD) (hi : i < L.length) (ha : L[i] = a) : pullsS rs lo hg L (i + 1) = pullsS rs lo hg L i ++ [pullS rs lo hg a i] := by
  unfold pullsS
  rw [List.range_succ, List.map_append]
  congr 1
  simp [List.getD_eq_getElem?_getD, hi, ha]
theorem pullsS_len (rs : List RankD) (lo hg : Int) (L : List PullD) (i : Nat) : (pullsS rs lo hg L i).length = i := by simp [pullsS]
theorem linksS_succ (n : Nat) (L : List LinkD) (i : Nat) (a : LinkD) (hi : i < L.length) (ha : L[i] = a) : linksS n L (i + 1) = linksS n L i ++ [linkS n a i] := by
  unfold linksS
  rw [List.range_succ, List.map_append]
  congr 1
  simp [List.getD_eq_getElem?_getD, hi, ha]
theorem linksS_len (n : Nat) (L : List LinkD) (i : Nat) : (linksS n L i).length = i := by simp [linksS]
theorem RowAt.ne {σ : List SObj} {tok : Tok} {e : TypeId} {k n id : Nat} {o : SObj} (h : RowAt σ tok e k n) (ho : σ[id]? = some o) (hn : notOwn (some o)) : tok ≠ .own id := by
  rintro rfl
  rcases h with ⟨_, h⟩ | ⟨_, id', h, h2⟩
  · cases h
  · simp only [Tok.own.injEq] at h
    subst h
    rw [ho, Option.some.injEq] at h2
    subst h2
    exact hn
theorem RowAt.set {σ : List SObj} {tok : Tok} {e : TypeId} {k n id : Nat} {o x : SObj} (h : RowAt σ tok e k n) (ho : σ[id]? = some o) (hn : notOwn (some o)) : RowAt (σ.set id x) tok e k n :=
  h.keep fun j o' ej hj => by
    have : id ≠ j := fun e => h.ne ho hn (by rw [ej, e])
    rw [List.getElem?_set_ne this]
    exact hj
theorem app_keep {σ τ : List SObj} {i : Nat} {o : SObj} (h : σ[i]? = some o) : (σ ++ τ)[i]? = some o := by
  rw [List.getElem?_append_left (List.getElem?_eq_some_iff.1 h).1]
  exact h
noncomputable def gPl : List PD → Option PD := fun args => match args with
  | [a, b, c, d] => match ranks.dec a, Em.feet.dec b, Em.pull.dec c, i64.dec d with
    | some rs, some lh, some x, some i => gif ((∀ r ∈ rs, (r.num, r.den) ∈ feetAll) ∧ 1 ≤ rs.length ∧ rs.length ≤ 60 ∧ 0 ≤ lh.1 ∧ lh.1 ≤ lh.2 ∧ lh.2 ≤ 200 ∧ okPu x ∧ 0 ≤ i ∧ i < 10) (some (Em.stop.emb (pullS rs lh.1 lh.2 x i.toNat)))
    | _, _, _, _ => none
  | _ => none
noncomputable def gPu : Nat → List PD → List SObj → Option (PD × List SObj) := entry gPl
theorem gPl_of {W : PD} {rs : List RankD} {lo hg : Int} {x : PullD} {i : Nat} (hW : W.strip = ranks.emb rs) (hr : ∀ r ∈ rs, (r.num, r.den) ∈ feetAll) (h1 : 1 ≤ rs.length) (h2 : rs.length ≤ 60) (hlo : 0 ≤ lo) (hlh : lo ≤ hg) (hhg : hg ≤ 200) (hx : okPu x) (hi : i < 10) (fl : Nat) (σ : List SObj) :
    gPu fl [W, .agg [.int .i64 lo, .int .i64 hg], Em.pull.emb x, .int .i64 i] σ = some (Em.stop.emb (pullS rs lo hg x i), σ) := by
  have e1 : ranks.dec W = some rs := Em.dec_some hW
  have e2 : Em.feet.dec (.agg [.int .i64 lo, .int .i64 hg]) = some (lo, hg) := Em.dec_some (Em.feet.str (lo, hg))
  have e3 : i64.dec (.int .i64 (i : Int)) = some (i : Int) := Em.dec_some rfl
  unfold gPu entry gPl
  simp only [e1, e2, e3, Em.dec_emb]
  rw [gif_pos ⟨hr, h1, h2, hlo, hlh, hhg, hx, by omega, by omega⟩]
  rfl
variable {E : PExt} (hU : Uni E)
include hU
theorem r_Make (h0 : E 13 = none) (h1 : E 30 = some gRM) (h2 : E 31 = some gPu) (p : PlanD) (hp : okPl p) (hf : fitsB p = true) : Run Tryz.prog E 13 [Em.plan.emb p] (Em.organ.emb (organS p)) := by
  obtain ⟨R, D, C⟩ := p
  have hf0 := hf
  simp only [fitsB, Bool.and_eq_true, decide_eq_true_eq] at hf0
  obtain ⟨⟨⟨⟨⟨hR1, hR3⟩, hD1⟩, hD3⟩, hC3⟩, hS3⟩ := hf0
  obtain ⟨hpR, hpD, hpC⟩ := hp
  simp only at hpR hpD hpC
  simp only [emb_plan, emb_organ, emb_list]
  apply Run.bodyL h0 Tryz.func13 rfl
  focus (simp [show Tryz.f13.ntmps = _ from rfl, List.replicate]; rfl)
  have gx := True.intro
  refine goA ?_
  clear gx
  refine Wp.loopI (fun m fr σ => ∃ (i z : Nat), ∃ gg : Nat → PD, (i + m = R.length ∧ (ranksS R i = [] ∨ z = 6)) ∧ fr = gg 0 :: .ptr 0 0 :: .ptr 1 0 :: .ptr 2 0 :: .int .i64 i :: gg 5 :: gg 6 :: gg 7 :: gg 8 :: gg 9 :: gg 10 :: gg 11 :: gg 12 :: gg 13 :: gg 14 :: gg 15 :: gg 16 :: gg 17 :: gg 18 :: gg 19 :: gg 20 :: gg 21 :: gg 22 :: gg 23 :: gg 24 :: gg 25 :: gg 26 :: gg 27 :: gg 28 :: gg 29 :: gg 30 :: gg 31 :: gg 32 :: gg 33 :: gg 34 :: gg 35 :: gg 36 :: gg 37 :: gg 38 :: gg 39 :: gg 40 :: gg 41 :: gg 42 :: gg 43 :: gg 44 :: gg 45 :: gg 46 :: gg 47 :: gg 48 :: gg 49 :: gg 50 :: gg 51 :: gg 52 :: gg 53 :: gg 54 :: gg 55 :: gg 56 :: gg 57 :: gg 58 :: gg 59 :: gg 60 :: gg 61 :: gg 62 :: gg 63 :: gg 64 :: gg 65 :: gg 66 :: gg 67 :: gg 68 :: gg 69 :: gg 70 :: gg 71 :: gg 72 :: gg 73 :: gg 74 :: gg 75 :: gg 76 :: gg 77 :: gg 78 :: gg 79 :: gg 80 :: gg 81 :: gg 82 :: gg 83 :: gg 84 :: gg 85 :: gg 86 :: gg 87 :: gg 88 :: gg 89 :: gg 90 :: gg 91 :: gg 92 :: gg 93 :: gg 94 :: gg 95 :: gg 96 :: gg 97 :: gg 98 :: gg 99 :: gg 100 :: gg 101 :: gg 102 :: gg 103 :: gg 104 :: gg 105 :: gg 106 :: gg 107 :: gg 108 :: gg 109 :: gg 110 :: gg 111 :: gg 112 :: gg 113 :: gg 114 :: gg 115 :: gg 116 :: gg 117 :: gg 118 :: gg 119 :: gg 120 :: gg 121 :: gg 122 :: gg 123 :: gg 124 :: gg 125 :: gg 126 :: gg 127 :: gg 128 :: gg 129 :: gg 130 :: gg 131 :: gg 132 :: gg 133 :: gg 134 :: gg 135 :: gg 136 :: gg 137 :: gg 138 :: gg 139 :: gg 140 :: gg 141 :: gg 142 :: gg 143 :: gg 144 :: gg 145 :: gg 146 :: gg 147 :: gg 148 :: gg 149 :: gg 150 :: gg 151 :: gg 152 :: [] ∧ σ = St [.box (.agg [.slice (sz 9 R) (R.map Em.rplan.emb) .any, .slice (sz 4 D) (D.map Em.board.emb) .any, .slice (sz 4 C) (C.map Em.link.emb) .any]), .box (.agg [.str [], .slice 0 [] .full, .slice 0 [] .full, .slice 0 [] .full]), .box (.agg [.str [79, 114, 103, 97, 110], .slice z ((ranksS R i).map Em.rank.emb) (outTok 3 (ranksS R i).length), .slice 0 [] .full, .slice 0 [] .full])] 48 6 (ranksS R i).length) ?_ (R.length) (by refine ⟨0, 0, ?_⟩; exact exF (⟨by omega, .inl rfl⟩) (by (first | rfl | (simp [ranksS, outTok]; repeat (first | rfl | (apply And.intro))) | (simp [ranksS, outTok]; done))) (by (first | rfl | (simp [ranksS, outTok]; repeat (first | rfl | (apply And.intro))) | (simp [ranksS, outTok]; done))))
  rintro m fr σ ⟨i, z, gg, hI, rfl, rfl⟩
  obtain ⟨hm, hz⟩ := hI
  by_cases hi : i < R.length
  · have q1 : (i : Int) < (R.length : Int) := by omega
    obtain ⟨a, ha⟩ : ∃ a, R[i] = a := ⟨_, rfl⟩
    have hs := ranksS_succ R i a hi ha
    have hl := ranksS_len R i
    have hG := gRM_of (i := i) (hpR a (ha ▸ List.getElem_mem hi)) (by omega)
    obtain ⟨q, hq⟩ : ∃ q, rankS a i = q := ⟨_, rfl⟩
    rw [hq] at hG hs
    obtain ⟨L, hL⟩ : ∃ L, ranksS R i = L := ⟨_, rfl⟩
    rw [hL] at hz hl hs ⊢
    obtain ⟨q0, q1', q2, q3, q4, q5⟩ := q
    obtain ⟨a0, a1, a2, a3, a4, a5, a6, a7, a8⟩ := a
    simp only [emb_rplan, emb_rank, emb_list] at hG
    have gx := And.intro @q1 (And.intro @hi (And.intro @ha (And.intro @h1 (And.intro @hG (And.intro @hz (@hl))))))
    refine goA ?_
    clear gx
    refine LoopI.normal (m - 1) (by omega) (by refine ⟨i + 1, 6, ?_⟩; exact exF (⟨by omega, .inr rfl⟩) (by (first | rfl | (simp [hs, hl]; repeat (first | rfl | (apply And.intro))) | (simp [hs, hl]; done))) (by (first | rfl | (simp [hs, hl]; repeat (first | rfl | (apply And.intro))) | (simp [hs, hl]; done))))
  · have q1 : ¬ (i : Int) < (R.length : Int) := by omega
    obtain rfl : i = R.length := by omega
    have hl := ranksS_len R R.length
    have hne : ranksS R R.length ≠ [] := fun h => by rw [h] at hl; simp at hl; omega
    have hz6 : z = 6 := hz.resolve_left hne
    subst hz6
    have gx := @q1
    refine goA ?_
    clear gx
    have hrf : ∀ r ∈ ranksS R R.length, (r.num, r.den) ∈ feetAll := by
      intro r hr
      simp only [ranksS, List.mem_map, List.mem_range] at hr
      obtain ⟨j, hj, rfl⟩ := hr
      have : R.getD j default = R[j] := by simp [List.getD_eq_getElem?_getD, hj]
      rw [this]
      exact all_mem _ (hpR _ (List.getElem_mem hj)).2.1
    have hrl := hl
    obtain ⟨rs, hrs⟩ : ∃ r, ranksS R R.length = r := ⟨_, rfl⟩
    have hO : organS ⟨R, D, C⟩ = ⟨[79, 114, 103, 97, 110], rs, boardsS rs D D.length, linksS D.length C C.length⟩ := by
      unfold organS
      simp only [hrs]
    rw [hO]
    rw [hrs] at hrf hrl hne ⊢
    clear hO hrs hz hl hm q1
    obtain ⟨W, hW⟩ : ∃ W, PD.slice 6 (rs.map Em.rank.emb) (outTok 3 rs.length) = W := ⟨_, rfl⟩
    have hWs : W.strip = ranks.emb rs := by
      rw [← hW, PD.strip_slice]
      show _ = PD.slice (sz 6 rs) (rs.map Em.rank.emb) .any
      rw [sz_ne hne, show (rs.map Em.rank.emb).map PD.strip = rs.map Em.rank.emb by rw [List.map_map]; exact List.map_congr_left fun x _ => Em.rank.str x]
      simp [hne]
    rw [hW]
    obtain ⟨X0, hX0⟩ : ∃ X, SObj.box (.agg [.slice (sz 9 R) (R.map Em.rplan.emb) .any, .slice (sz 4 D) (D.map Em.board.emb) .any, .slice (sz 4 C) (C.map Em.link.emb) .any]) = X := ⟨_, rfl⟩
    obtain ⟨σ0, hσ0⟩ : ∃ s, St [X0, .box (.agg [.str [], .slice 0 [] .full, .slice 0 [] .full, .slice 0 [] .full]), .box (.agg [.str [79, 114, 103, 97, 110], W, .slice 0 [] .full, .slice 0 [] .full])] 48 6 rs.length = s := ⟨_, rfl⟩
    have s0 : σ0[0]? = some X0 := by rw [← hσ0]; exact St_get (by simp)
    have s1 : σ0[1]? = some (.box (.agg [.str [], .slice 0 [] .full, .slice 0 [] .full, .slice 0 [] .full])) := by rw [← hσ0]; exact St_get (by simp)
    have s2 : σ0[2]? = some (.box (.agg [.str [79, 114, 103, 97, 110], W, .slice 0 [] .full, .slice 0 [] .full])) := by rw [← hσ0]; exact St_get (by simp)
    rw [hX0, hσ0]
    have hB0 : boardsS rs D 0 = [] := rfl
    refine Wp.loopI (fun m fr σ => ∃ (i z : Nat) (tok : Tok) (σ1 : List SObj), ∃ gg : Nat → PD, (i + m = D.length ∧ (boardsS rs D i = [] ∨ z = 5) ∧ RowAt σ1 tok 53 5 i ∧ σ1[0]? = some X0 ∧ σ1[1]? = some (.box (.agg [.str [], .slice 0 [] .full, .slice 0 [] .full, .slice 0 [] .full])) ∧ σ1[2]? = some (.box (.agg [.str [79, 114, 103, 97, 110], W, .slice z ((boardsS rs D i).map Em.div.emb) tok, .slice 0 [] .full]))) ∧ fr = gg 0 :: .ptr 0 0 :: .ptr 1 0 :: .ptr 2 0 :: gg 4 :: .int .i64 i :: gg 6 :: gg 7 :: gg 8 :: gg 9 :: gg 10 :: gg 11 :: gg 12 :: gg 13 :: gg 14 :: gg 15 :: gg 16 :: gg 17 :: gg 18 :: gg 19 :: gg 20 :: gg 21 :: gg 22 :: gg 23 :: gg 24 :: gg 25 :: gg 26 :: gg 27 :: gg 28 :: gg 29 :: gg 30 :: gg 31 :: gg 32 :: gg 33 :: gg 34 :: gg 35 :: gg 36 :: gg 37 :: gg 38 :: gg 39 :: gg 40 :: gg 41 :: gg 42 :: gg 43 :: gg 44 :: gg 45 :: gg 46 :: gg 47 :: gg 48 :: gg 49 :: gg 50 :: gg 51 :: gg 52 :: gg 53 :: gg 54 :: gg 55 :: gg 56 :: gg 57 :: gg 58 :: gg 59 :: gg 60 :: gg 61 :: gg 62 :: gg 63 :: gg 64 :: gg 65 :: gg 66 :: gg 67 :: gg 68 :: gg 69 :: gg 70 :: gg 71 :: gg 72 :: gg 73 :: gg 74 :: gg 75 :: gg 76 :: gg 77 :: gg 78 :: gg 79 :: gg 80 :: gg 81 :: gg 82 :: gg 83 :: gg 84 :: gg 85 :: gg 86 :: gg 87 :: gg 88 :: gg 89 :: gg 90 :: gg 91 :: gg 92 :: gg 93 :: gg 94 :: gg 95 :: gg 96 :: gg 97 :: gg 98 :: gg 99 :: gg 100 :: gg 101 :: gg 102 :: gg 103 :: gg 104 :: gg 105 :: gg 106 :: gg 107 :: gg 108 :: gg 109 :: gg 110 :: gg 111 :: gg 112 :: gg 113 :: gg 114 :: gg 115 :: gg 116 :: gg 117 :: gg 118 :: gg 119 :: gg 120 :: gg 121 :: gg 122 :: gg 123 :: gg 124 :: gg 125 :: gg 126 :: gg 127 :: gg 128 :: gg 129 :: gg 130 :: gg 131 :: gg 132 :: gg 133 :: gg 134 :: gg 135 :: gg 136 :: gg 137 :: gg 138 :: gg 139 :: gg 140 :: gg 141 :: gg 142 :: gg 143 :: gg 144 :: gg 145 :: gg 146 :: gg 147 :: gg 148 :: gg 149 :: gg 150 :: gg 151 :: gg 152 :: [] ∧ σ = σ1) ?_ (D.length) (by refine ⟨0, 0, .full, σ0, ?_⟩; exact exF (⟨by omega, .inl rfl, .inl ⟨rfl, rfl⟩, s0, s1, by rw [hB0]; exact s2⟩) (by (first | rfl | (simp []; repeat (first | rfl | (apply And.intro))) | (simp []; done))) (by (first | rfl | (simp []; repeat (first | rfl | (apply And.intro))) | (simp []; done))))
    rintro m fr σ ⟨i, z, tok, σ1, gg, hI, rfl, rfl⟩
    obtain ⟨hm, hz, hrow, g0, g1, g2⟩ := hI
    by_cases hi : i < D.length
    · have q1 : (i : Int) < (D.length : Int) := by omega
      obtain ⟨a, ha⟩ : ∃ a, D[i] = a := ⟨_, rfl⟩
      obtain ⟨hl8, hk8, hP8⟩ := hpD a (ha ▸ List.getElem_mem hi)
      have hP3 : a.stops.length ≤ 3 := by
        have := List.all_eq_true.1 hS3 a (ha ▸ List.getElem_mem hi)
        simpa using this
      have hbs := boardsS_succ rs D i a hi ha
      obtain ⟨l, ke, pe, P⟩ := a
      simp only at hl8 hk8 hP8 hP3
      obtain ⟨l, rfl⟩ : ∃ q : Nat, l = q := ⟨l.toNat, by have := hl8.1; omega⟩
      obtain ⟨ke, rfl⟩ : ∃ q : Nat, ke = q := ⟨ke.toNat, by have := hk8.1; omega⟩
      obtain ⟨L, hL⟩ : ∃ L, l % 12 = L := ⟨_, rfl⟩
      obtain ⟨K, hK⟩ : ∃ K, ke % 9 = K := ⟨_, rfl⟩
      have t1 : (l : Int).tmod 12 = (L : Int) := by rw [← hL]; rfl
      have t2 : IntKind.i64.wrap (L : Int) = (L : Int) := by rw [IntKind.wrap_i64]; omega
      have t3 : IntKind.i64.wrap (36 + (L : Int)) = 36 + (L : Int) := by rw [IntKind.wrap_i64]; omega
      have t4 : (ke : Int).tmod 9 = (K : Int) := by rw [← hK]; rfl
      have t5 : IntKind.i64.wrap (K : Int) = (K : Int) := by rw [IntKind.wrap_i64]; omega
      have t6 : IntKind.i64.wrap (36 + (L : Int) + (K : Int)) = 36 + (L : Int) + K := by rw [IntKind.wrap_i64]; omega
      have d2 : IntKind.i64.wrap (48 + (i : Int)) = 48 + (i : Int) := by rw [IntKind.wrap_i64]; omega
      have d3 : IntKind.u8.wrap (48 + (i : Int)) = 48 + (i : Int) := by simp only [IntKind.wrap, IntKind.bits, IntKind.signed]; simp; omega
      obtain ⟨dg, hdg⟩ : ∃ d, UInt8.ofNat (48 + (i : Int)).toNat = d := ⟨_, rfl⟩
      obtain ⟨ps, hps⟩ : ∃ f, pullsS rs (36 + (L : Int)) (36 + (L : Int) + K) P = f := ⟨_, rfl⟩
      have hbo : boardS rs ⟨l, ke, pe, P⟩ i = ⟨[68, dg], pe, 36 + (L : Int), 36 + (L : Int) + K, ps P.length⟩ := by
        unfold boardS digit
        simp only [show (l : Int) % 12 = (L : Int) by omega, show (ke : Int) % 9 = (K : Int) by omega, hps, ← hdg, show (48 + (i : Int)).toNat = 48 + i by omega]
      rw [hbo] at hbs
      have hpsl : ∀ k, (ps k).length = k := fun k => by rw [← hps]; exact pullsS_len _ _ _ _ _
      have hps0 : ps 0 = [] := List.eq_nil_of_length_eq_zero (hpsl 0)
      have hpss : ∀ (k : Nat) (x : PullD) (hk : k < P.length), P[k] = x → ps (k + 1) = ps k ++ [pullS rs (36 + (L : Int)) (36 + (L : Int) + K) x k] := fun k x hk hx => by rw [← hps]; exact pullsS_succ _ _ _ _ _ _ hk hx
      have g0' := g0
      rw [← hX0] at g0'
      have gx := And.intro @q1 (And.intro @hi (And.intro @ha (And.intro @g0' (And.intro @t1 (And.intro @t2 (And.intro @t3 (And.intro @t4 (And.intro @t5 (And.intro @t6 (And.intro @d2 (And.intro @d3 (@hdg))))))))))))
      refine goA ?_
      clear gx
      have hlt2 : 2 < σ.length := (List.getElem?_eq_some_iff.1 g2).1
      obtain ⟨BX, hBX⟩ : ∃ B, SObj.box (.agg [.int .u8 l, .int .u8 ke, .bool pe, .slice (sz 4 P) (P.map Em.pull.emb) .any]) = B := ⟨_, rfl⟩
      rw [hBX]
      obtain ⟨DX, hDX⟩ : ∃ B, SObj.box (.agg [.str [68, dg], .bool pe, .int .i64 (36 + (L : Int)), .int .i64 (36 + (L : Int) + K), .slice 0 [] .full]) = B := ⟨_, rfl⟩
      rw [hDX]
      have u0 : (σ ++ [BX, DX])[0]? = some X0 := by rw [List.getElem?_append_left (by omega)]; exact g0
      have u1 : (σ ++ [BX, DX])[1]? = _ := (List.getElem?_append_left (by omega)).trans g1
      have u2 : (σ ++ [BX, DX])[2]? = _ := (List.getElem?_append_left (by omega)).trans g2
      have u3 : (σ ++ [BX, DX])[σ.length]? = some BX := by simp
      have u4 : (σ ++ [BX, DX])[σ.length + 1]? = some DX := by simp
      have urow := hrow.more (τ := [BX, DX])
      obtain ⟨σ3, hσ3⟩ : ∃ s, σ ++ [BX, DX] = s := ⟨_, rfl⟩
      rw [hσ3] at u0 u1 u2 u3 u4 urow ⊢
      obtain ⟨pb, hpb⟩ : ∃ n, σ.length = n := ⟨_, rfl⟩
      rw [hpb] at u3 u4 hlt2 ⊢
      obtain ⟨M, hM⟩ : ∃ M, M = m := ⟨_, rfl⟩
      rw [← hM] at hm ⊢
      clear hM hσ3 hpb g0 g0' g1 g2 hrow
      rw [← hDX] at u4
      refine Wp.loopI (fun m fr σ => ∃ (k z2 : Nat) (tk2 : Tok) (σ2 : List SObj), ∃ gg : Nat → PD, (k + m = P.length ∧ (ps k = [] ∨ z2 = 4) ∧ RowAt σ2 tk2 56 4 k ∧ RowAt σ2 tok 53 5 i ∧ (∀ id, tk2 = .own id → tok ≠ .own id) ∧ σ2[0]? = some X0 ∧ σ2[1]? = some (.box (.agg [.str [], .slice 0 [] .full, .slice 0 [] .full, .slice 0 [] .full])) ∧ σ2[2]? = some (.box (.agg [.str [79, 114, 103, 97, 110], W, .slice z ((boardsS rs D i).map Em.div.emb) tok, .slice 0 [] .full])) ∧ σ2[pb]? = some BX ∧ σ2[pb + 1]? = some (.box (.agg [.str [68, dg], .bool pe, .int .i64 (36 + (L : Int)), .int .i64 (36 + (L : Int) + K), .slice z2 ((ps k).map Em.stop.emb) tk2]))) ∧ fr = gg 0 :: .ptr 0 0 :: .ptr 1 0 :: .ptr 2 0 :: gg 4 :: .int .i64 i :: .ptr pb 0 :: gg 7 :: .ptr (pb + 1) 0 :: .int .i64 k :: gg 10 :: gg 11 :: gg 12 :: gg 13 :: gg 14 :: gg 15 :: gg 16 :: gg 17 :: gg 18 :: gg 19 :: gg 20 :: gg 21 :: gg 22 :: gg 23 :: gg 24 :: gg 25 :: gg 26 :: gg 27 :: gg 28 :: gg 29 :: gg 30 :: gg 31 :: gg 32 :: gg 33 :: gg 34 :: gg 35 :: gg 36 :: gg 37 :: gg 38 :: gg 39 :: gg 40 :: gg 41 :: gg 42 :: gg 43 :: gg 44 :: gg 45 :: gg 46 :: gg 47 :: gg 48 :: gg 49 :: gg 50 :: gg 51 :: gg 52 :: gg 53 :: gg 54 :: gg 55 :: gg 56 :: gg 57 :: gg 58 :: gg 59 :: gg 60 :: gg 61 :: gg 62 :: gg 63 :: gg 64 :: gg 65 :: gg 66 :: gg 67 :: gg 68 :: gg 69 :: gg 70 :: gg 71 :: gg 72 :: gg 73 :: gg 74 :: gg 75 :: gg 76 :: gg 77 :: gg 78 :: gg 79 :: gg 80 :: gg 81 :: gg 82 :: gg 83 :: gg 84 :: gg 85 :: gg 86 :: gg 87 :: gg 88 :: gg 89 :: gg 90 :: gg 91 :: gg 92 :: gg 93 :: gg 94 :: gg 95 :: gg 96 :: gg 97 :: gg 98 :: gg 99 :: gg 100 :: gg 101 :: gg 102 :: gg 103 :: gg 104 :: gg 105 :: gg 106 :: gg 107 :: gg 108 :: gg 109 :: gg 110 :: gg 111 :: gg 112 :: gg 113 :: gg 114 :: gg 115 :: gg 116 :: gg 117 :: gg 118 :: gg 119 :: gg 120 :: gg 121 :: gg 122 :: gg 123 :: gg 124 :: gg 125 :: gg 126 :: gg 127 :: gg 128 :: gg 129 :: gg 130 :: gg 131 :: gg 132 :: gg 133 :: gg 134 :: gg 135 :: gg 136 :: gg 137 :: gg 138 :: gg 139 :: gg 140 :: gg 141 :: gg 142 :: gg 143 :: gg 144 :: gg 145 :: gg 146 :: gg 147 :: gg 148 :: gg 149 :: gg 150 :: gg 151 :: gg 152 :: [] ∧ σ = σ2) ?_ (P.length) (by refine ⟨0, 0, .full, σ3, ?_⟩; exact exF (⟨by omega, .inl hps0, .inl ⟨rfl, rfl⟩, urow, (fun id e => (by cases e)), u0, u1, u2, u3, (by rw [hps0]; exact u4)⟩) (by (first | rfl | (simp []; repeat (first | rfl | (apply And.intro))) | (simp []; done))) (by (first | rfl | (simp []; repeat (first | rfl | (apply And.intro))) | (simp []; done))))
      rintro m fr σ ⟨k, z2, tk2, σ2, gg, hI, rfl, rfl⟩
      obtain ⟨hm2, hz2, hrow2, hrowD, hne2, v0, v1, v2, v3, v4⟩ := hI
      by_cases hk : k < P.length
      · have q2 : (k : Int) < (P.length : Int) := by omega
        obtain ⟨x, hx⟩ : ∃ x, P[k] = x := ⟨_, rfl⟩
        have hsu := hpss k x hk hx
        have hG := gPl_of (i := k) (x := x) (lo := 36 + (L : Int)) (hg := 36 + (L : Int) + K) hWs hrf (by omega) (by omega) (by omega) (by omega) (by omega) (hP8 x (hx ▸ List.getElem_mem hk)) (by omega)
        obtain ⟨q, hq⟩ : ∃ q, pullS rs (36 + (L : Int)) (36 + (L : Int) + K) x k = q := ⟨_, rfl⟩
        rw [hq] at hG hsu
        obtain ⟨q0, q1', q2', q3⟩ := q
        obtain ⟨x0, x1, x2, x3⟩ := x
        simp only [emb_pull, emb_stop, emb_list] at hG
        rw [← hBX] at v3
        obtain ⟨A, hA⟩ : ∃ A, (ps k).map Em.stop.emb = A := ⟨_, rfl⟩
        have hAl : A.length = k := by rw [← hA, List.length_map, hpsl]
        have hA0 : A = [] ∨ z2 = 4 := hz2.imp (fun h => by rw [← hA, h]; rfl) id
        obtain ⟨tok', σ4, hap, hr', hkeep, hnew⟩ := pappend_row (P := Tryz.prog) (t := 51) (e := 56) (k := 4) (b := 56) (s := z2) (xs := A) (p := .agg [.str q0, .int .i64 q1', .int .i64 q2', .slice (sz 3 q3) (q3.map Em.seg.emb) .any]) (tk := .any) (tok := tk2) (σ := σ)
          Tryz.underlying51 (by kernel_rfl) hA0 (by rw [hAl]; exact hrow2) (by omega) (by omega)
        rw [hA] at v4
        have nX : notOwn (some X0) := by rw [← hX0]; trivial
        have nB : notOwn (some BX) := by rw [← hBX]; trivial
        rw [hBX] at v3
        have w0 := hkeep 0 _ (hrow2.ne v0 nX) v0
        have w1 := hkeep 1 _ (hrow2.ne v1 trivial) v1
        have w2 := hkeep 2 _ (hrow2.ne v2 trivial) v2
        have w3 := hkeep pb _ (hrow2.ne v3 nB) v3
        have w4 := hkeep (pb + 1) _ (hrow2.ne v4 trivial) v4
        rw [hAl] at hr'
        have hrowD' := (hrowD.keep (σ' := σ4) fun id o e h => hkeep id o (fun e2 => hne2 id e2 e) h)
        have hne' : ∀ id, tok' = .own id → tok ≠ .own id := fun id e e2 => by
          rcases hnew id e with e3 | e3
          · exact hne2 id e3 e2
          · subst e3
            rcases hrowD with ⟨_, e4⟩ | ⟨_, id', e4, h5⟩
            · rw [e4] at e2; cases e2
            · rw [e4] at e2
              simp only [Tok.own.injEq] at e2
              subst e2
              have := (List.getElem?_eq_some_iff.1 h5).1
              omega
        rw [← hBX] at v3
        have gx := And.intro @q2 (And.intro @hk (And.intro @hx (And.intro @v0 (And.intro @v1 (And.intro @v2 (And.intro @v3 (And.intro @v4 (And.intro @h2 (And.intro @hG (And.intro @hap (@w4)))))))))))
        refine goA ?_
        clear gx
        have hlt4 : pb + 1 < σ4.length := (List.getElem?_eq_some_iff.1 w4).1
        refine LoopI.normal (m - 1) (by omega) (by refine ⟨k + 1, 4, tok', σ4.set (pb + 1) (.box (.agg [.str [68, dg], .bool pe, .int .i64 (36 + (L : Int)), .int .i64 (36 + (L : Int) + K), .slice 4 (A ++ [.agg [.str q0, .int .i64 q1', .int .i64 q2', .slice (sz 3 q3) (q3.map Em.seg.emb) .any]]) tok'])), ?_⟩; exact exF (⟨by omega, .inr rfl, hr'.set w4 trivial, hrowD'.set w4 trivial, hne', (by rw [List.getElem?_set_ne (by omega)]; exact w0), (by rw [List.getElem?_set_ne (by omega)]; exact w1), (by rw [List.getElem?_set_ne (by omega)]; exact w2), (by rw [List.getElem?_set_ne (by omega)]; exact w3), (by rw [hsu, List.map_append, hA]; exact List.getElem?_set_self hlt4)⟩) (by (first | rfl | (simp []; repeat (first | rfl | (apply And.intro))) | (simp []; done))) (by (first | rfl | (simp []; repeat (first | rfl | (apply And.intro))) | (simp []; done))))
      · have q2 : ¬ (k : Int) < (P.length : Int) := by omega
        obtain rfl : k = P.length := by omega
        obtain ⟨Y, hY⟩ : ∃ Y, PD.slice z2 ((ps P.length).map Em.stop.emb) tk2 = Y := ⟨_, rfl⟩
        have hYp : Y.plain = true := by rw [← hY]; rfl
        have hYs : Y.strip = .slice (sz 4 (ps P.length)) ((ps P.length).map Em.stop.emb) .any := by
          rw [← hY, PD.strip_slice, show ((ps P.length).map Em.stop.emb).map PD.strip = (ps P.length).map Em.stop.emb by rw [List.map_map]; exact List.map_congr_left fun x _ => Em.stop.str x]
          rcases hz2 with h | h
          · rw [h]; rfl
          · rw [h]; simp [sz]
        rw [hY] at v4
        rw [← hBX] at v3
        obtain ⟨A, hA⟩ : ∃ A, (boardsS rs D i).map Em.div.emb = A := ⟨_, rfl⟩
        have hAl : A.length = i := by rw [← hA, List.length_map, boardsS_len]
        have hA0 : A = [] ∨ z = 5 := hz.imp (fun h => by rw [← hA, h]; rfl) id
        rw [hA] at v2
        obtain ⟨tok', σ4, hap, hr', hkeep, hnew⟩ := pappend_row (P := Tryz.prog) (t := 32) (e := 53) (k := 5) (b := 64) (s := z) (xs := A) (p := .agg [.str [68, dg], .bool pe, .int .i64 (36 + (L : Int)), .int .i64 (36 + (L : Int) + K), .slice (sz 4 (ps P.length)) ((ps P.length).map Em.stop.emb) .any]) (tk := .any) (tok := tok) (σ := σ)
          Tryz.underlying32 (by kernel_rfl) hA0 (by rw [hAl]; exact hrowD) (by omega) (by omega)
        have nX : notOwn (some X0) := by rw [← hX0]; trivial
        have w0 := hkeep 0 _ (hrowD.ne v0 nX) v0
        have w1 := hkeep 1 _ (hrowD.ne v1 trivial) v1
        have w2 := hkeep 2 _ (hrowD.ne v2 trivial) v2
        rw [hAl] at hr'
        have gx := And.intro @q2 (And.intro @v0 (And.intro @v1 (And.intro @v2 (And.intro @v3 (And.intro @v4 (And.intro @hap (And.intro @w2 (And.intro @hYp (@hYs)))))))))
        refine goA ?_
        clear gx
        have hlt4 : 2 < σ4.length := (List.getElem?_eq_some_iff.1 w2).1
        refine LoopI.normal (M - 1) (by omega) (by refine ⟨i + 1, 5, tok', σ4.set 2 (.box (.agg [.str [79, 114, 103, 97, 110], W, .slice 5 (A ++ [.agg [.str [68, dg], .bool pe, .int .i64 (36 + (L : Int)), .int .i64 (36 + (L : Int) + K), .slice (sz 4 (ps P.length)) ((ps P.length).map Em.stop.emb) .any]]) tok', .slice 0 [] .full])), ?_⟩; exact exF (⟨by omega, .inr rfl, hr'.set w2 trivial, (by rw [List.getElem?_set_ne (by omega)]; exact w0), (by rw [List.getElem?_set_ne (by omega)]; exact w1), (by rw [hbs, List.map_append, hA]; exact List.getElem?_set_self hlt4)⟩) (by (first | rfl | (simp []; repeat (first | rfl | (apply And.intro))) | (simp []; done))) (by (first | rfl | (simp []; repeat (first | rfl | (apply And.intro))) | (simp []; done))))
    · have q1 : ¬ (i : Int) < (D.length : Int) := by omega
      obtain rfl : i = D.length := by omega
      have hbl := boardsS_len rs D D.length
      have hbne : boardsS rs D D.length ≠ [] := fun h => by rw [h] at hbl; simp at hbl; omega
      have hz5 : z = 5 := hz.resolve_left hbne
      subst hz5
      obtain ⟨Y, hY⟩ : ∃ Y, PD.slice 5 ((boardsS rs D D.length).map Em.div.emb) tok = Y := ⟨_, rfl⟩
      have hYp : Y.plain = true := by rw [← hY]; rfl
      have hYs : Y.strip = .slice (sz 5 (boardsS rs D D.length)) ((boardsS rs D D.length).map Em.div.emb) .any := by
        rw [← hY, PD.strip_slice, show ((boardsS rs D D.length).map Em.div.emb).map PD.strip = (boardsS rs D D.length).map Em.div.emb by rw [List.map_map]; exact List.map_congr_left fun x _ => Em.div.str x]
        rw [sz_ne hbne]
        simp [hbne]
      have hWp : W.plain = true := by rw [← hW]; rfl
      have hWs' : W.strip = .slice (sz 6 rs) (rs.map Em.rank.emb) .any := hWs
      rw [hY] at g2
      have g0' := g0
      rw [← hX0] at g0'
      have gx := And.intro @q1 (And.intro @g0' (And.intro @g1 (@g2)))
      refine goA ?_
      clear gx
      have hL0 : linksS D.length C 0 = [] := rfl
      refine Wp.loopI (fun m fr σ => ∃ (j z3 : Nat) (tk3 : Tok) (σ1 : List SObj), ∃ gg : Nat → PD, (j + m = C.length ∧ (linksS D.length C j = [] ∨ z3 = 5) ∧ RowAt σ1 tk3 58 5 j ∧ σ1[0]? = some X0 ∧ σ1[1]? = some (.box (.agg [.str [], .slice 0 [] .full, .slice 0 [] .full, .slice 0 [] .full])) ∧ σ1[2]? = some (.box (.agg [.str [79, 114, 103, 97, 110], W, Y, .slice z3 ((linksS D.length C j).map Em.coup.emb) tk3]))) ∧ fr = gg 0 :: .ptr 0 0 :: .ptr 1 0 :: .ptr 2 0 :: gg 4 :: gg 5 :: gg 6 :: gg 7 :: gg 8 :: gg 9 :: .int .i64 D.length :: .int .i64 j :: gg 12 :: gg 13 :: gg 14 :: gg 15 :: gg 16 :: gg 17 :: gg 18 :: gg 19 :: gg 20 :: gg 21 :: gg 22 :: gg 23 :: gg 24 :: gg 25 :: gg 26 :: gg 27 :: gg 28 :: gg 29 :: gg 30 :: gg 31 :: gg 32 :: gg 33 :: gg 34 :: gg 35 :: gg 36 :: gg 37 :: gg 38 :: gg 39 :: gg 40 :: gg 41 :: gg 42 :: gg 43 :: gg 44 :: gg 45 :: gg 46 :: gg 47 :: gg 48 :: gg 49 :: gg 50 :: gg 51 :: gg 52 :: gg 53 :: gg 54 :: gg 55 :: gg 56 :: gg 57 :: gg 58 :: gg 59 :: gg 60 :: gg 61 :: gg 62 :: gg 63 :: gg 64 :: gg 65 :: gg 66 :: gg 67 :: gg 68 :: gg 69 :: gg 70 :: gg 71 :: gg 72 :: gg 73 :: gg 74 :: gg 75 :: gg 76 :: gg 77 :: gg 78 :: gg 79 :: gg 80 :: gg 81 :: gg 82 :: gg 83 :: gg 84 :: gg 85 :: gg 86 :: gg 87 :: gg 88 :: gg 89 :: gg 90 :: gg 91 :: gg 92 :: gg 93 :: gg 94 :: gg 95 :: gg 96 :: gg 97 :: gg 98 :: gg 99 :: gg 100 :: gg 101 :: gg 102 :: gg 103 :: gg 104 :: gg 105 :: gg 106 :: gg 107 :: gg 108 :: gg 109 :: gg 110 :: gg 111 :: gg 112 :: gg 113 :: gg 114 :: gg 115 :: gg 116 :: gg 117 :: gg 118 :: gg 119 :: gg 120 :: gg 121 :: gg 122 :: gg 123 :: gg 124 :: gg 125 :: gg 126 :: gg 127 :: gg 128 :: gg 129 :: gg 130 :: gg 131 :: gg 132 :: gg 133 :: gg 134 :: gg 135 :: gg 136 :: gg 137 :: gg 138 :: gg 139 :: gg 140 :: gg 141 :: gg 142 :: gg 143 :: gg 144 :: gg 145 :: gg 146 :: gg 147 :: gg 148 :: gg 149 :: gg 150 :: gg 151 :: gg 152 :: [] ∧ σ = σ1) ?_ (C.length) (by refine ⟨0, 0, .full, σ, ?_⟩; exact exF (⟨by omega, .inl hL0, .inl ⟨rfl, rfl⟩, g0, g1, (by rw [hL0]; exact g2)⟩) (by (first | rfl | (simp []; repeat (first | rfl | (apply And.intro))) | (simp []; done))) (by (first | rfl | (simp []; repeat (first | rfl | (apply And.intro))) | (simp []; done))))
      rintro m fr σ ⟨j, z3, tk3, σ1, gg, hI, rfl, rfl⟩
      obtain ⟨hm, hz, hrow, g0, g1, g2⟩ := hI
      by_cases hj : j < C.length
      · have q1 : (j : Int) < (C.length : Int) := by omega
        obtain ⟨a, ha⟩ : ∃ a, C[j] = a := ⟨_, rfl⟩
        obtain ⟨ho8, hd8, hs8⟩ := hpC a (ha ▸ List.getElem_mem hj)
        have hls := linksS_succ D.length C j a hj ha
        obtain ⟨o, d, s, th⟩ := a
        simp only at ho8 hd8 hs8
        obtain ⟨o, rfl⟩ : ∃ q : Nat, o = q := ⟨o.toNat, by have := ho8.1; omega⟩
        obtain ⟨d, rfl⟩ : ∃ q : Nat, d = q := ⟨d.toNat, by have := hd8.1; omega⟩
        have ho9 := ho8.2
        have hd9 := hd8.2
        have t1 : IntKind.i64.wrap (o : Int) = (o : Int) := by rw [IntKind.wrap_i64]; omega
        have t2 : IntKind.i64.wrap (d : Int) = (d : Int) := by rw [IntKind.wrap_i64]; omega
        have t3 : IntKind.i64.wrap s = s := by have := hs8.1; have := hs8.2; rw [IntKind.wrap_i64]; omega
        have t4 : ¬ (D.length : Int) = 0 := by omega
        have t5 : ¬ D = [] := fun h => by rw [h] at hD1; simp at hD1
        obtain ⟨O, hO⟩ : ∃ O : Int, (o : Int).tmod (D.length : Int) = O := ⟨_, rfl⟩
        obtain ⟨Q, hQ⟩ : ∃ Q : Int, (d : Int).tmod (D.length : Int) = Q := ⟨_, rfl⟩
        obtain ⟨S, hS⟩ : ∃ S : Int, s.tmod 25 = S := ⟨_, rfl⟩
        have hO' : (o : Int) % (D.length : Int) = O := hO
        have hQ' : (d : Int) % (D.length : Int) = Q := hQ
        have d2 : IntKind.i64.wrap (48 + (j : Int)) = 48 + (j : Int) := by rw [IntKind.wrap_i64]; omega
        have d3 : IntKind.u8.wrap (48 + (j : Int)) = 48 + (j : Int) := by simp only [IntKind.wrap, IntKind.bits, IntKind.signed]; simp; omega
        obtain ⟨dg, hdg⟩ : ∃ d, UInt8.ofNat (48 + (j : Int)).toNat = d := ⟨_, rfl⟩
        have hln : linkS D.length ⟨o, d, s, th⟩ j = ⟨[67, dg], O, Q, if O = Q ∧ S = 0 then 12 else S, th⟩ := by
          unfold linkS digit
          simp only [hO', hQ', hS, ← hdg, show (48 + (j : Int)).toNat = 48 + j by omega]
        rw [hln] at hls
        have g0' := g0
        rw [← hX0] at g0'
        by_cases hoq : O = Q
        · by_cases hS0 : S = 0
          · subst hoq
            subst hS0
            have hE : (if O = O ∧ (0 : Int) = 0 then (12 : Int) else (0 : Int)) = 12 := by simp
            rw [hE] at hls
            obtain ⟨A, hA⟩ : ∃ A, (linksS D.length C j).map Em.coup.emb = A := ⟨_, rfl⟩
            have hAl : A.length = j := by rw [← hA, List.length_map, linksS_len]
            have hA0 : A = [] ∨ z3 = 5 := hz.imp (fun h => by rw [← hA, h]; rfl) id
            rw [hA] at g2
            have nX : notOwn (some X0) := by rw [← hX0]; trivial
            have u0 := app_keep (τ := [.box (.agg [.int .u8 o, .int .u8 d, .int .i8 s, .bool th]), .box (.agg [.str [67, dg], .int .i64 O, .int .i64 O, .int .i64 12, .bool th])]) g0
            have u1 := app_keep (τ := [.box (.agg [.int .u8 o, .int .u8 d, .int .i8 s, .bool th]), .box (.agg [.str [67, dg], .int .i64 O, .int .i64 O, .int .i64 12, .bool th])]) g1
            have u2 := app_keep (τ := [.box (.agg [.int .u8 o, .int .u8 d, .int .i8 s, .bool th]), .box (.agg [.str [67, dg], .int .i64 O, .int .i64 O, .int .i64 12, .bool th])]) g2
            have urow := hrow.more (τ := [.box (.agg [.int .u8 o, .int .u8 d, .int .i8 s, .bool th]), .box (.agg [.str [67, dg], .int .i64 O, .int .i64 O, .int .i64 12, .bool th])])
            obtain ⟨tok', σ4, hap, hr', hkeep, hnew⟩ := pappend_row (P := Tryz.prog) (t := 33) (e := 58) (k := 5) (b := 48) (s := z3) (xs := A) (p := .agg [.str [67, dg], .int .i64 O, .int .i64 O, .int .i64 12, .bool th]) (tk := .any) (tok := tk3)
              Tryz.underlying33 (by kernel_rfl) hA0 (by rw [hAl]; exact urow) (by omega) (by omega)
            have w0 := hkeep 0 _ (urow.ne u0 nX) u0
            have w1 := hkeep 1 _ (urow.ne u1 trivial) u1
            have w2 := hkeep 2 _ (urow.ne u2 trivial) u2
            rw [hAl] at hr'
            have gx := And.intro @q1 (And.intro @hj (And.intro @ha (And.intro @g0' (And.intro @g2 (And.intro @u2 (And.intro @hap (And.intro @w2 (And.intro @t1 (And.intro @t2 (And.intro @t3 (And.intro @t4 (And.intro @t5 (And.intro @hO (And.intro @hQ (And.intro @hS (And.intro @d2 (And.intro @d3 (@hdg))))))))))))))))))
            refine goA ?_
            clear gx
            have hlt4 : 2 < σ4.length := (List.getElem?_eq_some_iff.1 w2).1
            refine LoopI.normal (m - 1) (by omega) (by refine ⟨j + 1, 5, tok', σ4.set 2 (.box (.agg [.str [79, 114, 103, 97, 110], W, Y, .slice 5 (A ++ [.agg [.str [67, dg], .int .i64 O, .int .i64 O, .int .i64 12, .bool th]]) tok'])), ?_⟩; exact exF (⟨by omega, .inr rfl, hr'.set w2 trivial, (by rw [List.getElem?_set_ne (by omega)]; exact w0), (by rw [List.getElem?_set_ne (by omega)]; exact w1), (by rw [hls, List.map_append, hA]; exact List.getElem?_set_self hlt4)⟩) (by (first | rfl | (simp []; repeat (first | rfl | (apply And.intro))) | (simp []; done))) (by (first | rfl | (simp []; repeat (first | rfl | (apply And.intro))) | (simp []; done))))
          · subst hoq
            have hE : (if O = O ∧ S = 0 then (12 : Int) else S) = S := by simp [hS0]
            rw [hE] at hls
            obtain ⟨A, hA⟩ : ∃ A, (linksS D.length C j).map Em.coup.emb = A := ⟨_, rfl⟩
            have hAl : A.length = j := by rw [← hA, List.length_map, linksS_len]
            have hA0 : A = [] ∨ z3 = 5 := hz.imp (fun h => by rw [← hA, h]; rfl) id
            rw [hA] at g2
            have nX : notOwn (some X0) := by rw [← hX0]; trivial
            have u0 := app_keep (τ := [.box (.agg [.int .u8 o, .int .u8 d, .int .i8 s, .bool th]), .box (.agg [.str [67, dg], .int .i64 O, .int .i64 O, .int .i64 S, .bool th])]) g0
            have u1 := app_keep (τ := [.box (.agg [.int .u8 o, .int .u8 d, .int .i8 s, .bool th]), .box (.agg [.str [67, dg], .int .i64 O, .int .i64 O, .int .i64 S, .bool th])]) g1
            have u2 := app_keep (τ := [.box (.agg [.int .u8 o, .int .u8 d, .int .i8 s, .bool th]), .box (.agg [.str [67, dg], .int .i64 O, .int .i64 O, .int .i64 S, .bool th])]) g2
            have urow := hrow.more (τ := [.box (.agg [.int .u8 o, .int .u8 d, .int .i8 s, .bool th]), .box (.agg [.str [67, dg], .int .i64 O, .int .i64 O, .int .i64 S, .bool th])])
            obtain ⟨tok', σ4, hap, hr', hkeep, hnew⟩ := pappend_row (P := Tryz.prog) (t := 33) (e := 58) (k := 5) (b := 48) (s := z3) (xs := A) (p := .agg [.str [67, dg], .int .i64 O, .int .i64 O, .int .i64 S, .bool th]) (tk := .any) (tok := tk3)
              Tryz.underlying33 (by kernel_rfl) hA0 (by rw [hAl]; exact urow) (by omega) (by omega)
            have w0 := hkeep 0 _ (urow.ne u0 nX) u0
            have w1 := hkeep 1 _ (urow.ne u1 trivial) u1
            have w2 := hkeep 2 _ (urow.ne u2 trivial) u2
            rw [hAl] at hr'
            have gx := And.intro @q1 (And.intro @hj (And.intro @ha (And.intro @g0' (And.intro @g2 (And.intro @u2 (And.intro @hap (And.intro @w2 (And.intro @t1 (And.intro @t2 (And.intro @t3 (And.intro @t4 (And.intro @t5 (And.intro @hO (And.intro @hQ (And.intro @hS (And.intro @d2 (And.intro @d3 (And.intro @hdg (@hS0)))))))))))))))))))
            refine goA ?_
            clear gx
            have hlt4 : 2 < σ4.length := (List.getElem?_eq_some_iff.1 w2).1
            refine LoopI.normal (m - 1) (by omega) (by refine ⟨j + 1, 5, tok', σ4.set 2 (.box (.agg [.str [79, 114, 103, 97, 110], W, Y, .slice 5 (A ++ [.agg [.str [67, dg], .int .i64 O, .int .i64 O, .int .i64 S, .bool th]]) tok'])), ?_⟩; exact exF (⟨by omega, .inr rfl, hr'.set w2 trivial, (by rw [List.getElem?_set_ne (by omega)]; exact w0), (by rw [List.getElem?_set_ne (by omega)]; exact w1), (by rw [hls, List.map_append, hA]; exact List.getElem?_set_self hlt4)⟩) (by (first | rfl | (simp []; repeat (first | rfl | (apply And.intro))) | (simp []; done))) (by (first | rfl | (simp []; repeat (first | rfl | (apply And.intro))) | (simp []; done))))
        · skip
          have hE : (if O = Q ∧ S = 0 then (12 : Int) else S) = S := by simp [hoq]
          rw [hE] at hls
          obtain ⟨A, hA⟩ : ∃ A, (linksS D.length C j).map Em.coup.emb = A := ⟨_, rfl⟩
          have hAl : A.length = j := by rw [← hA, List.length_map, linksS_len]
          have hA0 : A = [] ∨ z3 = 5 := hz.imp (fun h => by rw [← hA, h]; rfl) id
          rw [hA] at g2
          have nX : notOwn (some X0) := by rw [← hX0]; trivial
          have u0 := app_keep (τ := [.box (.agg [.int .u8 o, .int .u8 d, .int .i8 s, .bool th]), .box (.agg [.str [67, dg], .int .i64 O, .int .i64 Q, .int .i64 S, .bool th])]) g0
          have u1 := app_keep (τ := [.box (.agg [.int .u8 o, .int .u8 d, .int .i8 s, .bool th]), .box (.agg [.str [67, dg], .int .i64 O, .int .i64 Q, .int .i64 S, .bool th])]) g1
          have u2 := app_keep (τ := [.box (.agg [.int .u8 o, .int .u8 d, .int .i8 s, .bool th]), .box (.agg [.str [67, dg], .int .i64 O, .int .i64 Q, .int .i64 S, .bool th])]) g2
          have urow := hrow.more (τ := [.box (.agg [.int .u8 o, .int .u8 d, .int .i8 s, .bool th]), .box (.agg [.str [67, dg], .int .i64 O, .int .i64 Q, .int .i64 S, .bool th])])
          obtain ⟨tok', σ4, hap, hr', hkeep, hnew⟩ := pappend_row (P := Tryz.prog) (t := 33) (e := 58) (k := 5) (b := 48) (s := z3) (xs := A) (p := .agg [.str [67, dg], .int .i64 O, .int .i64 Q, .int .i64 S, .bool th]) (tk := .any) (tok := tk3)
            Tryz.underlying33 (by kernel_rfl) hA0 (by rw [hAl]; exact urow) (by omega) (by omega)
          have w0 := hkeep 0 _ (urow.ne u0 nX) u0
          have w1 := hkeep 1 _ (urow.ne u1 trivial) u1
          have w2 := hkeep 2 _ (urow.ne u2 trivial) u2
          rw [hAl] at hr'
          have gx := And.intro @q1 (And.intro @hj (And.intro @ha (And.intro @g0' (And.intro @g2 (And.intro @u2 (And.intro @hap (And.intro @w2 (And.intro @t1 (And.intro @t2 (And.intro @t3 (And.intro @t4 (And.intro @t5 (And.intro @hO (And.intro @hQ (And.intro @hS (And.intro @d2 (And.intro @d3 (And.intro @hdg (@hoq)))))))))))))))))))
          refine goA ?_
          clear gx
          have hlt4 : 2 < σ4.length := (List.getElem?_eq_some_iff.1 w2).1
          refine LoopI.normal (m - 1) (by omega) (by refine ⟨j + 1, 5, tok', σ4.set 2 (.box (.agg [.str [79, 114, 103, 97, 110], W, Y, .slice 5 (A ++ [.agg [.str [67, dg], .int .i64 O, .int .i64 Q, .int .i64 S, .bool th]]) tok'])), ?_⟩; exact exF (⟨by omega, .inr rfl, hr'.set w2 trivial, (by rw [List.getElem?_set_ne (by omega)]; exact w0), (by rw [List.getElem?_set_ne (by omega)]; exact w1), (by rw [hls, List.map_append, hA]; exact List.getElem?_set_self hlt4)⟩) (by (first | rfl | (simp []; repeat (first | rfl | (apply And.intro))) | (simp []; done))) (by (first | rfl | (simp []; repeat (first | rfl | (apply And.intro))) | (simp []; done))))
      · have q1 : ¬ (j : Int) < (C.length : Int) := by omega
        obtain rfl : j = C.length := by omega
        have hzs : PD.strip (.slice z3 ((linksS D.length C C.length).map Em.coup.emb) tk3) = .slice (sz 5 (linksS D.length C C.length)) ((linksS D.length C C.length).map Em.coup.emb) .any := by
          rw [PD.strip_slice, show ((linksS D.length C C.length).map Em.coup.emb).map PD.strip = (linksS D.length C C.length).map Em.coup.emb by rw [List.map_map]; exact List.map_congr_left fun x _ => Em.coup.str x]
          rcases hz with h | h
          · rw [h]; rfl
          · rw [h]; simp [sz]
        obtain ⟨V, hV⟩ : ∃ V, PD.slice z3 ((linksS D.length C C.length).map Em.coup.emb) tk3 = V := ⟨_, rfl⟩
        have hVp : V.plain = true := by rw [← hV]; rfl
        rw [hV] at g2 hzs
        have hs1 : ∀ x, (σ.set 1 x)[1]? = some x := fun x => List.getElem?_set_self (List.getElem?_eq_some_iff.1 g1).1
        have g0' := g0
        rw [← hX0] at g0'
        have hWq := hWp
        have hYq := hYp
        have hVq := hVp
        unfold PD.plain at hWq hYq hVq
        have gx := And.intro @q1 (And.intro @g0' (And.intro @g1 (And.intro @g2 (And.intro @hWq (And.intro @hYq (@hVq))))))
        refine goA ?_
        clear gx
        simp (disch := first | omega | (simp; done) | (simp; omega)) [decide_eq_decide, hs1, hWs', hYs, hzs] <;> try rfl
end Go.Kz

/-
  Layer 18: organ.Check.
-/
namespace Go.Kz
open Go Go.Proofs
set_option maxRecDepth 100000
set_option maxHeartbeats 4000000
-- %maps
variable {E : PExt} (hU : Uni E)
include hU
end Go.Kz

/-
  Chapter 51: closures that compare names (compare.Common).
-/
namespace Go.Kz
open Go Go.Proofs
set_option maxRecDepth 100000
set_option maxHeartbeats 4000000

section
variable {E : PExt} (hU : Uni E)
include hU
end

section
variable {E : PExt} (hU : Uni E)
include hU
end
end Go.Kz

/-
  Chapter 51: where a division, a stop with a name lies.
-/
namespace Go.Kz
open Go Go.Proofs
set_option maxRecDepth 100000
set_option maxHeartbeats 4000000

section
variable {E : PExt} (hU : Uni E)
include hU
end

section
variable {E : PExt} (hU : Uni E)
include hU
end
end Go.Kz

/-
  Chapter 51: IndexFunc at divisions and stops, as entries.
-/
namespace Go.Kz
open Go Go.Proofs
set_option maxRecDepth 100000
set_option maxHeartbeats 4000000

end Go.Kz
