/-
  Part H2 of the way: an interpreter over pure data, its soundness, walks through functions.
-/
import Derived.Test.YteegpeenjdgodaaGreatDoorH0
set_option linter.all false

/-
  Layer 18: a change of an organ, walked: kinds 4 to 6.
-/
namespace Go.Kz
open Go Go.Proofs
set_option maxRecDepth 100000
set_option maxHeartbeats 40000000
variable {E : PExt} (hU : Uni E)
include hU
theorem r_ChangedHe (h0 : E 12 = none) (o : OrganD) (x : SlipD) (ho : okO o) (hsm : Small o) (hx : okSl x) (hr : 1 ≤ o.ranks.length) (hd : 1 ≤ o.divs.length) (hkd : 4 ≤ x.kind.toNat % 16 ∧ x.kind.toNat % 16 ≤ 6) :
    WpC Tryz.prog E 0 (.inl 12) [Em.organ.emb o, Em.slip.emb x] [] (fun p1 σ1 => ∃ o', okO o' ∧ (thaw σ1 20 p1).strip = Em.organ.emb o' ∧ (thaw σ1 20 p1).idfree = true) := by
  obtain ⟨nm, R, D, C⟩ := o
  obtain ⟨k, a⟩ := x
  simp only [emb_organ, emb_slip, emb_list]
  simp only at hr hd
  have hRl : (R.map Em.rank.emb).length = R.length := List.length_map _
  have hDl : (D.map Em.div.emb).length = D.length := List.length_map _
  have hCl : (C.map Em.coup.emb).length = C.length := List.length_map _
  have szR : sz 6 R = 6 := sz_ne (fun h => by rw [h] at hr; simp at hr)
  have szD : sz 5 D = 5 := sz_ne (fun h => by rw [h] at hd; simp at hd)
  have bR : R.length ≤ 1000000 := ho.1.1
  have bD : D.length ≤ 1000000 := ho.2.1.1
  have bC : C.length ≤ 1000000 := ho.2.2
  rw [szR, szD]
  have f1 := fun (σ : List SObj) (s : Nat) => prowAppend_list (P := Tryz.prog) (σ := σ) (t := 31) (e := 48) (k := 6) (b := 80) (s := s) (z := 6) (n := 275) (xs := R.map Em.rank.emb) rfl Tryz.underlying31 (by kernel_rfl) (one_row (by kernel_rfl)) rfl (by omega) (by omega) (by omega)
  have f2 := fun (σ : List SObj) (s : Nat) => prowAppend_list (P := Tryz.prog) (σ := σ) (t := 32) (e := 53) (k := 5) (b := 64) (s := s) (z := 5) (n := 275) (xs := D.map Em.div.emb) rfl Tryz.underlying32 (by kernel_rfl) (one_row (by kernel_rfl)) rfl (by omega) (by omega) (by omega)
  rw [hRl, flat_rank] at f1
  rw [hDl, flat_div] at f2
  obtain ⟨gR, hgR⟩ : ∃ g, (R.map fun r => [PD.str r.name, .str r.tone, .int .i64 r.num, .int .i64 r.den, .int .i64 r.first, i64s.emb r.wind]) = g := ⟨_, rfl⟩
  obtain ⟨gD, hgD⟩ : ∃ g, (D.map fun r => [PD.str r.name, .bool r.pedal, .int .i64 r.low, .int .i64 r.high, stopsE.emb r.stops]) = g := ⟨_, rfl⟩
  rw [hgR] at f1
  rw [hgD] at f2
  obtain ⟨cR, hcR⟩ : ∃ c, gR.flatten = c := ⟨_, rfl⟩
  obtain ⟨cD, hcD⟩ : ∃ c, gD.flatten = c := ⟨_, rfl⟩
  rw [hcR] at f1
  rw [hcD] at f2
  obtain ⟨tC, σ3, hap, hrC, hkC⟩ := pappend_list (P := Tryz.prog) (t := 33) (e := 58) (k := 5) (b := 48) (s := 5) (z := sz 5 C) (xs := C.map Em.coup.emb)
    (σ := [.box (.agg [.str nm, .rref 3 0 0 R.length 6, .rref 4 0 0 D.length 5, .slice (sz 5 C) (C.map Em.coup.emb) .any]), .box (.agg [.int .u8 k, .int .u8 a]), .box (.agg [.str [], .slice 0 [] .full, .slice 0 [] .full, .slice 0 [] .full]), .row 48 6 0 cR, .row 53 5 0 cD])
    Tryz.underlying33 (by kernel_rfl) (if h : C = [] then .inl (by rw [h]; rfl) else .inr (sz_ne h)) (by omega) (by omega)
  simp only [ite_self] at hap
  have k0 := hkC 0 _ rfl
  have k1 := hkC 1 _ rfl
  have k2 := hkC 2 _ rfl
  have k3 := hkC 3 _ rfl
  have k4 := hkC 4 _ rfl
  obtain ⟨l0, e0⟩ := List.getElem?_eq_some_iff.1 k0
  have grR : ∀ g ∈ gR, Grp Em.rank okR 6 g := fun g hg => by
    rw [← hgR] at hg
    obtain ⟨r, hr, rfl⟩ := List.mem_map.1 hg
    exact grp_rank _ _ _ _ _ (sz 1 r.wind) r.wind .any (if h : r.wind = [] then .inl h else .inr (sz_ne h)) (ho.1.2 r hr)
  have grD : ∀ g ∈ gD, Grp Em.div okD 5 g := fun g hg => by
    rw [← hgD] at hg
    obtain ⟨r, hr, rfl⟩ := List.mem_map.1 hg
    exact grp_div _ _ _ _ (sz 4 r.stops) r.stops .any (if h : r.stops = [] then .inl h else .inr (sz_ne h)) (ho.2.1.2 r hr)
  have lgR : gR.length = R.length := by rw [← hgR, List.length_map]
  have lgD : gD.length = D.length := by rw [← hgD, List.length_map]
  have hlR : cR.length = R.length * 6 := by rw [← hcR, flatG_len gR fun g h => (grR g h).1, lgR]
  have hlD : cD.length = D.length * 5 := by rw [← hcD, flatG_len gD fun g h => (grD g h).1, lgD]
  obtain ⟨⟨hx0, hx1⟩, hx2, hx3⟩ := hx
  simp only at hx0 hx1 hx2 hx3
  obtain ⟨k, rfl⟩ : ∃ q : Nat, k = q := ⟨k.toNat, by omega⟩
  simp only [Int.toNat_natCast] at hkd
  obtain ⟨a, rfl⟩ : ∃ q : Nat, a = q := ⟨a.toNat, by omega⟩
  obtain ⟨I, hI⟩ : ∃ q, a % R.length = q := ⟨_, rfl⟩
  obtain ⟨K, hK⟩ : ∃ q, a % D.length = q := ⟨_, rfl⟩
  have iI : I < R.length := hI ▸ Nat.mod_lt _ (by omega)
  have iK : K < D.length := hK ▸ Nat.mod_lt _ (by omega)
  have t1 : (a : Int).tmod (R.length : Int) = (I : Int) := by rw [← hI]; rfl
  have t2 : (a : Int).tmod (D.length : Int) = (K : Int) := by rw [← hK]; rfl
  have w1 : IntKind.i64.wrap (a : Int) = (a : Int) := by rw [IntKind.wrap_i64]; omega
  have w2 : IntKind.i64.wrap (I : Int) = (I : Int) := by rw [IntKind.wrap_i64]; omega
  have w3 : IntKind.i64.wrap (K : Int) = (K : Int) := by rw [IntKind.wrap_i64]; omega
  have n1 : ¬ R = [] := fun h => by rw [h] at hr; simp at hr
  have n2 : ¬ D = [] := fun h => by rw [h] at hd; simp at hd
  have n3 : ¬ R.length = 0 := by omega
  have n4 : ¬ D.length = 0 := by omega
  have n5 : ¬ (R.length : Int) = 0 := by omega
  have n6 : ¬ (D.length : Int) = 0 := by omega
  obtain ⟨dK, hdK⟩ : ∃ d, D[K] = d := ⟨_, rfl⟩
  obtain ⟨d0, d1, d2, d3, ds⟩ := dK
  have gK : (cD.drop (K * 5)).take 5 = [.str d0, .bool d1, .int .i64 d2, .int .i64 d3, .slice (sz 4 ds) (ds.map Em.stop.emb) .any] := by
    rw [← hcD, flatG_at gD K (by omega) fun g h => (grD g h).1]
    have : gD[K]'(by omega) = (fun r : DivD => [PD.str r.name, .bool r.pedal, .int .i64 r.low, .int .i64 r.high, stopsE.emb r.stops]) D[K] := by
      subst hgD
      rw [List.getElem_map]
    rw [this, hdK]
    rfl
  have gl : K * 5 + 5 ≤ cD.length := by omega
  obtain ⟨σ4, hs4⟩ : ∃ s, σ3.set 0 (.box (.agg [.str nm, .rref 3 0 0 R.length 6, .rref 4 0 0 D.length 5, .slice 5 (C.map Em.coup.emb) tC])) = s := ⟨_, rfl⟩
  have m0 : σ4[0]? = some (.box (.agg [.str nm, .rref 3 0 0 R.length 6, .rref 4 0 0 D.length 5, .slice 5 (C.map Em.coup.emb) tC])) := by rw [← hs4]; exact List.getElem?_set_self l0
  have m1 : σ4[1]? = some (.box (.agg [.int .u8 k, .int .u8 a])) := by rw [← hs4, List.getElem?_set_ne (by decide)]; exact k1
  have m2 : σ4[2]? = some (.box (.agg [.str [], .slice 0 [] .full, .slice 0 [] .full, .slice 0 [] .full])) := by rw [← hs4, List.getElem?_set_ne (by decide)]; exact k2
  have m3 : σ4[3]? = some (.row 48 6 0 cR) := by rw [← hs4, List.getElem?_set_ne (by decide)]; exact k3
  have m4 : σ4[4]? = some (.row 53 5 0 cD) := by rw [← hs4, List.getElem?_set_ne (by decide)]; exact k4
  obtain ⟨p0, q0⟩ := List.getElem?_eq_some_iff.1 m0
  obtain ⟨p1, q1⟩ := List.getElem?_eq_some_iff.1 m1
  obtain ⟨p4, q4⟩ := List.getElem?_eq_some_iff.1 m4
  have xk : pindexAddr Tryz.prog 32 (.rref 4 0 0 D.length 5) (.int .i64 K) = some (.rptr 4 0 (K * 5)) := by
    simp [pixRow, iK]
  have bS : ds.length ≤ 1000000 := by
    have := (ho.2.1.2 _ (hdK ▸ List.getElem_mem iK)).1
    simpa using this
  obtain ⟨B, hB⟩ : ∃ b, σ4.length = b := ⟨_, rfl⟩
  obtain ⟨cS, hcS⟩ : ∃ c, (ds.map fun r => [PD.str r.name, .int .i64 r.num, .int .i64 r.den, segsE.emb r.segs]).flatten = c := ⟨_, rfl⟩
  obtain ⟨SP, σx, hsp, hkx, hSP⟩ : ∃ SP σx, prowAppend Tryz.prog 275 0 (σ4 ++ [.box (.agg [.str d0, .bool d1, .int .i64 d2, .int .i64 d3, .slice (sz 4 ds) (ds.map Em.stop.emb) .any])]) 51 (.slice 4 [] .full) (.slice (sz 4 ds) (ds.map Em.stop.emb) .any) = some (SP, σx) ∧
      (∀ (id : Nat) (o : SObj), (σ4 ++ [SObj.box (.agg [.str d0, .bool d1, .int .i64 d2, .int .i64 d3, .slice (sz 4 ds) (ds.map Em.stop.emb) .any])])[id]? = some o → σx[id]? = some o) ∧
      (ds = [] ∧ SP = .slice 4 [] .full ∨ 0 < ds.length ∧ SP = .rref (B + 1) 0 0 ds.length 4 ∧ σx[B + 1]? = some (.row 56 4 0 cS)) := by
    by_cases h : ds = []
    · subst h
      exact ⟨_, _, prowAppend_nil (e := 56) (k := 4) (b := 56) rfl Tryz.underlying51 (by kernel_rfl) (one_row (by kernel_rfl)), fun _ _ h => h, .inl ⟨rfl, rfl⟩⟩
    · have hp : 0 < ds.length := List.length_pos_iff.2 h
      refine ⟨_, _, prowAppend_list (e := 56) (k := 4) (b := 56) rfl Tryz.underlying51 (by kernel_rfl) (one_row (by kernel_rfl)) (sz_ne h) (by rw [List.length_map]; exact hp) (by rw [List.length_map]; omega) (by rw [List.length_map]; omega), fun _ _ h => app_keep h, .inr ⟨hp, ?_, ?_⟩⟩
      · rw [List.length_map, List.length_append, hB]
        rfl
      · rw [flat_stop, hcS, ← hB]
        have e1 : σ4.length + 1 = (σ4 ++ [SObj.box (.agg [.str d0, .bool d1, .int .i64 d2, .int .i64 d3, .slice (sz 4 ds) (ds.map Em.stop.emb) .any])]).length := by simp
        rw [e1]
        exact List.getElem?_concat_length
  have u0 := hkx 0 _ (app_keep m0)
  have u1 := hkx 1 _ (app_keep m1)
  have u2 := hkx 2 _ (app_keep m2)
  have u3 := hkx 3 _ (app_keep m3)
  have u4 := hkx 4 _ (app_keep m4)
  have uB := hkx B _ (by rw [← hB]; exact List.getElem?_concat_length)
  obtain ⟨lB, eB⟩ := List.getElem?_eq_some_iff.1 uB
  obtain ⟨σ6, hs6⟩ : ∃ s, σx.set B (.box (.agg [.str d0, .bool d1, .int .i64 d2, .int .i64 d3, SP])) = s := ⟨_, rfl⟩
  have p4' : 4 < B := by omega
  have cq : SP.cells = [SP] := by rcases hSP with ⟨_, h⟩ | ⟨_, h, _⟩ <;> subst h <;> rfl
  have pq : SP.plain = true := by rcases hSP with ⟨_, h⟩ | ⟨_, h, _⟩ <;> subst h <;> rfl
  have pq0 := pq
  have cq0 := cq
  unfold PD.plain at pq
  unfold PD.cells at cq
  have xst : pstore Tryz.prog 0 σx 51 (.ptr B 4) SP = some σ6 := by
    rw [← hs6]
    rcases hSP with ⟨_, h⟩ | ⟨_, h, _⟩ <;> subst h <;> simp [pstore, uB, PD.cells, PD.plain, PD.setCells, pfillAt]
  have v0 : σ6[0]? = some (.box (.agg [.str nm, .rref 3 0 0 R.length 6, .rref 4 0 0 D.length 5, .slice 5 (C.map Em.coup.emb) tC])) := by rw [← hs6, List.getElem?_set_ne (by omega)]; exact u0
  have v1 : σ6[1]? = some (.box (.agg [.int .u8 k, .int .u8 a])) := by rw [← hs6, List.getElem?_set_ne (by omega)]; exact u1
  have v2 : σ6[2]? = some (.box (.agg [.str [], .slice 0 [] .full, .slice 0 [] .full, .slice 0 [] .full])) := by rw [← hs6, List.getElem?_set_ne (by omega)]; exact u2
  have v3 : σ6[3]? = some (.row 48 6 0 cR) := by rw [← hs6, List.getElem?_set_ne (by omega)]; exact u3
  have v4 : σ6[4]? = some (.row 53 5 0 cD) := by rw [← hs6, List.getElem?_set_ne (by omega)]; exact u4
  have vB : σ6[B]? = some (.box (.agg [.str d0, .bool d1, .int .i64 d2, .int .i64 d3, SP])) := by rw [← hs6]; exact List.getElem?_set_self lB
  obtain ⟨kk, hkk⟩ : ∃ q, k % 16 = q := ⟨_, rfl⟩
  have ik : kk < 16 := hkk ▸ Nat.mod_lt _ (by omega)
  have t3 : (k : Int).tmod 16 = (kk : Int) := by rw [← hkk]; rfl
  have w4 : IntKind.u8.wrap (kk : Int) = (kk : Int) := by simp only [IntKind.wrap, IntKind.bits, IntKind.signed]; simp; omega
  obtain ⟨r0, y0⟩ := List.getElem?_eq_some_iff.1 v0
  obtain ⟨r1, y1⟩ := List.getElem?_eq_some_iff.1 v1
  obtain ⟨rB, yB⟩ := List.getElem?_eq_some_iff.1 vB
  apply WpC.bodyL h0 Tryz.func12 rfl
  focus (simp [show Tryz.f12.ntmps = _ from rfl, List.replicate]; rfl)
  have gx := And.intro @f1 (And.intro @f2 (And.intro @hap (And.intro @k0 (And.intro @l0 (And.intro @e0 (And.intro @hs4 (And.intro @m0 (And.intro @m1 (And.intro @m4 (And.intro @t1 (And.intro @t2 (And.intro @w1 (And.intro @w2 (And.intro @w3 (And.intro @n1 (And.intro @n2 (And.intro @n3 (And.intro @n4 (And.intro @n5 (And.intro @n6 (And.intro @hlD (And.intro @gK (And.intro @gl (And.intro @iK (And.intro @xk (And.intro @iI (And.intro @p0 (And.intro @q0 (And.intro @p1 (And.intro @q1 (And.intro @p4 (And.intro @q4 (And.intro @hB (And.intro @hsp (And.intro @uB (And.intro @lB (And.intro @eB (And.intro @hs6 (And.intro @pq (And.intro @cq (And.intro @v1 (And.intro @t3 (And.intro @w4 (And.intro @r1 (@y1)))))))))))))))))))))))))))))))))))))))))))))
  refine goA ?_
  clear gx
  rw [hB]
  have hr6 : RowAt σ6 tC 58 5 C.length := by
    rw [hCl] at hrC
    have h4 : RowAt σ4 tC 58 5 C.length := hs4 ▸ hrC.set k0 trivial
    have hx : RowAt σx tC 58 5 C.length := (h4.more (τ := [_])).keep fun j o' ej hj => hkx j o' hj
    exact hs6 ▸ hx.set uB trivial
  clear hkC hap hkx hsp f1 f2 e0 q0 q1 q4 eB k0 k1 k2 k3 k4 u0 u1 u2 u3 u4 uB xst
  refine Wp.mono (Q := BlockQ 0 (Post B K)) ?_ ?_
  · have zR : R.length ≤ 1000 := by have := hsm.rl; simp only at this; omega
    have zD : D.length ≤ 1000 := by have := hsm.dl; simp only at this; omega
    have zC : C.length ≤ 60 := hsm.cl
    have okd : okSs ds := by have := ho.2.1.2 _ (hdK ▸ List.getElem_mem iK); simpa [okD] using this
    have zS : ds.length ≤ 100 := by have := (hsm.dv _ (hdK ▸ List.getElem_mem iK)).2.1; simpa using this
    have grS : ∀ g ∈ (ds.map fun r => [PD.str r.name, .int .i64 r.num, .int .i64 r.den, segsE.emb r.segs]), Grp Em.stop okS 4 g := fun g hg => by
      obtain ⟨r, hr, rfl⟩ := List.mem_map.1 hg
      exact grp_stop _ _ _ (sz 3 r.segs) r.segs .any (if h : r.segs = [] then .inl h else .inr (sz_ne h)) (okd.2 r hr)
    have vR : RowI Em.rank okR 48 6 σ6 3 R.length (.rref 3 0 0 R.length 6) := ⟨0, gR, rfl, by rw [hcR]; exact v3, by omega, by omega, grR⟩
    have vD : RowI Em.div okD 53 5 σ6 4 D.length (.rref 4 0 0 D.length 5) := ⟨0, gD, rfl, by rw [hcD]; exact v4, by omega, by omega, grD⟩
    have vS : SP = .slice 4 [] .full ∨ ∃ n, RowI Em.stop okS 56 4 σ6 (B + 1) n SP := by
      rcases hSP with ⟨_, h⟩ | ⟨h1, h2, h3⟩
      · exact .inl h
      · refine .inr ⟨ds.length, 0, _, h2, ?_, ?_, ?_, grS⟩
        · rw [hcS, ← hs6, List.getElem?_set_ne (by omega)]
          exact h3
        · rw [List.length_map]; exact Nat.le_refl _
        · rw [List.length_map]; omega
    have hF : FinI σ6 B K nm (.rref 3 0 0 R.length 6) (.rref 4 0 0 D.length 5) SP C tC d0 d1 d2 d3 := ⟨v0, v2, vB, p4', by omega, ⟨_, vR⟩, .inr ⟨_, vD, iK⟩, vS⟩
    have hks : kk = 0 ∨ kk = 1 ∨ kk = 2 ∨ kk = 3 ∨ kk = 4 ∨ kk = 5 ∨ kk = 6 ∨ kk = 7 ∨ kk = 8 ∨ kk = 9 ∨ kk = 10 ∨ kk = 11 ∨ kk = 12 ∨ kk = 13 ∨ kk = 14 ∨ kk = 15 := by omega
    obtain ⟨j4, hj4⟩ : ∃ q, a % 4 = q := ⟨_, rfl⟩
    have ij4 : j4 = 0 ∨ j4 = 1 ∨ j4 = 2 ∨ j4 = 3 := by omega
    have t4 : (a : Int).tmod 4 = (j4 : Int) := by rw [← hj4]; rfl
    have w5 : IntKind.u8.wrap (j4 : Int) = (j4 : Int) := by simp only [IntKind.wrap, IntKind.bits, IntKind.signed]; simp; omega
    obtain ⟨j3, hj3⟩ : ∃ q, a % 3 = q := ⟨_, rfl⟩
    have ij3 : j3 = 0 ∨ j3 = 1 ∨ j3 = 2 := by omega
    have t5 : (a : Int).tmod 3 = (j3 : Int) := by rw [← hj3]; rfl
    have w6 : IntKind.u8.wrap (j3 : Int) = (j3 : Int) := by simp only [IntKind.wrap, IntKind.bits, IntKind.signed]; simp; omega
    obtain ⟨j5, hj5⟩ : ∃ q, a % 5 = q := ⟨_, rfl⟩
    have ij5 : j5 < 5 := by omega
    have t6 : (a : Int).tmod 5 = (j5 : Int) := by rw [← hj5]; rfl
    have w7 : IntKind.u8.wrap (j5 : Int) = (j5 : Int) := by simp only [IntKind.wrap, IntKind.bits, IntKind.signed]; simp; omega
    have w8 : IntKind.i64.wrap (j5 : Int) = (j5 : Int) := by rw [IntKind.wrap_i64]; omega
    obtain ⟨rI, hrI⟩ : ∃ r, R[I] = r := ⟨_, rfl⟩
    obtain ⟨x0, x1, x2, x3, x4, x5⟩ := rI
    have okII : x5.length ≤ 1000000 := by have := ho.1.2 _ (hrI ▸ List.getElem_mem iI); simpa [okR, okI] using this
    have eI : gR[I]'(by omega) = [.str x0, .str x1, .int .i64 x2, .int .i64 x3, .int .i64 x4, .slice (sz 1 x5) (x5.map i64.emb) .any] := by
      subst hgR
      rw [List.getElem_map, hrI]
      rfl
    rcases hks with h | h | h | h | h | h | h | h | h | h | h | h | h | h | h | h <;> subst h
    · exact absurd hkd (by omega)
    · exact absurd hkd (by omega)
    · exact absurd hkd (by omega)
    · exact absurd hkd (by omega)
    · have w9 : ((a : Int).tmod 2) = ((a % 2 : Nat) : Int) := rfl
      obtain ⟨j2, hj2⟩ : ∃ q, a % 2 = q := ⟨_, rfl⟩
      rw [hj2] at w9
      have ij2 : j2 < 2 := by omega
      have t7 : IntKind.u8.wrap (j2 : Int) = (j2 : Int) := by simp only [IntKind.wrap, IntKind.bits, IntKind.signed]; simp; omega
      have t8 : IntKind.i64.wrap (j2 : Int) = (j2 : Int) := by rw [IntKind.wrap_i64]; omega
      have t9 : IntKind.i64.wrap (60 + (j2 : Int)) = 60 + (j2 : Int) := by rw [IntKind.wrap_i64]; omega
      obtain ⟨rZ, hrZ⟩ : ∃ r, R[0] = r := ⟨_, rfl⟩
      obtain ⟨q0, q1, q2, q3, q4, q5⟩ := rZ
      have eZ : gR[0]? = some [.str q0, .str q1, .int .i64 q2, .int .i64 q3, .int .i64 q4, .slice (sz 1 q5) (q5.map i64.emb) .any] := by
        subst hgR
        rw [List.getElem?_map, List.getElem?_eq_getElem (by omega), hrZ]
        rfl
      have okZ : q5.length ≤ 1000000 := by have := ho.1.2 _ (hrZ ▸ List.getElem_mem (by omega)); simpa [okR, Kz.okI] using this
      have zR2 : R.length ≤ 60 := hsm.rl
      have gx := @v0
      refine goA ?_
      clear gx
      refine Wp.loopI (fun m fr σ => ∃ (n v : Nat) (gs : List (List PD)) (σ1 : List SObj), ∃ gg : Nat → PD, (n + m = 1000 ∧ gs.length = n ∧ FinI σ1 B K nm (.rref 3 v 0 n 6) (.rref 4 0 0 D.length 5) SP C tC d0 d1 d2 d3 ∧ σ1[3]? = some (.row 48 6 v gs.flatten) ∧ σ1[1]? = some (.box (.agg [.int .u8 k, .int .u8 a])) ∧ gs[0]? = some [.str q0, .str q1, .int .i64 q2, .int .i64 q3, .int .i64 q4, .slice (sz 1 q5) (q5.map i64.emb) .any] ∧ (∀ g ∈ gs, Grp Em.rank okR 6 g) ∧ n ≤ 61) ∧ fr = gg 0 :: gg 1 :: .ptr 0 0 :: .ptr 1 0 :: .ptr 2 0 :: gg 5 :: .int .i64 K :: .ptr B 0 :: gg 8 :: gg 9 :: gg 10 :: gg 11 :: gg 12 :: gg 13 :: gg 14 :: gg 15 :: gg 16 :: gg 17 :: gg 18 :: gg 19 :: gg 20 :: gg 21 :: gg 22 :: gg 23 :: gg 24 :: gg 25 :: gg 26 :: gg 27 :: gg 28 :: gg 29 :: gg 30 :: gg 31 :: gg 32 :: gg 33 :: gg 34 :: gg 35 :: gg 36 :: gg 37 :: gg 38 :: gg 39 :: gg 40 :: gg 41 :: gg 42 :: gg 43 :: gg 44 :: gg 45 :: gg 46 :: gg 47 :: gg 48 :: gg 49 :: gg 50 :: gg 51 :: gg 52 :: gg 53 :: gg 54 :: gg 55 :: gg 56 :: gg 57 :: gg 58 :: gg 59 :: gg 60 :: gg 61 :: gg 62 :: gg 63 :: gg 64 :: gg 65 :: gg 66 :: gg 67 :: gg 68 :: gg 69 :: gg 70 :: gg 71 :: gg 72 :: gg 73 :: gg 74 :: gg 75 :: gg 76 :: gg 77 :: gg 78 :: gg 79 :: gg 80 :: gg 81 :: gg 82 :: gg 83 :: gg 84 :: gg 85 :: gg 86 :: gg 87 :: gg 88 :: gg 89 :: gg 90 :: gg 91 :: gg 92 :: gg 93 :: gg 94 :: gg 95 :: gg 96 :: gg 97 :: gg 98 :: gg 99 :: gg 100 :: gg 101 :: gg 102 :: gg 103 :: gg 104 :: gg 105 :: gg 106 :: gg 107 :: gg 108 :: gg 109 :: gg 110 :: gg 111 :: gg 112 :: gg 113 :: gg 114 :: gg 115 :: gg 116 :: gg 117 :: gg 118 :: gg 119 :: gg 120 :: gg 121 :: gg 122 :: gg 123 :: gg 124 :: gg 125 :: gg 126 :: gg 127 :: gg 128 :: gg 129 :: gg 130 :: gg 131 :: gg 132 :: gg 133 :: gg 134 :: gg 135 :: gg 136 :: gg 137 :: gg 138 :: gg 139 :: gg 140 :: gg 141 :: gg 142 :: gg 143 :: gg 144 :: gg 145 :: gg 146 :: gg 147 :: gg 148 :: gg 149 :: gg 150 :: gg 151 :: gg 152 :: gg 153 :: gg 154 :: gg 155 :: gg 156 :: gg 157 :: gg 158 :: gg 159 :: gg 160 :: gg 161 :: gg 162 :: gg 163 :: gg 164 :: gg 165 :: gg 166 :: gg 167 :: gg 168 :: gg 169 :: gg 170 :: gg 171 :: gg 172 :: gg 173 :: gg 174 :: gg 175 :: gg 176 :: gg 177 :: gg 178 :: gg 179 :: gg 180 :: gg 181 :: gg 182 :: gg 183 :: gg 184 :: gg 185 :: gg 186 :: gg 187 :: gg 188 :: gg 189 :: gg 190 :: gg 191 :: gg 192 :: gg 193 :: gg 194 :: gg 195 :: gg 196 :: gg 197 :: gg 198 :: gg 199 :: gg 200 :: gg 201 :: gg 202 :: gg 203 :: gg 204 :: gg 205 :: gg 206 :: gg 207 :: gg 208 :: gg 209 :: gg 210 :: gg 211 :: gg 212 :: gg 213 :: gg 214 :: gg 215 :: gg 216 :: gg 217 :: gg 218 :: gg 219 :: gg 220 :: gg 221 :: gg 222 :: gg 223 :: gg 224 :: gg 225 :: gg 226 :: gg 227 :: gg 228 :: gg 229 :: gg 230 :: gg 231 :: gg 232 :: gg 233 :: gg 234 :: gg 235 :: gg 236 :: gg 237 :: gg 238 :: gg 239 :: gg 240 :: gg 241 :: gg 242 :: gg 243 :: gg 244 :: gg 245 :: gg 246 :: gg 247 :: gg 248 :: gg 249 :: gg 250 :: gg 251 :: gg 252 :: gg 253 :: gg 254 :: gg 255 :: gg 256 :: gg 257 :: gg 258 :: gg 259 :: gg 260 :: gg 261 :: gg 262 :: gg 263 :: gg 264 :: gg 265 :: gg 266 :: gg 267 :: gg 268 :: gg 269 :: gg 270 :: gg 271 :: gg 272 :: gg 273 :: gg 274 :: [] ∧ σ = σ1) ?_ ((1000 - R.length)) (by refine ⟨R.length, 0, gR, σ6, ?_⟩; exact exF (⟨by omega, lgR, hF, by rw [hcR]; exact v3, v1, eZ, grR, by omega⟩) (by (first | rfl | (simp []; repeat (first | rfl | (apply And.intro))) | (simp []; done))) (by (first | rfl | (simp []; repeat (first | rfl | (apply And.intro))) | (simp []; done))))
      rintro m fr σ ⟨n, v, gs, σ1, gg, hI, rfl, rfl⟩
      obtain ⟨hm, hgl, hFI, g3, g1, gZ, hgs, hn61⟩ := hI
      have hgl6 := flatG_len (sz := 6) gs fun g h => (hgs g h).1
      have hpos : 0 < gs.length := (List.getElem?_eq_some_iff.1 gZ).1
      have gt0 : gs.flatten.take 6 = [.str q0, .str q1, .int .i64 q2, .int .i64 q3, .int .i64 q4, .slice (sz 1 q5) (q5.map i64.emb) .any] := by
        have h := flatG_at (sz := 6) gs 0 hpos fun g h => (hgs g h).1
        rw [Nat.zero_mul, List.drop_zero] at h
        rw [h]
        have h2 := (List.getElem?_eq_some_iff.1 gZ).2
        exact h2
      obtain ⟨cs, hcs⟩ : ∃ c, gs.flatten = c := ⟨_, rfl⟩
      rw [hcs] at g3 hgl6 gt0
      have gl6 : 6 ≤ cs.length := by omega
      have g0 := hFI.o
      obtain ⟨r0', y0'⟩ := List.getElem?_eq_some_iff.1 g0
      obtain ⟨r1', y1'⟩ := List.getElem?_eq_some_iff.1 g1
      obtain ⟨r3', y3'⟩ := List.getElem?_eq_some_iff.1 g3
      by_cases hlt : n < 60 + j2
      · have q7 : (n : Int) < 60 + (j2 : Int) := by omega
        have xk0 : pindexAddr Tryz.prog 31 (.rref 3 v 0 n 6) (.int .i64 0) = some (.rptr 3 v 0) := by
          have : 0 < n := by omega
          simp [pixRow, this]
        obtain ⟨e1, e2, e3, e4, e5, e6, e7, e8⟩ := two_digits (n := n) (by omega)
        obtain ⟨u1, hu1⟩ : ∃ u, n / 10 = u := ⟨_, rfl⟩
        obtain ⟨u2, hu2⟩ : ∃ u, n % 10 = u := ⟨_, rfl⟩
        rw [hu1] at e1 e3 e5 e7
        rw [hu2] at e2 e4 e6 e8
        obtain ⟨c1, hc1⟩ : ∃ c, UInt8.ofNat (48 + (u1 : Int)).toNat = c := ⟨_, rfl⟩
        obtain ⟨c2, hc2⟩ : ∃ c, UInt8.ofNat (48 + (u2 : Int)).toNat = c := ⟨_, rfl⟩
        have j0 : ∀ x : SObj, (σ ++ [x])[σ.length]? = some x := fun x => by simp
        have hgrow := prowAppend_grow (P := Tryz.prog) (σ := σ ++ [.box (.agg [.str [88, c1, c2], .str q1, .int .i64 q2, .int .i64 q3, .int .i64 q4, .slice (sz 1 q5) (q5.map i64.emb) .any])]) (t := 31) (e := 48) (k := 6) (b := 80) (n := 275) (id := 3) (v := v) (m := n) (cs := cs) (x := .agg [.str [88, c1, c2], .str q1, .int .i64 q2, .int .i64 q3, .int .i64 q4, .slice (sz 1 q5) (q5.map i64.emb) .any]) (tok := .full)
          rfl Tryz.underlying31 (by kernel_rfl) (one_row (by kernel_rfl)) (app_keep g3) (by omega) rfl (by omega) (by omega)
        simp only [PD.cells] at hgrow
        obtain ⟨σ8, hs8⟩ : ∃ s : List SObj, (σ ++ [SObj.box (.agg [.str [88, c1, c2], .str q1, .int .i64 q2, .int .i64 q3, .int .i64 q4, .slice (sz 1 q5) (q5.map i64.emb) .any])]).set 3 (SObj.row 48 6 (v + 1) (cs ++ [.str [88, c1, c2], .str q1, .int .i64 q2, .int .i64 q3, .int .i64 q4, .slice (sz 1 q5) (q5.map i64.emb) .any])) = s := ⟨_, rfl⟩
        rw [hs8] at hgrow
        have b0 : σ8[0]? = some (.box (.agg [.str nm, .rref 3 v 0 n 6, .rref 4 0 0 D.length 5, .slice 5 (C.map Em.coup.emb) tC])) := by rw [← hs8, List.getElem?_set_ne (by decide)]; exact app_keep g0
        obtain ⟨r8, y8⟩ := List.getElem?_eq_some_iff.1 b0
        have gx := And.intro @g0 (And.intro @r0' (And.intro @y0' (And.intro @g1 (And.intro @r1' (And.intro @y1' (And.intro @w9 (And.intro @t7 (And.intro @t8 (And.intro @t9 (And.intro @q7 (And.intro @hlt (And.intro @xk0 (And.intro @g3 (And.intro @r3' (And.intro @y3' (And.intro @gl6 (And.intro @gt0 (And.intro @e1 (And.intro @e2 (And.intro @e3 (And.intro @e4 (And.intro @e5 (And.intro @e6 (And.intro @e7 (And.intro @e8 (And.intro @hc1 (And.intro @hc2 (And.intro @j0 (And.intro @hgrow (And.intro @b0 (And.intro @r8 (@y8))))))))))))))))))))))))))))))))
        refine goA ?_
        clear gx
        have hgs2 : ∀ g ∈ gs ++ [[PD.str [88, c1, c2], .str q1, .int .i64 q2, .int .i64 q3, .int .i64 q4, .slice (sz 1 q5) (q5.map i64.emb) .any]], Grp Em.rank okR 6 g := fun g hg => by
          rcases List.mem_append.1 hg with h | h
          · exact hgs g h
          · rw [List.mem_singleton.1 h]
            exact grp_rank _ _ _ _ _ (sz 1 q5) q5 .any (if h : q5 = [] then .inl h else .inr (sz_ne h)) okZ
        have hcs2 : cs ++ [PD.str [88, c1, c2], .str q1, .int .i64 q2, .int .i64 q3, .int .i64 q4, .slice (sz 1 q5) (q5.map i64.emb) .any] = (gs ++ [[PD.str [88, c1, c2], .str q1, .int .i64 q2, .int .i64 q3, .int .i64 q4, .slice (sz 1 q5) (q5.map i64.emb) .any]]).flatten := by
          rw [← hcs]
          exact flatG_app gs _
        have hgl2 : (gs ++ [[PD.str [88, c1, c2], .str q1, .int .i64 q2, .int .i64 q3, .int .i64 q4, .slice (sz 1 q5) (q5.map i64.emb) .any]]).length = n + 1 := by
          rw [List.length_append, hgl, List.length_singleton]
        have hl8 : 3 < (σ ++ [SObj.box (.agg [.str [88, c1, c2], .str q1, .int .i64 q2, .int .i64 q3, .int .i64 q4, .slice (sz 1 q5) (q5.map i64.emb) .any])]).length := by rw [List.length_append]; omega
        have hF8 := (hFI.more (J := [SObj.box (.agg [.str [88, c1, c2], .str q1, .int .i64 q2, .int .i64 q3, .int .i64 q4, .slice (sz 1 q5) (q5.map i64.emb) .any])])).grow3 (v := v + 1) (n := n + 1) _ (by omega) hl8 (by omega) (by omega) hgs2
        rw [← hcs2, hs8] at hF8
        have g38 : σ8[3]? = some (.row 48 6 (v + 1) (gs ++ [[PD.str [88, c1, c2], .str q1, .int .i64 q2, .int .i64 q3, .int .i64 q4, .slice (sz 1 q5) (q5.map i64.emb) .any]]).flatten) := by
          rw [← hs8, ← hcs2]
          exact List.getElem?_set_self hl8
        have g18 : σ8[1]? = some (.box (.agg [.int .u8 k, .int .u8 a])) := by
          rw [← hs8, List.getElem?_set_ne (by decide)]
          exact app_keep g1
        obtain ⟨σ9, hs9⟩ : ∃ s, σ8.set 0 (.box (.agg [.str nm, .rref 3 (v + 1) 0 (n + 1) 6, .rref 4 0 0 D.length 5, .slice 5 (C.map Em.coup.emb) tC])) = s := ⟨_, rfl⟩
        have g39 := (show σ9[3]? = σ8[3]? by rw [← hs9]; exact List.getElem?_set_ne (by decide)).trans g38
        have g19 := (show σ9[1]? = σ8[1]? by rw [← hs9]; exact List.getElem?_set_ne (by decide)).trans g18
        rw [hs9] at hF8
        refine LoopI.normal (m - 1) (by omega) ⟨n + 1, v + 1, _, σ9, exF (⟨by omega, hgl2, hF8, g39, g19, by rw [List.getElem?_append_left hpos]; exact gZ, hgs2, by omega⟩) (by (first | rfl | (simp [hs9]; repeat (first | rfl | (apply And.intro))) | (simp [hs9]; done))) (by (first | rfl | (simp [hs9]; repeat (first | rfl | (apply And.intro))) | (simp [hs9]; done)))⟩
      · have q7 : ¬ (n : Int) < 60 + (j2 : Int) := by omega
        have gx := And.intro @g0 (And.intro @r0' (And.intro @y0' (And.intro @g1 (And.intro @r1' (And.intro @y1' (And.intro @w9 (And.intro @t7 (And.intro @t8 (And.intro @t9 (@q7))))))))))
        refine goA ?_
        clear gx
        exact post_mk rfl hFI
    · have gx := And.intro @v0 (And.intro @r0 (@y0))
      refine goA ?_
      clear gx
      exact post_mk rfl (hF.put0 r0 (by omega) ⟨_, vR⟩ (.inl rfl))
    · have w9 : ((a : Int).tmod 2) = ((a % 2 : Nat) : Int) := rfl
      obtain ⟨j2, hj2⟩ : ∃ q, a % 2 = q := ⟨_, rfl⟩
      rw [hj2] at w9
      have ij2 : j2 < 2 := by omega
      have t7 : IntKind.u8.wrap (j2 : Int) = (j2 : Int) := by simp only [IntKind.wrap, IntKind.bits, IntKind.signed]; simp; omega
      have t8 : IntKind.i64.wrap (j2 : Int) = (j2 : Int) := by rw [IntKind.wrap_i64]; omega
      have t9 : IntKind.i64.wrap (8 + (j2 : Int)) = 8 + (j2 : Int) := by rw [IntKind.wrap_i64]; omega
      have zD2 : D.length ≤ 60 := hsm.dl
      have gx := @v0
      refine goA ?_
      clear gx
      refine Wp.loopI (fun m fr σ => ∃ (n v : Nat) (gs : List (List PD)) (σ1 : List SObj), ∃ gg : Nat → PD, (n + m = 1000 ∧ gs.length = n ∧ FinI σ1 B K nm (.rref 3 0 0 R.length 6) (.rref 4 v 0 n 5) SP C tC d0 d1 d2 d3 ∧ σ1[4]? = some (.row 53 5 v gs.flatten) ∧ σ1[1]? = some (.box (.agg [.int .u8 k, .int .u8 a])) ∧ K < n ∧ (∀ g ∈ gs, Grp Em.div okD 5 g) ∧ n ≤ 61) ∧ fr = gg 0 :: gg 1 :: .ptr 0 0 :: .ptr 1 0 :: .ptr 2 0 :: gg 5 :: .int .i64 K :: .ptr B 0 :: gg 8 :: gg 9 :: gg 10 :: gg 11 :: gg 12 :: gg 13 :: gg 14 :: gg 15 :: gg 16 :: gg 17 :: gg 18 :: gg 19 :: gg 20 :: gg 21 :: gg 22 :: gg 23 :: gg 24 :: gg 25 :: gg 26 :: gg 27 :: gg 28 :: gg 29 :: gg 30 :: gg 31 :: gg 32 :: gg 33 :: gg 34 :: gg 35 :: gg 36 :: gg 37 :: gg 38 :: gg 39 :: gg 40 :: gg 41 :: gg 42 :: gg 43 :: gg 44 :: gg 45 :: gg 46 :: gg 47 :: gg 48 :: gg 49 :: gg 50 :: gg 51 :: gg 52 :: gg 53 :: gg 54 :: gg 55 :: gg 56 :: gg 57 :: gg 58 :: gg 59 :: gg 60 :: gg 61 :: gg 62 :: gg 63 :: gg 64 :: gg 65 :: gg 66 :: gg 67 :: gg 68 :: gg 69 :: gg 70 :: gg 71 :: gg 72 :: gg 73 :: gg 74 :: gg 75 :: gg 76 :: gg 77 :: gg 78 :: gg 79 :: gg 80 :: gg 81 :: gg 82 :: gg 83 :: gg 84 :: gg 85 :: gg 86 :: gg 87 :: gg 88 :: gg 89 :: gg 90 :: gg 91 :: gg 92 :: gg 93 :: gg 94 :: gg 95 :: gg 96 :: gg 97 :: gg 98 :: gg 99 :: gg 100 :: gg 101 :: gg 102 :: gg 103 :: gg 104 :: gg 105 :: gg 106 :: gg 107 :: gg 108 :: gg 109 :: gg 110 :: gg 111 :: gg 112 :: gg 113 :: gg 114 :: gg 115 :: gg 116 :: gg 117 :: gg 118 :: gg 119 :: gg 120 :: gg 121 :: gg 122 :: gg 123 :: gg 124 :: gg 125 :: gg 126 :: gg 127 :: gg 128 :: gg 129 :: gg 130 :: gg 131 :: gg 132 :: gg 133 :: gg 134 :: gg 135 :: gg 136 :: gg 137 :: gg 138 :: gg 139 :: gg 140 :: gg 141 :: gg 142 :: gg 143 :: gg 144 :: gg 145 :: gg 146 :: gg 147 :: gg 148 :: gg 149 :: gg 150 :: gg 151 :: gg 152 :: gg 153 :: gg 154 :: gg 155 :: gg 156 :: gg 157 :: gg 158 :: gg 159 :: gg 160 :: gg 161 :: gg 162 :: gg 163 :: gg 164 :: gg 165 :: gg 166 :: gg 167 :: gg 168 :: gg 169 :: gg 170 :: gg 171 :: gg 172 :: gg 173 :: gg 174 :: gg 175 :: gg 176 :: gg 177 :: gg 178 :: gg 179 :: gg 180 :: gg 181 :: gg 182 :: gg 183 :: gg 184 :: gg 185 :: gg 186 :: gg 187 :: gg 188 :: gg 189 :: gg 190 :: gg 191 :: gg 192 :: gg 193 :: gg 194 :: gg 195 :: gg 196 :: gg 197 :: gg 198 :: gg 199 :: gg 200 :: gg 201 :: gg 202 :: gg 203 :: gg 204 :: gg 205 :: gg 206 :: gg 207 :: gg 208 :: gg 209 :: gg 210 :: gg 211 :: gg 212 :: gg 213 :: gg 214 :: gg 215 :: gg 216 :: gg 217 :: gg 218 :: gg 219 :: gg 220 :: gg 221 :: gg 222 :: gg 223 :: gg 224 :: gg 225 :: gg 226 :: gg 227 :: gg 228 :: gg 229 :: gg 230 :: gg 231 :: gg 232 :: gg 233 :: gg 234 :: gg 235 :: gg 236 :: gg 237 :: gg 238 :: gg 239 :: gg 240 :: gg 241 :: gg 242 :: gg 243 :: gg 244 :: gg 245 :: gg 246 :: gg 247 :: gg 248 :: gg 249 :: gg 250 :: gg 251 :: gg 252 :: gg 253 :: gg 254 :: gg 255 :: gg 256 :: gg 257 :: gg 258 :: gg 259 :: gg 260 :: gg 261 :: gg 262 :: gg 263 :: gg 264 :: gg 265 :: gg 266 :: gg 267 :: gg 268 :: gg 269 :: gg 270 :: gg 271 :: gg 272 :: gg 273 :: gg 274 :: [] ∧ σ = σ1) ?_ ((1000 - D.length)) (by refine ⟨D.length, 0, gD, σ6, ?_⟩; exact exF (⟨by omega, lgD, hF, by rw [hcD]; exact v4, v1, iK, grD, by omega⟩) (by (first | rfl | (simp []; repeat (first | rfl | (apply And.intro))) | (simp []; done))) (by (first | rfl | (simp []; repeat (first | rfl | (apply And.intro))) | (simp []; done))))
      rintro m fr σ ⟨n, v, gs, σ1, gg, hI, rfl, rfl⟩
      obtain ⟨hm, hgl, hFI, g4, g1, hKn, hgs, hn61⟩ := hI
      have hgl6 := flatG_len (sz := 5) gs fun g h => (hgs g h).1
      obtain ⟨cs, hcs⟩ : ∃ c, gs.flatten = c := ⟨_, rfl⟩
      rw [hcs] at g4 hgl6
      have g0 := hFI.o
      obtain ⟨r0', y0'⟩ := List.getElem?_eq_some_iff.1 g0
      obtain ⟨r1', y1'⟩ := List.getElem?_eq_some_iff.1 g1
      obtain ⟨r4', y4'⟩ := List.getElem?_eq_some_iff.1 g4
      by_cases hlt : n < 8 + j2
      · have q7 : (n : Int) < 8 + (j2 : Int) := by omega
        have e1 : IntKind.i64.wrap (48 + (n : Int)) = 48 + (n : Int) := by rw [IntKind.wrap_i64]; omega
        have e2 : IntKind.u8.wrap (48 + (n : Int)) = 48 + (n : Int) := by simp only [IntKind.wrap, IntKind.bits, IntKind.signed]; simp; omega
        obtain ⟨c1, hc1⟩ : ∃ c, UInt8.ofNat (48 + (n : Int)).toNat = c := ⟨_, rfl⟩
        have hgrow := prowAppend_grow (P := Tryz.prog) (σ := σ) (t := 32) (e := 53) (k := 5) (b := 64) (n := 275) (id := 4) (v := v) (m := n) (cs := cs) (x := .agg [.str [69, c1], .bool false, .int .i64 0, .int .i64 0, .slice 0 [] .any]) (tok := .full)
          rfl Tryz.underlying32 (by kernel_rfl) (one_row (by kernel_rfl)) g4 (by omega) rfl (by omega) (by omega)
        simp only [PD.cells] at hgrow
        obtain ⟨σ8, hs8⟩ : ∃ s : List SObj, σ.set 4 (SObj.row 53 5 (v + 1) (cs ++ [.str [69, c1], .bool false, .int .i64 0, .int .i64 0, .slice 0 [] .any])) = s := ⟨_, rfl⟩
        rw [hs8] at hgrow
        have b0 : σ8[0]? = some (.box (.agg [.str nm, .rref 3 0 0 R.length 6, .rref 4 v 0 n 5, .slice 5 (C.map Em.coup.emb) tC])) := by rw [← hs8, List.getElem?_set_ne (by decide)]; exact g0
        obtain ⟨r8, y8⟩ := List.getElem?_eq_some_iff.1 b0
        have gx := And.intro @g0 (And.intro @r0' (And.intro @y0' (And.intro @g1 (And.intro @r1' (And.intro @y1' (And.intro @w9 (And.intro @t7 (And.intro @t8 (And.intro @t9 (And.intro @q7 (And.intro @hlt (And.intro @g4 (And.intro @r4' (And.intro @y4' (And.intro @e1 (And.intro @e2 (And.intro @hc1 (And.intro @hgrow (And.intro @b0 (And.intro @r8 (@y8)))))))))))))))))))))
        refine goA ?_
        clear gx
        have hgs2 : ∀ g ∈ gs ++ [[PD.str [69, c1], .bool false, .int .i64 0, .int .i64 0, .slice 0 [] .any]], Grp Em.div okD 5 g := fun g hg => by
          rcases List.mem_append.1 hg with h | h
          · exact hgs g h
          · rw [List.mem_singleton.1 h]
            exact grp_div _ _ _ _ 0 [] .any (.inl rfl) ⟨by simp, by simp⟩
        have hcs2 : cs ++ [PD.str [69, c1], .bool false, .int .i64 0, .int .i64 0, .slice 0 [] .any] = (gs ++ [[PD.str [69, c1], .bool false, .int .i64 0, .int .i64 0, .slice 0 [] .any]]).flatten := by
          rw [← hcs]
          exact flatG_app gs _
        have hgl2 : (gs ++ [[PD.str [69, c1], .bool false, .int .i64 0, .int .i64 0, .slice 0 [] .any]]).length = n + 1 := by
          rw [List.length_append, hgl, List.length_singleton]
        have hF8 := hFI.grow4 (v := v + 1) (n := n + 1) _ (by omega) r4' (by omega) (by omega) (by omega) hgs2
        rw [← hcs2, hs8] at hF8
        have g48 : σ8[4]? = some (.row 53 5 (v + 1) (gs ++ [[PD.str [69, c1], .bool false, .int .i64 0, .int .i64 0, .slice 0 [] .any]]).flatten) := by
          rw [← hs8, ← hcs2]
          exact List.getElem?_set_self r4'
        have g18 : σ8[1]? = some (.box (.agg [.int .u8 k, .int .u8 a])) := by
          rw [← hs8, List.getElem?_set_ne (by decide)]
          exact g1
        obtain ⟨σ9, hs9⟩ : ∃ s, σ8.set 0 (.box (.agg [.str nm, .rref 3 0 0 R.length 6, .rref 4 (v + 1) 0 (n + 1) 5, .slice 5 (C.map Em.coup.emb) tC])) = s := ⟨_, rfl⟩
        have g49 := (show σ9[4]? = σ8[4]? by rw [← hs9]; exact List.getElem?_set_ne (by decide)).trans g48
        have g19 := (show σ9[1]? = σ8[1]? by rw [← hs9]; exact List.getElem?_set_ne (by decide)).trans g18
        rw [hs9] at hF8
        refine LoopI.normal (m - 1) (by omega) ⟨n + 1, v + 1, _, σ9, exF (⟨by omega, hgl2, hF8, g49, g19, by omega, hgs2, by omega⟩) (by (first | rfl | (simp [hs9]; repeat (first | rfl | (apply And.intro))) | (simp [hs9]; done))) (by (first | rfl | (simp [hs9]; repeat (first | rfl | (apply And.intro))) | (simp [hs9]; done)))⟩
      · have q7 : ¬ (n : Int) < 8 + (j2 : Int) := by omega
        have gx := And.intro @g0 (And.intro @r0' (And.intro @y0' (And.intro @g1 (And.intro @r1' (And.intro @y1' (And.intro @w9 (And.intro @t7 (And.intro @t8 (And.intro @t9 (@q7))))))))))
        refine goA ?_
        clear gx
        exact post_mk rfl hFI
    · exact absurd hkd (by omega)
    · exact absurd hkd (by omega)
    · exact absurd hkd (by omega)
    · exact absurd hkd (by omega)
    · exact absurd hkd (by omega)
    · exact absurd hkd (by omega)
    · exact absurd hkd (by omega)
    · exact absurd hkd (by omega)
    · exact absurd hkd (by omega)
  intro r hr
  suffices G : ∀ r, Post B K r → SeqQ _ _ _ _ _ _ r from ⟨fun k e => G _ (hr.out k e), fun e => G _ (hr.on e)⟩
  clear hr r
  rintro ⟨x, fr, ms, σ⟩ ⟨nm, RP, DP, SP, C, tC, d0, d1, d2, d3, hp⟩
  obtain ⟨e1, e2, ⟨gg, e3⟩, ⟨v0, v2, vB, hB4, hC, hR, hD, hS⟩⟩ := hp
  simp only at e1 e2 e3 v0 v2 vB hR hD hS
  subst e1 e2 e3
  unfold frG
  have cq : SP.cells = [SP] := by rcases hS with h | ⟨_, v, gs, h, _⟩ <;> subst h <;> rfl
  have pq : SP.plain = true := by rcases hS with h | ⟨_, v, gs, h, _⟩ <;> subst h <;> rfl
  obtain ⟨n, hR⟩ := hR
  have hR0 := hR
  obtain ⟨vr, gr, hRP, hr1, hr2, hr3, hr4⟩ := hR
  subst hRP
  obtain ⟨r0, y0⟩ := List.getElem?_eq_some_iff.1 v0
  obtain ⟨r2, y2⟩ := List.getElem?_eq_some_iff.1 v2
  obtain ⟨rB, yB⟩ := List.getElem?_eq_some_iff.1 vB
  rcases hD with hD | ⟨nd, ⟨vd, gd, hDP, k1, k2, k3, k4⟩, hK⟩
  · subst hD
    refine SeqQ.normal ?_
    have gx := And.intro @v0 (And.intro @r0 (And.intro @y0 (And.intro @v2 (And.intro @r2 (@y2)))))
    refine goA ?_
    clear gx
    obtain ⟨σ2, hs2⟩ : ∃ s, σ.set 2 (.box (.agg [.str nm, .rref 3 vr 0 n 6, .slice 0 [] .full, .slice 5 (C.map Em.coup.emb) tC])) = s := ⟨_, rfl⟩
    rw [hs2]
    have z2 : σ2[2]? = some (.box (.agg [.str nm, .rref 3 vr 0 n 6, .slice 0 [] .full, .slice 5 (C.map Em.coup.emb) tC])) := by rw [← hs2]; exact List.getElem?_set_self r2
    obtain ⟨s2, x2⟩ := List.getElem?_eq_some_iff.1 z2
    obtain ⟨o, ho1, ho2⟩ := organ_read (σ := σ2) (nm := nm) (RP := .rref 3 vr 0 n 6) (DP := .slice 0 [] .full) (C := C) (tC := tC) hC ⟨n, hR0.keep (by rw [← hs2]; exact List.getElem?_set_ne (by decide))⟩ ⟨[], by simp, by simp, fun K => thaw_nil 5 0 σ2 (K + 4) .full⟩
    refine ⟨_, σ2, ?_, o, ho1, ho2⟩
    simp [pfinish, z2]
    trace_state
  · subst hDP
    obtain ⟨cs, hcs⟩ : ∃ c, gd.flatten = c := ⟨_, rfl⟩
    rw [hcs] at k1
    have hlen := flatG_len (sz := 5) gd fun g h => (k4 g h).1
    rw [hcs] at hlen
    have gl : K * 5 + 5 ≤ cs.length := by omega
    have xk : pindexAddr Tryz.prog 32 (.rref 4 vd 0 nd 5) (.int .i64 K) = some (.rptr 4 vd (K * 5)) := by
      simp [pixRow, hK]
    have hfill := flatG_set (sz := 5) (new := [.str d0, .bool d1, .int .i64 d2, .int .i64 d3, SP]) (j := 0) (by simp) gd K (by omega) fun g h => (k4 g h).1
    have hone : pfillAt gd[K] 0 [.str d0, .bool d1, .int .i64 d2, .int .i64 d3, SP] = [.str d0, .bool d1, .int .i64 d2, .int .i64 d3, SP] := by
      have : (gd[K]).length = 5 := (k4 _ (List.getElem_mem (by omega))).1
      simp [pfillAt, this]
    rw [hone, hcs] at hfill
    obtain ⟨cs2, hcs2⟩ : ∃ c, (gd.set K [.str d0, .bool d1, .int .i64 d2, .int .i64 d3, SP]).flatten = c := ⟨_, rfl⟩
    rw [hcs2] at hfill
    simp only [pfillAt, Nat.add_zero, List.length_cons, List.length_nil, Nat.zero_add, Nat.reduceAdd, List.append_assoc, List.cons_append, List.nil_append] at hfill
    have p0 := pq
    have q0 := cq
    unfold PD.plain at pq
    unfold PD.cells at cq
    have hKi : (K : Int) < (nd : Int) := by omega
    obtain ⟨l4, y4⟩ := List.getElem?_eq_some_iff.1 k1
    obtain ⟨σ1, hs1⟩ : ∃ s, σ.set 4 (.row 53 5 vd cs2) = s := ⟨_, rfl⟩
    have m0 : σ1[0]? = some (.box (.agg [.str nm, .rref 3 vr 0 n 6, .rref 4 vd 0 nd 5, .slice 5 (C.map Em.coup.emb) tC])) := by rw [← hs1, List.getElem?_set_ne (by decide)]; exact v0
    have m2 : σ1[2]? = some (.box (.agg [.str [], .slice 0 [] .full, .slice 0 [] .full, .slice 0 [] .full])) := by rw [← hs1, List.getElem?_set_ne (by decide)]; exact v2
    obtain ⟨a0, b0⟩ := List.getElem?_eq_some_iff.1 m0
    obtain ⟨a2, b2⟩ := List.getElem?_eq_some_iff.1 m2
    refine SeqQ.normal ?_
    have gx := And.intro @v0 (And.intro @r0 (And.intro @y0 (And.intro @v2 (And.intro @r2 (And.intro @y2 (And.intro @hKi (And.intro @hK (And.intro @xk (And.intro @vB (And.intro @rB (And.intro @yB (And.intro @pq (And.intro @cq (And.intro @gl (And.intro @k1 (And.intro @l4 (And.intro @y4 (And.intro @hfill (And.intro @hs1 (And.intro @m0 (And.intro @m2 (And.intro @a0 (And.intro @b0 (And.intro @a2 (@b2)))))))))))))))))))))))))
    refine goA ?_
    clear gx
    obtain ⟨σ2, hs2⟩ : ∃ s, σ1.set 2 (.box (.agg [.str nm, .rref 3 vr 0 n 6, .rref 4 vd 0 nd 5, .slice 5 (C.map Em.coup.emb) tC])) = s := ⟨_, rfl⟩
    rw [hs2]
    have z2 : σ2[2]? = some (.box (.agg [.str nm, .rref 3 vr 0 n 6, .rref 4 vd 0 nd 5, .slice 5 (C.map Em.coup.emb) tC])) := by rw [← hs2]; exact List.getElem?_set_self a2
    obtain ⟨s2, x2⟩ := List.getElem?_eq_some_iff.1 z2
    have hk : ∀ i, i ≠ 2 → i ≠ 4 → σ2[i]? = σ[i]? := fun i h1 h2 => by rw [← hs2, List.getElem?_set_ne (Ne.symm h1), ← hs1, List.getElem?_set_ne (Ne.symm h2)]
    have z4 : σ2[4]? = some (.row 53 5 vd (gd.set K [.str d0, .bool d1, .int .i64 d2, .int .i64 d3, SP]).flatten) := by
      rw [← hs2, List.getElem?_set_ne (by decide), ← hs1, hcs2]
      exact List.getElem?_set_self l4
    obtain ⟨o, ho1, ho2⟩ := organ_read (σ := σ2) (nm := nm) (RP := .rref 3 vr 0 n 6) (DP := .rref 4 vd 0 nd 5) (C := C) (tC := tC) hC ⟨n, hR0.keep (hk 3 (by decide) (by decide))⟩
      (divs_read (B := B) z4 k2 hK k3 k4 (hS.imp id fun ⟨n, h⟩ => ⟨n, h.keep (hk (B + 1) (by omega) (by omega))⟩))
    refine ⟨_, σ2, ?_, o, ho1, ho2⟩
    simp [pfinish, z2]
    trace_state
end Go.Kz
