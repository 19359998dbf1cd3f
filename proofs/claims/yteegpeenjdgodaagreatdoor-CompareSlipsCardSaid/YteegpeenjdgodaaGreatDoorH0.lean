/-
  Part H0 of the way: an interpreter over pure data, its soundness, walks through functions.
-/
import Derived.Test.YteegpeenjdgodaaGreatDoorP7
set_option linter.all false

/-
  Chapter 51: planned organs are right (plain), begun: ranks.
-/
namespace Go.Kz
open Go Go.Proofs
end Go.Kz

/-
  Chapter 51: planned organs are right (plain).
-/
namespace Go.Kz
open Go Go.Proofs
theorem getD_mem {α : Type} {l : List α} {i : Nat} (h : i < l.length) (d : α) : l.getD i d ∈ l := by
  rw [List.getD_eq_getElem?_getD, List.getElem?_eq_getElem h]
  exact List.getElem_mem h
structure FitsP (p : PlanD) : Prop where
  r1 : 1 ≤ p.ranks.length
  r3 : p.ranks.length ≤ 3
  d1 : 1 ≤ p.divs.length
  d3 : p.divs.length ≤ 3
  c3 : p.coups.length ≤ 3
  s3 : ∀ b ∈ p.divs, b.stops.length ≤ 3
theorem fitsP {p : PlanD} (h : fitsB p = true) : FitsP p := by
  simp only [fitsB, Bool.and_eq_true, decide_eq_true_eq] at h
  obtain ⟨⟨⟨⟨⟨hR1, hR3⟩, hD1⟩, hD3⟩, hC3⟩, hS3⟩ := h
  exact ⟨hR1, hR3, hD1, hD3, hC3, fun b hb => by simpa using List.all_eq_true.1 hS3 b hb⟩
theorem mem_ranksS {l : List RPlan} {n : Nat} (hn : n ≤ l.length) {r : RankD} (h : r ∈ ranksS l n) : ∃ x ∈ l, ∃ i, i < n ∧ r = rankS x i := by
  obtain ⟨j, hj, rfl⟩ := List.mem_map.1 h
  have hj' := List.mem_range.1 hj
  exact ⟨_, getD_mem (by omega) _, j, hj', rfl⟩
theorem mem_boardsS {rs : List RankD} {l : List BoardD} {n : Nat} (hn : n ≤ l.length) {r : DivD} (h : r ∈ boardsS rs l n) : ∃ x ∈ l, ∃ i, i < n ∧ r = boardS rs x i := by
  obtain ⟨j, hj, rfl⟩ := List.mem_map.1 h
  have hj' := List.mem_range.1 hj
  exact ⟨_, getD_mem (by omega) _, j, hj', rfl⟩
theorem mem_pullsS {rs : List RankD} {lo hg : Int} {l : List PullD} {n : Nat} (hn : n ≤ l.length) {r : StopD} (h : r ∈ pullsS rs lo hg l n) : ∃ x ∈ l, ∃ i, i < n ∧ r = pullS rs lo hg x i := by
  obtain ⟨j, hj, rfl⟩ := List.mem_map.1 h
  have hj' := List.mem_range.1 hj
  exact ⟨_, getD_mem (by omega) _, j, hj', rfl⟩
theorem boardsS_length (rs : List RankD) (l : List BoardD) (n : Nat) : (boardsS rs l n).length = n := by simp [boardsS]
theorem ranksS_length (l : List RPlan) (n : Nat) : (ranksS l n).length = n := by simp [ranksS]
theorem linksS_length (k : Nat) (l : List LinkD) (n : Nat) : (linksS k l n).length = n := by simp [linksS]
theorem segsS_len (k n sh lo hi at_ m other : Int) : (segsS k n sh lo hi at_ m other).length ≤ 2 ∧ ∀ g ∈ segsS k n sh lo hi at_ m other, g.draws.length ≤ 2 := by
  unfold segsS
  split
  · simp
  split
  · split
    · constructor
      · simp
      · intro g hg
        simp only [List.cons_append, List.nil_append, List.mem_cons, List.not_mem_nil, or_false] at hg
        rcases hg with rfl | rfl
        · simp
        · simp only; split <;> simp
    · constructor
      · simp
      · intro g hg
        simp only [List.nil_append, List.mem_cons, List.not_mem_nil, or_false] at hg
        subst hg
        simp only; split <;> simp
  split
  · simp
  · simp
structure Small (o : OrganD) : Prop where
  nm : o.name.length ≤ 100
  rl : o.ranks.length ≤ 60
  rk : ∀ r ∈ o.ranks, r.name.length ≤ 100 ∧ r.tone.length ≤ 100 ∧ r.wind.length ≤ 100
  dl : o.divs.length ≤ 60
  dv : ∀ d ∈ o.divs, d.name.length ≤ 100 ∧ d.stops.length ≤ 100 ∧ ∀ s ∈ d.stops, s.name.length ≤ 100 ∧ s.segs.length ≤ 100 ∧ ∀ g ∈ s.segs, g.draws.length ≤ 100
  cl : o.coups.length ≤ 60
  cp : ∀ c ∈ o.coups, c.name.length ≤ 100
theorem organ_small (p : PlanD) (hf : fitsB p = true) : Small (organS p) := by
  obtain ⟨r1, r3, d1, d3, c3, s3⟩ := fitsP hf
  unfold organS
  refine ⟨by simp, by simp only [ranksS_length]; omega, fun r hr => ?_, by simp only [boardsS_length]; omega, fun d hd => ?_, by simp only [linksS_length]; omega, fun c hc => ?_⟩
  · obtain ⟨x, hx, i, _, rfl⟩ := mem_ranksS (Nat.le_refl _) hr
    refine ⟨by simp [rankS], ?_, by simp [rankS, windS]; omega⟩
    unfold rankS toneAt
    simp only
    rw [List.getD_eq_getElem?_getD]
    have h : ∀ t ∈ tones, t.length ≤ 100 := by decide
    cases e : tones[(x.tone % 3).toNat]? with
    | none => simp
    | some t => exact h t (List.mem_of_getElem? e)
  · obtain ⟨b, hb, i, _, rfl⟩ := mem_boardsS (Nat.le_refl _) hd
    refine ⟨by simp [boardS], ?_, fun s hs => ?_⟩
    · simp only [boardS, pullsS, List.length_map, List.length_range]
      have := s3 b hb
      omega
    · obtain ⟨x, hx, j, _, rfl⟩ := mem_pullsS (Nat.le_refl _) hs
      obtain ⟨k1, k2⟩ := segsS_len (x.kind % 6) (x.rank % (ranksS p.ranks p.ranks.length).length) (shiftOf (sixAt x.feet) (feetOf (ranksS p.ranks p.ranks.length) (x.rank % (ranksS p.ranks p.ranks.length).length).toNat)) (36 + b.low % 12) (36 + b.low % 12 + b.keys % 9) (36 + b.low % 12 + x.at_ % (36 + b.low % 12 + b.keys % 9 - (36 + b.low % 12) + 1))
        ((x.rank % (ranksS p.ranks p.ranks.length).length + 1) % (ranksS p.ranks p.ranks.length).length) (shiftOf (sixAt x.feet) (feetOf (ranksS p.ranks p.ranks.length) ((x.rank % (ranksS p.ranks p.ranks.length).length + 1) % (ranksS p.ranks p.ranks.length).length).toNat))
      unfold pullS
      exact ⟨by simp, by simp only; omega, fun g hg => by have := k2 g hg; omega⟩
  · obtain ⟨j, hj, rfl⟩ := List.mem_map.1 hc
    simp [linkS]
theorem Small.okO {o : OrganD} (h : Small o) : okO o := by
  obtain ⟨h1, h2, h3, h4, h5, h6, h7⟩ := h
  refine ⟨⟨by omega, fun r hr => ?_⟩, ⟨by omega, fun d hd => ?_⟩, by unfold okCs; omega⟩
  · obtain ⟨a, b, c⟩ := h3 r hr
    unfold okR okI
    omega
  · obtain ⟨a, b, c⟩ := h5 d hd
    refine ⟨by omega, fun s hs => ?_⟩
    obtain ⟨e, f, g⟩ := c s hs
    exact ⟨by omega, fun q hq => by have := g q hq; unfold okG okDs; omega⟩
end Go.Kz

/-
  A whole list is appended to an empty row.
-/
namespace Go.Kz
open Go Go.Proofs
theorem pappend_list {P : Program} {σ : List SObj} {t e : TypeId} {k b s z : Nat} {xs : List PD} (hu : P.underlying t = some (.slice e)) (hi : pelem P e = some (k, b)) (hz : xs = [] ∨ z = k)
    (hm : xs.length ≤ 100000000000000) (hb : xs.length * b ≤ 140737488355328) :
    ∃ tok σ', pappend P 0 σ t (.slice s [] .full) (.slice z xs .any) = some (.slice (if xs.length = 0 then s else k) xs tok, σ') ∧ RowAt σ' tok e k xs.length ∧ (∀ (id : Nat) (o : SObj), σ[id]? = some o → σ'[id]? = some o) := by
  unfold pelem at hi
  split at hi
  · rename_i i h1
    split at hi
    · rename_i z0 h2
      split at hi
      · rename_i h3
        simp only [Option.some.injEq, Prod.mk.injEq] at hi
        obtain ⟨rfl, rfl⟩ := hi
        have hz' : xs.length = 0 ∨ z = i.size := hz.imp (fun h => by rw [h]; rfl) id
        have hmm : xs.length ≤ maxLen := by simp only [maxLen]; omega
        by_cases h0 : xs.length = 0
        · have hx : xs = [] := List.eq_nil_of_length_eq_zero h0
          subst hx
          refine ⟨.full, σ, ?_, .inl ⟨rfl, rfl⟩, fun _ _ h => h⟩
          simp only [pappend, hu, h1, h2, List.length_nil, true_or, h3.1, h3.2, and_self, Nat.add_zero, Nat.zero_le, Nat.zero_mul, if_true, maxLen]
        · refine ⟨.own σ.length, σ ++ [.own e i.size xs.length], ?_, .inr ⟨by omega, _, rfl, List.getElem?_concat_length⟩, fun id o h => ?_⟩
          · have hz1 : z = i.size := hz'.resolve_left h0
            simp only [pappend, hu, h1, h2, List.length_nil, true_or, or_true, hz1, h3.1, h3.2, hmm, hb, and_self, if_true, h0, if_false, List.nil_append, Nat.zero_add]
          · rw [List.getElem?_append_left (List.getElem?_eq_some_iff.1 h).1]
            exact h
      · cases hi
    · cases hi
  · cases hi
theorem prowAppend_list {P : Program} {σ : List SObj} {t e : TypeId} {k b s z n : Nat} {xs : List PD} (ht : trow t n = true) (hu : P.underlying t = some (.slice e)) (hi : pelem P e = some (k, b)) (ho : ∀ i z, P.info? e = some i → i.zero = some z → z.cells.toList.all Value.oneCell' = true)
    (hz : z = k) (h0 : 0 < xs.length) (hm : xs.length ≤ 100000000000000) (hb : xs.length * b ≤ 140737488355328) :
    prowAppend P n 0 σ t (.slice s [] .full) (.slice z xs .any) = some (.rref σ.length 0 0 xs.length k, σ ++ [.row e k 0 (xs.flatMap PD.cells)]) := by
  unfold pelem at hi
  split at hi
  · rename_i i h1
    split at hi
    · rename_i z0 h2
      split at hi
      · rename_i h3
        simp only [Option.some.injEq, Prod.mk.injEq] at hi
        obtain ⟨rfl, rfl⟩ := hi
        have hmm : xs.length ≤ maxLen := by simp only [maxLen]; omega
        have hne : ¬ xs.length = 0 := by omega
        have hone := ho i z0 h1 h2
        have hfr : Tok.full.fresh = true := rfl
        simp only [prowAppend, ht, if_true, hu, pview, h1, h2, hz, or_true, h3.1, h3.2, hone, and_self, List.length_nil, true_or, hmm, hb, hfr, hne, if_false, List.nil_append, Nat.zero_add]
      · cases hi
    · cases hi
  · cases hi
end Go.Kz

/-
  Rows of structures as groups of cells, and what is read out of them.
-/
namespace Go.Kz
open Go Go.Proofs
def Calm (c : PD) : Prop := ∀ σ K, (thaw σ (K + 1) c).strip = c.strip ∧ (thaw σ (K + 1) c).idfree = true
theorem calm_str (s : List UInt8) : Calm (.str s) := fun _ _ => ⟨rfl, rfl⟩
theorem calm_int (k : IntKind) (n : Int) : Calm (.int k n) := fun _ _ => ⟨rfl, rfl⟩
theorem calm_bool (b : Bool) : Calm (.bool b) := fun _ _ => ⟨rfl, rfl⟩
inductive Clean : PD → Prop
  | str (s : List UInt8) : Clean (.str s)
  | int (k : IntKind) (n : Int) : Clean (.int k n)
  | bool (b : Bool) : Clean (.bool b)
  | agg (cs : List PD) (h : ∀ c ∈ cs, Clean c) : Clean (.agg cs)
  | slice (n : Nat) (xs : List PD) (h : ∀ c ∈ xs, Clean c) : Clean (.slice n xs .any)
theorem Clean.thaw {p : PD} (h : Clean p) : ∀ σ K, thaw σ K p = p := by
  induction h with
  | str s => intro σ K; cases K <;> rfl
  | int k n => intro σ K; cases K <;> rfl
  | bool b => intro σ K; cases K <;> rfl
  | agg cs h ih =>
    intro σ K
    cases K with
    | zero => rfl
    | succ K =>
      have : cs.map (Go.Kz.thaw σ K) = cs := by
        conv => rhs; rw [← List.map_id cs]
        exact List.map_congr_left fun c hc => ih c hc σ K
      simp only [Go.Kz.thaw, this]
  | slice n xs h ih =>
    intro σ K
    cases K with
    | zero => rfl
    | succ K =>
      have : xs.map (Go.Kz.thaw σ K) = xs := by
        conv => rhs; rw [← List.map_id xs]
        exact List.map_congr_left fun c hc => ih c hc σ K
      simp only [Go.Kz.thaw, this]
theorem Clean.idfree {p : PD} (h : Clean p) : p.idfree = true := by
  induction h with
  | str s => rfl
  | int k n => rfl
  | bool b => rfl
  | agg cs h ih =>
    simp only [PD.idfree, PD.idfreeL_all]
    exact List.all_eq_true.2 ih
  | slice n xs h ih =>
    simp only [PD.idfree, PD.idfreeL_all, Bool.and_true]
    exact List.all_eq_true.2 ih
theorem calm_slice {n : Nat} {xs : List PD} {tok : Tok} (h : ∀ c ∈ xs, Clean c) : Calm (.slice n xs tok) := by
  intro σ K
  have e : xs.map (thaw σ K) = xs := by
    conv => rhs; rw [← List.map_id xs]
    exact List.map_congr_left fun c hc => (h c hc).thaw σ K
  simp only [thaw, e]
  refine ⟨by rw [PD.strip_slice, PD.strip_slice], (Clean.slice n xs h).idfree⟩
def ClE' {α : Type} (em : Em α) : Prop := ∀ x, Clean (em.emb x)
theorem clean_list {α : Type} {em : Em α} (h : ClE' em) (k : Nat) : ClE' (em.list k) := fun l => by
  rw [emb_list]
  refine .slice _ _ fun c hc => ?_
  obtain ⟨x, _, rfl⟩ := List.mem_map.1 hc
  exact h x
theorem clean_i64 : ClE' i64 := fun n => .int _ n
theorem clean_draw : ClE' Em.draw := fun d => by
  rw [emb_draw]
  refine .agg _ fun c hc => ?_
  simp only [List.mem_cons, List.not_mem_nil, or_false] at hc
  rcases hc with rfl | rfl <;> exact .int _ _
theorem clean_seg : ClE' Em.seg := fun d => by
  rw [emb_seg]
  refine .agg _ fun c hc => ?_
  simp only [List.mem_cons, List.not_mem_nil, or_false] at hc
  rcases hc with rfl | rfl | rfl
  · exact .int _ _
  · exact .int _ _
  · exact clean_list clean_draw 2 _
theorem clean_stop : ClE' Em.stop := fun d => by
  rw [emb_stop]
  refine .agg _ fun c hc => ?_
  simp only [List.mem_cons, List.not_mem_nil, or_false] at hc
  rcases hc with rfl | rfl | rfl | rfl
  · exact .str _
  · exact .int _ _
  · exact .int _ _
  · exact clean_list clean_seg 3 _
theorem clean_coup : ClE' Em.coup := fun d => by
  rw [emb_coup]
  refine .agg _ fun c hc => ?_
  simp only [List.mem_cons, List.not_mem_nil, or_false] at hc
  rcases hc with rfl | rfl | rfl | rfl | rfl
  · exact .str _
  · exact .int _ _
  · exact .int _ _
  · exact .int _ _
  · exact .bool _
theorem calm_em {α : Type} {em : Em α} (h : ClE' em) (k z : Nat) (l : List α) (tok : Tok) : Calm (.slice z (l.map em.emb) tok) := calm_slice fun c hc => by
  obtain ⟨x, _, rfl⟩ := List.mem_map.1 hc
  exact h x
def IsG {α : Type} (em : Em α) (σ : List SObj) (L : Nat) (g : List PD) (x : α) : Prop := ∀ K, (PD.agg (g.map (thaw σ (K + L)))).strip = em.emb x ∧ PD.idfreeL (g.map (thaw σ (K + L))) = true
theorem isG_calm {α : Type} {em : Em α} {g : List PD} {x : α} (hc : ∀ c ∈ g, Calm c) (hg : (PD.agg g).strip = em.emb x) (σ : List SObj) (L : Nat) : IsG em σ (L + 1) g x := fun K => by
  constructor
  · rw [← hg]
    simp only [PD.strip, PD.stripL_map]
    congr 1
    rw [List.map_map]
    exact List.map_congr_left fun c h => (hc c h σ (K + L)).1
  · rw [PD.idfreeL_all]
    refine List.all_eq_true.2 fun c h => ?_
    obtain ⟨c0, h0, rfl⟩ := List.mem_map.1 h
    exact (hc c0 h0 σ (K + L)).2
theorem pchunks_groups {sz : Nat} (f : PD → PD) : ∀ (n : Nat) (gs : List (List PD)), (∀ g ∈ gs, g.length = sz) → n ≤ gs.length → pchunks sz n (gs.flatten.map f) = (gs.take n).map fun g => .agg (g.map f)
  | 0, _, _, _ => rfl
  | n + 1, [], _, h => by simp at h
  | n + 1, g :: gs, hl, h => by
    have hg := hl g (List.mem_cons_self ..)
    have hg' : (g.map f).length = sz := by rw [List.length_map]; exact hg
    rw [List.flatten_cons, List.map_append, List.take_succ_cons, List.map_cons]
    unfold pchunks
    rw [List.take_append_of_le_length (by omega), List.take_of_length_le (by omega), List.drop_append_of_le_length (by omega), List.drop_of_length_le (by omega), List.nil_append]
    rw [pchunks_groups f n gs (fun q hq => hl q (List.mem_cons_of_mem _ hq)) (by simpa using h)]
theorem flatG_len {sz : Nat} : ∀ gs : List (List PD), (∀ g ∈ gs, g.length = sz) → gs.flatten.length = gs.length * sz
  | [], _ => by simp
  | g :: gs, h => by
    rw [List.flatten_cons, List.length_append, h g (List.mem_cons_self ..), flatG_len gs fun q hq => h q (List.mem_cons_of_mem _ hq), List.length_cons, Nat.succ_mul, Nat.add_comm]
theorem flatG_at {sz : Nat} : ∀ (gs : List (List PD)) (i : Nat) (h : i < gs.length), (∀ g ∈ gs, g.length = sz) → (gs.flatten.drop (i * sz)).take sz = gs[i]
  | [], i, h, _ => by simp at h
  | g :: gs, 0, _, hl => by
    have hg := hl g (List.mem_cons_self ..)
    rw [Nat.zero_mul, List.drop_zero, List.flatten_cons, List.take_append_of_le_length (by omega), List.take_of_length_le (by omega)]
    rfl
  | g :: gs, i + 1, h, hl => by
    have hg := hl g (List.mem_cons_self ..)
    have e1 : (i + 1) * sz = g.length + i * sz := by rw [Nat.succ_mul]; omega
    rw [List.flatten_cons, e1, List.drop_length_add_append]
    rw [flatG_at gs i (by simpa using h) fun q hq => hl q (List.mem_cons_of_mem _ hq)]
    rfl
theorem flatG_set {sz : Nat} {new : List PD} {j : Nat} (hj : j + new.length ≤ sz) : ∀ (gs : List (List PD)) (i : Nat) (h : i < gs.length), (∀ g ∈ gs, g.length = sz) → pfillAt gs.flatten (i * sz + j) new = (gs.set i (pfillAt gs[i] j new)).flatten
  | [], i, h, _ => by simp at h
  | g :: gs, 0, _, hl => by
    have hg := hl g (List.mem_cons_self ..)
    simp only [pfillAt, Nat.zero_mul, Nat.zero_add, List.flatten_cons, List.set_cons_zero, List.getElem_cons_zero]
    rw [List.take_append_of_le_length (by omega), List.drop_append_of_le_length (by omega)]
    simp only [List.append_assoc]
  | g :: gs, i + 1, h, hl => by
    have hg := hl g (List.mem_cons_self ..)
    have ih := flatG_set hj gs i (by simpa using h) fun q hq => hl q (List.mem_cons_of_mem _ hq)
    simp only [List.flatten_cons, List.set_cons_succ, List.getElem_cons_succ]
    rw [← ih]
    simp only [pfillAt]
    have e1 : (i + 1) * sz + j = g.length + (i * sz + j) := by rw [Nat.succ_mul]; omega
    have e2 : (i + 1) * sz + j + new.length = g.length + (i * sz + j + new.length) := by rw [Nat.succ_mul]; omega
    rw [e2, e1, List.take_length_add_append, List.drop_length_add_append]
    simp only [List.append_assoc]
theorem flatG_app (gs : List (List PD)) (g : List PD) : gs.flatten ++ g = (gs ++ [g]).flatten := by simp
theorem thaw_rows {α : Type} {em : Em α} {σ : List SObj} {id e sz v n L : Nat} {gs : List (List PD)} (hσ : σ[id]? = some (.row e sz v gs.flatten)) (h1 : sz ≠ 1) (hl : ∀ g ∈ gs, g.length = sz) (hn : n ≤ gs.length) (xs : List α) (hx : xs.length = n)
    (h : ∀ i (hi : i < n), IsG em σ L (gs[i]'(Nat.lt_of_lt_of_le hi hn)) (xs[i]'(hx ▸ hi))) (K : Nat) : (thaw σ (K + L + 1) (.rref id v 0 n sz)).strip = (em.list sz).emb xs ∧ (thaw σ (K + L + 1) (.rref id v 0 n sz)).idfree = true := by
  have hlen : 0 + n * sz ≤ gs.flatten.length := by
    rw [flatG_len gs hl, Nat.zero_add]
    exact Nat.mul_le_mul_right sz hn
  have e : thaw σ (K + L + 1) (.rref id v 0 n sz) = .slice sz ((gs.take n).map fun g => .agg (g.map (thaw σ (K + L)))) .any := by
    simp only [thaw, hσ, hlen, and_self, if_true, List.drop_zero, pch, h1, if_false]
    rw [pchunks_groups _ n gs hl hn]
  rw [e]
  constructor
  · rw [PD.strip_slice, emb_list]
    have hm : ((gs.take n).map fun g => PD.agg (g.map (thaw σ (K + L)))).map PD.strip = xs.map em.emb := by
      apply List.ext_getElem
      · simp only [List.length_map, List.length_take]; omega
      · intro i h2 h3
        simp only [List.length_map, List.length_take] at h2
        simp only [List.getElem_map, List.getElem_take]
        exact (h i (by omega) K).1
    rw [hm]
    congr 1
    simp only [List.length_map, List.length_take, Kz.sz]
    have : min n gs.length = n := by omega
    rw [this]
    by_cases h0 : xs = []
    · subst h0
      simp only [List.length_nil] at hx
      simp [← hx]
    · have : ¬ n = 0 := fun h => h0 (List.eq_nil_of_length_eq_zero (by omega))
      have h2 : ¬ xs.length = 0 := by omega
      rw [if_neg this, if_neg h2]
  · simp only [PD.idfree, PD.idfreeL_all, Bool.and_true]
    refine List.all_eq_true.2 fun c hc => ?_
    obtain ⟨g, hg, rfl⟩ := List.mem_map.1 hc
    obtain ⟨i, hi, rfl⟩ := List.getElem_of_mem hg
    simp only [List.length_take] at hi
    rw [List.getElem_take]
    simp only [PD.idfree]
    exact (h i (by omega) K).2
theorem pick_list {α β : Type} {P : α → β → Prop} : ∀ gs : List α, (∀ g ∈ gs, ∃ x, P g x) → ∃ xs : List β, xs.length = gs.length ∧ ∀ i (h : i < gs.length) (h2 : i < xs.length), P gs[i] xs[i]
  | [], _ => ⟨[], rfl, fun i h => absurd h (Nat.not_lt_zero i)⟩
  | g :: gs, h => by
    obtain ⟨x, hx⟩ := h g (List.mem_cons_self ..)
    obtain ⟨xs, h1, h2⟩ := pick_list gs fun q hq => h q (List.mem_cons_of_mem _ hq)
    refine ⟨x :: xs, by rw [List.length_cons, List.length_cons, h1], fun i hi hi2 => ?_⟩
    cases i with
    | zero => exact hx
    | succ i => exact h2 i (by simpa using hi) (by simpa using hi2)
def Grp {α : Type} (em : Em α) (R : α → Prop) (sz : Nat) (g : List PD) : Prop := g.length = sz ∧ (∀ c ∈ g, Calm c ∧ c.plain = true) ∧ ∃ x, R x ∧ (PD.agg g).strip = em.emb x
def RowI {α : Type} (em : Em α) (R : α → Prop) (e sz : Nat) (σ : List SObj) (id n : Nat) (P : PD) : Prop := ∃ v gs, P = .rref id v 0 n sz ∧ σ[id]? = some (.row e sz v (List.flatten gs)) ∧ n ≤ gs.length ∧ gs.length ≤ 1000 ∧ ∀ g ∈ gs, Grp em R sz g
theorem RowI.keep {α : Type} {em : Em α} {R : α → Prop} {e sz id n : Nat} {σ σ' : List SObj} {P : PD} (h : RowI em R e sz σ id n P) (hk : σ'[id]? = σ[id]?) : RowI em R e sz σ' id n P := by
  obtain ⟨v, gs, h1, h2, h3⟩ := h
  exact ⟨v, gs, h1, hk.trans h2, h3⟩
theorem RowI.thaw {α : Type} {em : Em α} {R : α → Prop} {e sz id n : Nat} {σ : List SObj} {P : PD} (h : RowI em R e sz σ id n P) (h1 : sz ≠ 1) : ∃ xs : List α, xs.length = n ∧ (∀ x ∈ xs, R x) ∧ n ≤ 1000 ∧ ∀ K, (Go.Kz.thaw σ (K + 2) P).strip = (em.list sz).emb xs ∧ (Go.Kz.thaw σ (K + 2) P).idfree = true := by
  obtain ⟨v, gs, rfl, hσ, hn, hl, hg⟩ := h
  obtain ⟨xs, hx1, hx2⟩ := pick_list gs fun g h => (hg g h).2.2
  refine ⟨xs.take n, by rw [List.length_take]; omega, fun x hx => ?_, by omega, fun K => ?_⟩
  · obtain ⟨i, hi, rfl⟩ := List.getElem_of_mem (List.mem_of_mem_take hx)
    exact (hx2 i (by omega) hi).1
  · refine thaw_rows (L := 1) hσ h1 (fun g h => (hg g h).1) hn (xs.take n) (by rw [List.length_take]; omega) (fun i hi => ?_) K
    rw [List.getElem_take]
    exact isG_calm (fun c hc => ((hg _ (List.getElem_mem (by omega))).2.1 c hc).1) (hx2 i (by omega) (by omega)).2 σ 0
structure FinI (σ : List SObj) (B K : Nat) (nm : List UInt8) (RP DP SP : PD) (C : List CoupD) (tC : Tok) (d0 : List UInt8) (d1 : Bool) (d2 d3 : Int) : Prop where
  o : σ[0]? = some (.box (.agg [.str nm, RP, DP, .slice 5 (C.map Em.coup.emb) tC]))
  z : σ[2]? = some (.box (.agg [.str [], .slice 0 [] .full, .slice 0 [] .full, .slice 0 [] .full]))
  d : σ[B]? = some (.box (.agg [.str d0, .bool d1, .int .i64 d2, .int .i64 d3, SP]))
  b : 4 < B
  c : C.length ≤ 1000
  r : ∃ n, RowI Em.rank okR 48 6 σ 3 n RP
  dv : DP = .slice 0 [] .full ∨ ∃ n, RowI Em.div okD 53 5 σ 4 n DP ∧ K < n
  s : SP = .slice 4 [] .full ∨ ∃ n, RowI Em.stop okS 56 4 σ (B + 1) n SP
theorem thaw_nil {α : Type} {em : Em α} (sz z : Nat) (σ : List SObj) (K : Nat) (tok : Tok) : (thaw σ (K + 2) (.slice z [] tok)).strip = (em.list sz).emb [] ∧ (thaw σ (K + 2) (.slice z [] tok)).idfree = true := ⟨rfl, rfl⟩
theorem thaw_couples (C : List CoupD) (z : Nat) (hz : z = 5) (σ : List SObj) (K : Nat) (tok : Tok) : (thaw σ (K + 2) (.slice z (C.map Em.coup.emb) tok)).strip = coupsE.emb C ∧ (thaw σ (K + 2) (.slice z (C.map Em.coup.emb) tok)).idfree = true := by
  have h := calm_em clean_coup 5 z C tok σ (K + 1)
  refine ⟨?_, h.2⟩
  rw [h.1, PD.strip_slice, emb_list, show (C.map Em.coup.emb).map PD.strip = C.map Em.coup.emb by rw [List.map_map]; exact List.map_congr_left fun x _ => Em.coup.str x, hz]
  simp [sz]
theorem organ_read {σ : List SObj} {nm : List UInt8} {RP DP : PD} {C : List CoupD} {tC : Tok} (hC : C.length ≤ 1000) (hR : ∃ n, RowI Em.rank okR 48 6 σ 3 n RP)
    (hD : ∃ ds : List DivD, ds.length ≤ 1000 ∧ (∀ d ∈ ds, okD d) ∧ ∀ K, (thaw σ (K + 6) DP).strip = divsE.emb ds ∧ (thaw σ (K + 6) DP).idfree = true) :
    ∃ o, okO o ∧ (thaw σ 20 (.agg [.str nm, RP, DP, .slice 5 (C.map Em.coup.emb) tC])).strip = Em.organ.emb o ∧ (thaw σ 20 (.agg [.str nm, RP, DP, .slice 5 (C.map Em.coup.emb) tC])).idfree = true := by
  obtain ⟨n, hR⟩ := hR
  obtain ⟨rs, hr1, hr2, hr3, hr4⟩ := hR.thaw (by decide)
  obtain ⟨ds, hd1, hd2, hd3⟩ := hD
  obtain ⟨a1, a2⟩ := hr4 17
  obtain ⟨b1, b2⟩ := hd3 13
  obtain ⟨c1, c2⟩ := thaw_couples C 5 rfl σ 17 tC
  refine ⟨⟨nm, rs, ds, C⟩, ⟨⟨by show rs.length ≤ 1000000; omega, hr2⟩, ⟨by show ds.length ≤ 1000000; omega, hd2⟩, by show C.length ≤ 1000000; omega⟩, ?_, ?_⟩
  · show PD.agg [PD.strip (.str nm), PD.strip (thaw σ 19 RP), PD.strip (thaw σ 19 DP), PD.strip (thaw σ 19 (.slice 5 (C.map Em.coup.emb) tC))] = _
    rw [a1, b1, c1]
    rfl
  · show (PD.idfree (.str nm) && (PD.idfree (thaw σ 19 RP) && (PD.idfree (thaw σ 19 DP) && (PD.idfree (thaw σ 19 (.slice 5 (C.map Em.coup.emb) tC)) && true)))) = true
    rw [a2, b2, c2]
    rfl
theorem strip_em {α : Type} (em : Em α) (l : List α) : (l.map em.emb).map PD.strip = l.map em.emb := by
  rw [List.map_map]
  exact List.map_congr_left fun x _ => em.str x
theorem strip_sl {α : Type} (em : Em α) (k z : Nat) (l : List α) (hz : l = [] ∨ z = k) (tok : Tok) : PD.strip (.slice z (l.map em.emb) tok) = (em.list k).emb l := by
  rw [PD.strip_slice, strip_em, emb_list, List.length_map]
  rcases hz with rfl | rfl
  · rfl
  · rfl
theorem grp_rank (n t : List UInt8) (a b c : Int) (z : Nat) (w : List Int) (tok : Tok) (hz : w = [] ∨ z = 1) (hw : w.length ≤ 1000000) : Grp Em.rank okR 6 [.str n, .str t, .int .i64 a, .int .i64 b, .int .i64 c, .slice z (w.map i64.emb) tok] := by
  refine ⟨rfl, fun x hx => ?_, ⟨n, t, a, b, c, w⟩, hw, ?_⟩
  · simp only [List.mem_cons, List.not_mem_nil, or_false] at hx
    rcases hx with rfl | rfl | rfl | rfl | rfl | rfl
    · exact ⟨calm_str _, rfl⟩
    · exact ⟨calm_str _, rfl⟩
    · exact ⟨calm_int _ _, rfl⟩
    · exact ⟨calm_int _ _, rfl⟩
    · exact ⟨calm_int _ _, rfl⟩
    · exact ⟨calm_em clean_i64 1 z w tok, rfl⟩
  · have e := strip_sl i64 1 z w hz tok
    show PD.agg [.str n, .str t, .int .i64 a, .int .i64 b, .int .i64 c, PD.strip (.slice z (w.map i64.emb) tok)] = _
    rw [e]
    rfl
theorem grp_div (n : List UInt8) (t : Bool) (a b : Int) (z : Nat) (w : List StopD) (tok : Tok) (hz : w = [] ∨ z = 4) (hw : okSs w) : Grp Em.div okD 5 [.str n, .bool t, .int .i64 a, .int .i64 b, .slice z (w.map Em.stop.emb) tok] := by
  refine ⟨rfl, fun x hx => ?_, ⟨n, t, a, b, w⟩, hw, ?_⟩
  · simp only [List.mem_cons, List.not_mem_nil, or_false] at hx
    rcases hx with rfl | rfl | rfl | rfl | rfl
    · exact ⟨calm_str _, rfl⟩
    · exact ⟨calm_bool _, rfl⟩
    · exact ⟨calm_int _ _, rfl⟩
    · exact ⟨calm_int _ _, rfl⟩
    · exact ⟨calm_em clean_stop 4 z w tok, rfl⟩
  · have e := strip_sl Em.stop 4 z w hz tok
    show PD.agg [.str n, .bool t, .int .i64 a, .int .i64 b, PD.strip (.slice z (w.map Em.stop.emb) tok)] = _
    rw [e]
    rfl
theorem grp_stop (n : List UInt8) (a b : Int) (z : Nat) (w : List SegD) (tok : Tok) (hz : w = [] ∨ z = 3) (hw : okGs w) : Grp Em.stop okS 4 [.str n, .int .i64 a, .int .i64 b, .slice z (w.map Em.seg.emb) tok] := by
  refine ⟨rfl, fun x hx => ?_, ⟨n, a, b, w⟩, hw, ?_⟩
  · simp only [List.mem_cons, List.not_mem_nil, or_false] at hx
    rcases hx with rfl | rfl | rfl | rfl
    · exact ⟨calm_str _, rfl⟩
    · exact ⟨calm_int _ _, rfl⟩
    · exact ⟨calm_int _ _, rfl⟩
    · exact ⟨calm_em clean_seg 3 z w tok, rfl⟩
  · have e := strip_sl Em.seg 3 z w hz tok
    show PD.agg [.str n, .int .i64 a, .int .i64 b, PD.strip (.slice z (w.map Em.seg.emb) tok)] = _
    rw [e]
    rfl
theorem divs_read {σ : List SObj} {B K n v : Nat} {gs : List (List PD)} {SP : PD} {d0 : List UInt8} {d1 : Bool} {d2 d3 : Int} (hσ : σ[4]? = some (.row 53 5 v (gs.set K [.str d0, .bool d1, .int .i64 d2, .int .i64 d3, SP]).flatten)) (hn : n ≤ gs.length) (hK : K < n) (hl : gs.length ≤ 1000)
    (hg : ∀ g ∈ gs, Grp Em.div okD 5 g) (hs : SP = .slice 4 [] .full ∨ ∃ n, RowI Em.stop okS 56 4 σ (B + 1) n SP) :
    ∃ ds : List DivD, ds.length ≤ 1000 ∧ (∀ d ∈ ds, okD d) ∧ ∀ J, (thaw σ (J + 6) (.rref 4 v 0 n 5)).strip = divsE.emb ds ∧ (thaw σ (J + 6) (.rref 4 v 0 n 5)).idfree = true := by
  obtain ⟨S, hS1, hS2⟩ : ∃ S : List StopD, okSs S ∧ ∀ J, (thaw σ (J + 2) SP).strip = stopsE.emb S ∧ (thaw σ (J + 2) SP).idfree = true := by
    rcases hs with rfl | ⟨n, h⟩
    · exact ⟨[], ⟨by simp, by simp⟩, fun J => thaw_nil 4 4 σ J .full⟩
    · obtain ⟨xs, h1, h2, h3, h4⟩ := h.thaw (by decide)
      exact ⟨xs, ⟨by omega, h2⟩, h4⟩
  obtain ⟨xs, hx1, hx2⟩ := pick_list gs fun g h => (hg g h).2.2
  have hlen : ∀ g ∈ gs.set K [.str d0, .bool d1, .int .i64 d2, .int .i64 d3, SP], g.length = 5 := fun g h => by
    rcases List.mem_or_eq_of_mem_set h with h | h
    · exact (hg g h).1
    · rw [h]; rfl
  have hok : ∀ d ∈ (xs.set K ⟨d0, d1, d2, d3, S⟩).take n, okD d := fun d hd => by
    rcases List.mem_or_eq_of_mem_set (List.mem_of_mem_take hd) with h | h
    · obtain ⟨i, hi, rfl⟩ := List.getElem_of_mem h
      exact (hx2 i (by omega) hi).1
    · rw [h]; exact hS1
  refine ⟨(xs.set K ⟨d0, d1, d2, d3, S⟩).take n, by rw [List.length_take]; omega, hok, fun J => ?_⟩
  refine thaw_rows (L := 5) hσ (by decide) hlen (by rw [List.length_set]; exact hn) _ (by rw [List.length_take, List.length_set]; omega) (fun i hi => ?_) J
  rw [List.getElem_take]
  by_cases e : K = i
  · subst e
    rw [List.getElem_set_self, List.getElem_set_self]
    intro J
    obtain ⟨a1, a2⟩ := hS2 (J + 3)
    constructor
    · show PD.agg [.str d0, .bool d1, .int .i64 d2, .int .i64 d3, PD.strip (thaw σ (J + 5) SP)] = _
      rw [a1]
      rfl
    · show (true && (true && (true && (true && (PD.idfree (thaw σ (J + 5) SP) && true))))) = true
      rw [a2]
      rfl
  · rw [List.getElem_set_ne e, List.getElem_set_ne e]
    exact isG_calm (fun c hc => ((hg _ (List.getElem_mem (by omega))).2.1 c hc).1) (hx2 i (by omega) (by omega)).2 σ 4
theorem FinI.put0 {σ : List SObj} {B K : Nat} {nm : List UInt8} {RP DP SP : PD} {C : List CoupD} {tC : Tok} {d0 : List UInt8} {d1 : Bool} {d2 d3 : Int} (h : FinI σ B K nm RP DP SP C tC d0 d1 d2 d3) {nm' : List UInt8} {RP' DP' : PD} {C' : List CoupD} {tC' : Tok}
    (hl : 0 < σ.length) (hC : C'.length ≤ 1000) (hr : ∃ n, RowI Em.rank okR 48 6 σ 3 n RP') (hd : DP' = .slice 0 [] .full ∨ ∃ n, RowI Em.div okD 53 5 σ 4 n DP' ∧ K < n) :
    FinI (σ.set 0 (.box (.agg [.str nm', RP', DP', .slice 5 (C'.map Em.coup.emb) tC']))) B K nm' RP' DP' SP C' tC' d0 d1 d2 d3 := by
  obtain ⟨h1, h2, h3, h4, h5, h6, h7, h8⟩ := h
  have e : ∀ i, i ≠ 0 → (σ.set 0 (.box (.agg [.str nm', RP', DP', .slice 5 (C'.map Em.coup.emb) tC'])))[i]? = σ[i]? := fun i hi => List.getElem?_set_ne (Ne.symm hi)
  exact ⟨List.getElem?_set_self hl, (e 2 (by decide)).trans h2, (e B (by omega)).trans h3, h4, hC, hr.imp fun n h => h.keep (e 3 (by decide)), hd.imp id fun ⟨n, h, k⟩ => ⟨n, h.keep (e 4 (by decide)), k⟩, h8.imp id fun ⟨n, h⟩ => ⟨n, h.keep (e (B + 1) (by omega))⟩⟩
theorem FinI.putB {σ : List SObj} {B K : Nat} {nm : List UInt8} {RP DP SP : PD} {C : List CoupD} {tC : Tok} {d0 : List UInt8} {d1 : Bool} {d2 d3 : Int} (h : FinI σ B K nm RP DP SP C tC d0 d1 d2 d3) {d0' : List UInt8} {d1' : Bool} {d2' d3' : Int} {SP' : PD}
    (hl : B < σ.length) (hs : SP' = .slice 4 [] .full ∨ ∃ n, RowI Em.stop okS 56 4 σ (B + 1) n SP') :
    FinI (σ.set B (.box (.agg [.str d0', .bool d1', .int .i64 d2', .int .i64 d3', SP']))) B K nm RP DP SP' C tC d0' d1' d2' d3' := by
  obtain ⟨h1, h2, h3, h4, h5, h6, h7, h8⟩ := h
  have e : ∀ i, i ≠ B → (σ.set B (.box (.agg [.str d0', .bool d1', .int .i64 d2', .int .i64 d3', SP'])))[i]? = σ[i]? := fun i hi => List.getElem?_set_ne (Ne.symm hi)
  exact ⟨(e 0 (by omega)).trans h1, (e 2 (by omega)).trans h2, List.getElem?_set_self hl, h4, h5, h6.imp fun n h => h.keep (e 3 (by omega)), h7.imp id fun ⟨n, h, k⟩ => ⟨n, h.keep (e 4 (by omega)), k⟩, hs.imp id fun ⟨n, h⟩ => ⟨n, h.keep (e (B + 1) (by omega))⟩⟩
theorem FinI.put3 {σ : List SObj} {B K v n : Nat} {nm : List UInt8} {DP SP : PD} {C : List CoupD} {tC : Tok} {d0 : List UInt8} {d1 : Bool} {d2 d3 : Int} (h : FinI σ B K nm (.rref 3 v 0 n 6) DP SP C tC d0 d1 d2 d3) (gs : List (List PD)) (hl : 3 < σ.length) (hn : n ≤ gs.length) (hg : gs.length ≤ 1000) (hgs : ∀ g ∈ gs, Grp Em.rank okR 6 g) :
    FinI (σ.set 3 (.row 48 6 v gs.flatten)) B K nm (.rref 3 v 0 n 6) DP SP C tC d0 d1 d2 d3 := by
  obtain ⟨h1, h2, h3, h4, h5, h6, h7, h8⟩ := h
  have e : ∀ i, i ≠ 3 → (σ.set 3 (.row 48 6 v gs.flatten))[i]? = σ[i]? := fun i hi => List.getElem?_set_ne (Ne.symm hi)
  exact ⟨(e 0 (by omega)).trans h1, (e 2 (by omega)).trans h2, (e B (by omega)).trans h3, h4, h5, ⟨n, v, gs, rfl, List.getElem?_set_self hl, hn, hg, hgs⟩, h7.imp id fun ⟨n, h, k⟩ => ⟨n, h.keep (e 4 (by omega)), k⟩, h8.imp id fun ⟨n, h⟩ => ⟨n, h.keep (e (B + 1) (by omega))⟩⟩
theorem FinI.putS {σ : List SObj} {B K v n : Nat} {nm : List UInt8} {RP DP : PD} {C : List CoupD} {tC : Tok} {d0 : List UInt8} {d1 : Bool} {d2 d3 : Int} (h : FinI σ B K nm RP DP (.rref (B + 1) v 0 n 4) C tC d0 d1 d2 d3) (gs : List (List PD)) (hl : B + 1 < σ.length) (hn : n ≤ gs.length) (hg : gs.length ≤ 1000) (hgs : ∀ g ∈ gs, Grp Em.stop okS 4 g) :
    FinI (σ.set (B + 1) (.row 56 4 v gs.flatten)) B K nm RP DP (.rref (B + 1) v 0 n 4) C tC d0 d1 d2 d3 := by
  obtain ⟨h1, h2, h3, h4, h5, h6, h7, h8⟩ := h
  have e : ∀ i, i ≠ B + 1 → (σ.set (B + 1) (.row 56 4 v gs.flatten))[i]? = σ[i]? := fun i hi => List.getElem?_set_ne (Ne.symm hi)
  exact ⟨(e 0 (by omega)).trans h1, (e 2 (by omega)).trans h2, (e B (by omega)).trans h3, h4, h5, h6.imp fun n h => h.keep (e 3 (by omega)), h7.imp id fun ⟨n, h, k⟩ => ⟨n, h.keep (e 4 (by omega)), k⟩, .inr ⟨n, v, gs, rfl, List.getElem?_set_self hl, hn, hg, hgs⟩⟩
theorem FinI.more {σ J : List SObj} {B K : Nat} {nm : List UInt8} {RP DP SP : PD} {C : List CoupD} {tC : Tok} {d0 : List UInt8} {d1 : Bool} {d2 d3 : Int} (h : FinI σ B K nm RP DP SP C tC d0 d1 d2 d3) : FinI (σ ++ J) B K nm RP DP SP C tC d0 d1 d2 d3 := by
  obtain ⟨h1, h2, h3, h4, h5, h6, h7, h8⟩ := h
  have k : ∀ {α : Type} {em : Em α} {R : α → Prop} {e sz id n : Nat} {P : PD}, RowI em R e sz σ id n P → RowI em R e sz (σ ++ J) id n P := fun ⟨v, gs, a, b, c⟩ => ⟨v, gs, a, app_keep b, c⟩
  exact ⟨app_keep h1, app_keep h2, app_keep h3, h4, h5, h6.imp fun n h => k h, h7.imp id fun ⟨n, h, q⟩ => ⟨n, k h, q⟩, h8.imp id fun ⟨n, h⟩ => ⟨n, k h⟩⟩
theorem prowAppend_grow {P : Program} {σ : List SObj} {t e : TypeId} {k b n id v m : Nat} {cs : List PD} {x : PD} {tok : Tok} (ht : trow t n = true) (hu : P.underlying t = some (.slice e)) (hi : pelem P e = some (k, b)) (ho : ∀ i z, P.info? e = some i → i.zero = some z → z.cells.toList.all Value.oneCell' = true)
    (hσ : σ[id]? = some (.row e k v cs)) (hl : m * k = cs.length) (hx : x.cells.length = k) (hm : m ≤ 1000000) (hb : b ≤ 1000) :
    prowAppend P n 0 σ t (.rref id v 0 m k) (.slice k [x] tok) = some (.rref id (v + 1) 0 (m + 1) k, σ.set id (.row e k (v + 1) (cs ++ x.cells))) := by
  unfold pelem at hi
  split at hi
  · rename_i i h1
    split at hi
    · rename_i z0 h2
      split at hi
      · rename_i h3
        simp only [Option.some.injEq, Prod.mk.injEq] at hi
        obtain ⟨rfl, rfl⟩ := hi
        have hone := ho i z0 h1 h2
        have hmm : m + 1 ≤ maxLen := by simp only [maxLen]; omega
        have hbb : (m + 1) * i.bytes ≤ 140737488355328 := by
          have := Nat.mul_le_mul (show m + 1 ≤ 1000001 by omega) hb
          omega
        have hlt : ¬ 0 + (m + 1) * i.size ≤ cs.length := by
          rw [← hl, Nat.succ_mul]
          have := h3.1
          omega
        simp only [prowAppend, ht, if_true, hu, pview, h1, h2, h3.1, h3.2, hone, and_self, or_true, List.length_cons, List.length_nil, Nat.zero_add, Nat.zero_le, hmm, hbb, hσ]
        rw [if_neg (by simpa using hlt), if_pos ⟨trivial, hl⟩]
        simp
      · cases hi
    · cases hi
  · cases hi
theorem RowAt.ne2 {σ : List SObj} {tok : Tok} {e : TypeId} {k n id : Nat} {o : SObj} (h : RowAt σ tok e k n) (ho : σ[id]? = some o) (hn : ∀ e k n, o ≠ .own e k n) : tok ≠ .own id := by
  rintro rfl
  rcases h with ⟨_, h⟩ | ⟨_, id', h, h2⟩
  · cases h
  · simp only [Tok.own.injEq] at h
    subst h
    rw [ho, Option.some.injEq] at h2
    exact hn _ _ _ h2
theorem FinI.keepAll {σ σ' : List SObj} {B K : Nat} {nm : List UInt8} {RP DP SP : PD} {C : List CoupD} {tC : Tok} {d0 : List UInt8} {d1 : Bool} {d2 d3 : Int} (h : FinI σ B K nm RP DP SP C tC d0 d1 d2 d3) (hk : ∀ (id : Nat) (o : SObj), σ[id]? = some o → (∀ e k n, o ≠ .own e k n) → σ'[id]? = some o) : FinI σ' B K nm RP DP SP C tC d0 d1 d2 d3 := by
  obtain ⟨h1, h2, h3, h4, h5, h6, h7, h8⟩ := h
  have k : ∀ {α : Type} {em : Em α} {R : α → Prop} {e sz id n : Nat} {P : PD}, RowI em R e sz σ id n P → RowI em R e sz σ' id n P := fun ⟨v, gs, a, b, c⟩ => ⟨v, gs, a, hk _ _ b (fun _ _ _ h => by cases h), c⟩
  exact ⟨hk _ _ h1 (fun _ _ _ h => by cases h), hk _ _ h2 (fun _ _ _ h => by cases h), hk _ _ h3 (fun _ _ _ h => by cases h), h4, h5, h6.imp fun n h => k h, h7.imp id fun ⟨n, h, q⟩ => ⟨n, k h, q⟩, h8.imp id fun ⟨n, h⟩ => ⟨n, k h⟩⟩
theorem FinI.grow3 {σ : List SObj} {B K v n : Nat} {nm : List UInt8} {RP DP SP : PD} {C : List CoupD} {tC : Tok} {d0 : List UInt8} {d1 : Bool} {d2 d3 : Int} (h : FinI σ B K nm RP DP SP C tC d0 d1 d2 d3) (gs : List (List PD)) (hl0 : 0 < σ.length) (hl : 3 < σ.length) (hn : n ≤ gs.length) (hg : gs.length ≤ 1000) (hgs : ∀ g ∈ gs, Grp Em.rank okR 6 g) :
    FinI ((σ.set 3 (.row 48 6 v gs.flatten)).set 0 (.box (.agg [.str nm, .rref 3 v 0 n 6, DP, .slice 5 (C.map Em.coup.emb) tC]))) B K nm (.rref 3 v 0 n 6) DP SP C tC d0 d1 d2 d3 := by
  obtain ⟨h1, h2, h3, h4, h5, h6, h7, h8⟩ := h
  have e : ∀ i, i ≠ 3 → i ≠ 0 → ((σ.set 3 (.row 48 6 v gs.flatten)).set 0 (.box (.agg [.str nm, .rref 3 v 0 n 6, DP, .slice 5 (C.map Em.coup.emb) tC])))[i]? = σ[i]? := fun i hi h0 => by rw [List.getElem?_set_ne (Ne.symm h0), List.getElem?_set_ne (Ne.symm hi)]
  refine ⟨List.getElem?_set_self (by rw [List.length_set]; exact hl0), (e 2 (by omega) (by omega)).trans h2, (e B (by omega) (by omega)).trans h3, h4, h5, ⟨n, v, gs, rfl, ?_, hn, hg, hgs⟩, h7.imp id fun ⟨n, h, k⟩ => ⟨n, h.keep (e 4 (by omega) (by omega)), k⟩, h8.imp id fun ⟨n, h⟩ => ⟨n, h.keep (e (B + 1) (by omega) (by omega))⟩⟩
  rw [List.getElem?_set_ne (by decide)]
  exact List.getElem?_set_self hl
theorem FinI.grow4 {σ : List SObj} {B K v n : Nat} {nm : List UInt8} {RP DP SP : PD} {C : List CoupD} {tC : Tok} {d0 : List UInt8} {d1 : Bool} {d2 d3 : Int} (h : FinI σ B K nm RP DP SP C tC d0 d1 d2 d3) (gs : List (List PD)) (hl0 : 0 < σ.length) (hl : 4 < σ.length) (hn : n ≤ gs.length) (hK : K < n) (hg : gs.length ≤ 1000) (hgs : ∀ g ∈ gs, Grp Em.div okD 5 g) :
    FinI ((σ.set 4 (.row 53 5 v gs.flatten)).set 0 (.box (.agg [.str nm, RP, .rref 4 v 0 n 5, .slice 5 (C.map Em.coup.emb) tC]))) B K nm RP (.rref 4 v 0 n 5) SP C tC d0 d1 d2 d3 := by
  obtain ⟨h1, h2, h3, h4, h5, h6, h7, h8⟩ := h
  have e : ∀ i, i ≠ 4 → i ≠ 0 → ((σ.set 4 (.row 53 5 v gs.flatten)).set 0 (.box (.agg [.str nm, RP, .rref 4 v 0 n 5, .slice 5 (C.map Em.coup.emb) tC])))[i]? = σ[i]? := fun i hi h0 => by rw [List.getElem?_set_ne (Ne.symm h0), List.getElem?_set_ne (Ne.symm hi)]
  refine ⟨List.getElem?_set_self (by rw [List.length_set]; exact hl0), (e 2 (by omega) (by omega)).trans h2, (e B (by omega) (by omega)).trans h3, h4, h5, h6.imp fun n h => h.keep (e 3 (by omega) (by omega)), .inr ⟨n, ⟨v, gs, rfl, ?_, hn, hg, hgs⟩, hK⟩, h8.imp id fun ⟨n, h⟩ => ⟨n, h.keep (e (B + 1) (by omega) (by omega))⟩⟩
  rw [List.getElem?_set_ne (by decide)]
  exact List.getElem?_set_self hl
theorem FinI.growS {σ : List SObj} {B K v n : Nat} {nm : List UInt8} {RP DP SP : PD} {C : List CoupD} {tC : Tok} {d0 : List UInt8} {d1 : Bool} {d2 d3 : Int} (h : FinI σ B K nm RP DP SP C tC d0 d1 d2 d3) (gs : List (List PD)) (hl0 : B < σ.length) (hl : B + 1 < σ.length) (hn : n ≤ gs.length) (hg : gs.length ≤ 1000) (hgs : ∀ g ∈ gs, Grp Em.stop okS 4 g) :
    FinI ((σ.set (B + 1) (.row 56 4 v gs.flatten)).set B (.box (.agg [.str d0, .bool d1, .int .i64 d2, .int .i64 d3, .rref (B + 1) v 0 n 4]))) B K nm RP DP (.rref (B + 1) v 0 n 4) C tC d0 d1 d2 d3 := by
  obtain ⟨h1, h2, h3, h4, h5, h6, h7, h8⟩ := h
  have e : ∀ i, i ≠ B + 1 → i ≠ B → ((σ.set (B + 1) (.row 56 4 v gs.flatten)).set B (.box (.agg [.str d0, .bool d1, .int .i64 d2, .int .i64 d3, .rref (B + 1) v 0 n 4])))[i]? = σ[i]? := fun i hi h0 => by rw [List.getElem?_set_ne (Ne.symm h0), List.getElem?_set_ne (Ne.symm hi)]
  refine ⟨(e 0 (by omega) (by omega)).trans h1, (e 2 (by omega) (by omega)).trans h2, List.getElem?_set_self (by rw [List.length_set]; exact hl0), h4, h5, h6.imp fun n h => h.keep (e 3 (by omega) (by omega)), h7.imp id fun ⟨n, h, k⟩ => ⟨n, h.keep (e 4 (by omega) (by omega)), k⟩, .inr ⟨n, v, gs, rfl, ?_, hn, hg, hgs⟩⟩
  rw [List.getElem?_set_ne (by omega)]
  exact List.getElem?_set_self hl
theorem two_digits {n : Nat} (hn : n < 100) : (n : Int).tdiv 10 = ((n / 10 : Nat) : Int) ∧ (n : Int).tmod 10 = ((n % 10 : Nat) : Int) ∧ IntKind.i64.wrap (((n / 10 : Nat) : Int)) = ((n / 10 : Nat) : Int) ∧ IntKind.i64.wrap (((n % 10 : Nat) : Int)) = ((n % 10 : Nat) : Int) ∧ IntKind.i64.wrap (48 + ((n / 10 : Nat) : Int)) = 48 + ((n / 10 : Nat) : Int) ∧ IntKind.i64.wrap (48 + ((n % 10 : Nat) : Int)) = 48 + ((n % 10 : Nat) : Int) ∧
    IntKind.u8.wrap (48 + ((n / 10 : Nat) : Int)) = 48 + ((n / 10 : Nat) : Int) ∧ IntKind.u8.wrap (48 + ((n % 10 : Nat) : Int)) = 48 + ((n % 10 : Nat) : Int) := by
  refine ⟨rfl, rfl, ?_, ?_, ?_, ?_, ?_, ?_⟩
  · rw [IntKind.wrap_i64]; omega
  · rw [IntKind.wrap_i64]; omega
  · rw [IntKind.wrap_i64]; omega
  · rw [IntKind.wrap_i64]; omega
  · simp only [IntKind.wrap, IntKind.bits, IntKind.signed]; simp; omega
  · simp only [IntKind.wrap, IntKind.bits, IntKind.signed]; simp; omega
end Go.Kz

/-
  Layer 18: a change of an organ, walked.
-/
namespace Go.Kz
open Go Go.Proofs
set_option maxRecDepth 100000
set_option maxHeartbeats 40000000
theorem flat_rank (R : List RankD) : (R.map Em.rank.emb).flatMap PD.cells = (R.map fun r => [PD.str r.name, .str r.tone, .int .i64 r.num, .int .i64 r.den, .int .i64 r.first, i64s.emb r.wind]).flatten := by
  induction R with
  | nil => rfl
  | cons r R ih => simp only [List.map_cons, List.flatMap_cons, List.flatten_cons, ih]; rfl
theorem flat_div (R : List DivD) : (R.map Em.div.emb).flatMap PD.cells = (R.map fun r => [PD.str r.name, .bool r.pedal, .int .i64 r.low, .int .i64 r.high, stopsE.emb r.stops]).flatten := by
  induction R with
  | nil => rfl
  | cons r R ih => simp only [List.map_cons, List.flatMap_cons, List.flatten_cons, ih]; rfl
theorem flat_stop (R : List StopD) : (R.map Em.stop.emb).flatMap PD.cells = (R.map fun r => [PD.str r.name, .int .i64 r.num, .int .i64 r.den, segsE.emb r.segs]).flatten := by
  induction R with
  | nil => rfl
  | cons r R ih => simp only [List.map_cons, List.flatMap_cons, List.flatten_cons, ih]; rfl
theorem prowAppend_nil {P : Program} {σ : List SObj} {t e : TypeId} {k b s z n : Nat} {tok : Tok} (ht : trow t n = true) (hu : P.underlying t = some (.slice e)) (hi : pelem P e = some (k, b)) (ho : ∀ i z, P.info? e = some i → i.zero = some z → z.cells.toList.all Value.oneCell' = true) :
    prowAppend P n 0 σ t (.slice s [] .full) (.slice z [] tok) = some (.slice s [] .full, σ) := by
  unfold pelem at hi
  split at hi
  · rename_i i h1
    split at hi
    · rename_i z0 h2
      split at hi
      · rename_i h3
        have hone := ho i z0 h1 h2
        have hfr : Tok.full.fresh = true := rfl
        simp only [prowAppend, ht, if_true, hu, pview, h1, h2, h3.1, h3.2, hone, and_self, List.length_nil, true_or, hfr, Nat.add_zero, Nat.zero_mul, Nat.zero_le]
      · cases hi
    · cases hi
  · cases hi
def frG (gg : Nat → PD) (B K : Nat) : List PD := gg 0 :: gg 1 :: .ptr 0 0 :: .ptr 1 0 :: .ptr 2 0 :: gg 5 :: .int .i64 K :: .ptr B 0 :: gg 8 :: gg 9 :: gg 10 :: gg 11 :: gg 12 :: gg 13 :: gg 14 :: gg 15 :: gg 16 :: gg 17 :: gg 18 :: gg 19 :: gg 20 :: gg 21 :: gg 22 :: gg 23 :: gg 24 :: gg 25 :: gg 26 :: gg 27 :: gg 28 :: gg 29 :: gg 30 :: gg 31 :: gg 32 :: gg 33 :: gg 34 :: gg 35 :: gg 36 :: gg 37 :: gg 38 :: gg 39 :: gg 40 :: gg 41 :: gg 42 :: gg 43 :: gg 44 :: gg 45 :: gg 46 :: gg 47 :: gg 48 :: gg 49 :: gg 50 :: gg 51 :: gg 52 :: gg 53 :: gg 54 :: gg 55 :: gg 56 :: gg 57 :: gg 58 :: gg 59 :: gg 60 :: gg 61 :: gg 62 :: gg 63 :: gg 64 :: gg 65 :: gg 66 :: gg 67 :: gg 68 :: gg 69 :: gg 70 :: gg 71 :: gg 72 :: gg 73 :: gg 74 :: gg 75 :: gg 76 :: gg 77 :: gg 78 :: gg 79 :: gg 80 :: gg 81 :: gg 82 :: gg 83 :: gg 84 :: gg 85 :: gg 86 :: gg 87 :: gg 88 :: gg 89 :: gg 90 :: gg 91 :: gg 92 :: gg 93 :: gg 94 :: gg 95 :: gg 96 :: gg 97 :: gg 98 :: gg 99 :: gg 100 :: gg 101 :: gg 102 :: gg 103 :: gg 104 :: gg 105 :: gg 106 :: gg 107 :: gg 108 :: gg 109 :: gg 110 :: gg 111 :: gg 112 :: gg 113 :: gg 114 :: gg 115 :: gg 116 :: gg 117 :: gg 118 :: gg 119 :: gg 120 :: gg 121 :: gg 122 :: gg 123 :: gg 124 :: gg 125 :: gg 126 :: gg 127 :: gg 128 :: gg 129 :: gg 130 :: gg 131 :: gg 132 :: gg 133 :: gg 134 :: gg 135 :: gg 136 :: gg 137 :: gg 138 :: gg 139 :: gg 140 :: gg 141 :: gg 142 :: gg 143 :: gg 144 :: gg 145 :: gg 146 :: gg 147 :: gg 148 :: gg 149 :: gg 150 :: gg 151 :: gg 152 :: gg 153 :: gg 154 :: gg 155 :: gg 156 :: gg 157 :: gg 158 :: gg 159 :: gg 160 :: gg 161 :: gg 162 :: gg 163 :: gg 164 :: gg 165 :: gg 166 :: gg 167 :: gg 168 :: gg 169 :: gg 170 :: gg 171 :: gg 172 :: gg 173 :: gg 174 :: gg 175 :: gg 176 :: gg 177 :: gg 178 :: gg 179 :: gg 180 :: gg 181 :: gg 182 :: gg 183 :: gg 184 :: gg 185 :: gg 186 :: gg 187 :: gg 188 :: gg 189 :: gg 190 :: gg 191 :: gg 192 :: gg 193 :: gg 194 :: gg 195 :: gg 196 :: gg 197 :: gg 198 :: gg 199 :: gg 200 :: gg 201 :: gg 202 :: gg 203 :: gg 204 :: gg 205 :: gg 206 :: gg 207 :: gg 208 :: gg 209 :: gg 210 :: gg 211 :: gg 212 :: gg 213 :: gg 214 :: gg 215 :: gg 216 :: gg 217 :: gg 218 :: gg 219 :: gg 220 :: gg 221 :: gg 222 :: gg 223 :: gg 224 :: gg 225 :: gg 226 :: gg 227 :: gg 228 :: gg 229 :: gg 230 :: gg 231 :: gg 232 :: gg 233 :: gg 234 :: gg 235 :: gg 236 :: gg 237 :: gg 238 :: gg 239 :: gg 240 :: gg 241 :: gg 242 :: gg 243 :: gg 244 :: gg 245 :: gg 246 :: gg 247 :: gg 248 :: gg 249 :: gg 250 :: gg 251 :: gg 252 :: gg 253 :: gg 254 :: gg 255 :: gg 256 :: gg 257 :: gg 258 :: gg 259 :: gg 260 :: gg 261 :: gg 262 :: gg 263 :: gg 264 :: gg 265 :: gg 266 :: gg 267 :: gg 268 :: gg 269 :: gg 270 :: gg 271 :: gg 272 :: gg 273 :: gg 274 :: []
structure PostC (B K : Nat) (nm : List UInt8) (RP DP SP : PD) (C : List CoupD) (tC : Tok) (d0 : List UInt8) (d1 : Bool) (d2 d3 : Int) (r : PO) : Prop where
  x : r.x = .normal
  m : r.ms = []
  f : ∃ gg : Nat → PD, r.fr = frG gg B K
  i : FinI r.σ B K nm RP DP SP C tC d0 d1 d2 d3
def Post (B K : Nat) (r : PO) : Prop := ∃ nm RP DP SP C tC d0 d1 d2 d3, PostC B K nm RP DP SP C tC d0 d1 d2 d3 r
theorem post_mk {B K : Nat} {fr : List PD} {σ : List SObj} {nm : List UInt8} {RP DP SP : PD} {C : List CoupD} {tC : Tok} {d0 : List UInt8} {d1 : Bool} {d2 d3 : Int} (hf : fr = frG (fun n => fr.getD n (.tup [])) B K) (h : FinI σ B K nm RP DP SP C tC d0 d1 d2 d3) : Post B K ⟨.normal, fr, [], σ⟩ :=
  ⟨nm, RP, DP, SP, C, tC, d0, d1, d2, d3, rfl, rfl, ⟨_, hf⟩, h⟩
theorem one_row {t : TypeId} (h : (match Tryz.prog.info? t with | some i => (match i.zero with | some z => z.cells.toList.all Value.oneCell' | none => true) | none => true) = true) : ∀ i z, Tryz.prog.info? t = some i → i.zero = some z → z.cells.toList.all Value.oneCell' = true := by
  intro i z h1 h2
  rw [h1] at h
  simp only [h2] at h
  exact h
end Go.Kz
