/-
  append, slice literals; all operations that call no function of the program.
-/
import Derived.Test.YtclleofcjnggaaaDoorKzJ
set_option linter.all false
namespace Go.Kz
open Go.RowKit

section
variable {P : Program} {c : Cx} {fl : Nat}

/-- The slice that has been appended to stands for the joined data. -/
theorem joined_VR {c' : Cx} {e : TypeId} {size n m : Nat} {v' : Value} {xs ys : List PD} {flx fly : List Value} {tok : Tok} (hnx : n = xs.length) (hmy : m = ys.length) (hpos : 0 < n + m)
    (hx : ∀ x ∈ xs, x.cells.length = size) (hy : ∀ x ∈ ys, x.cells.length = size) (hlx : flx.length = n * size)
    (h1x : ∀ v ∈ flx, v.oneCell' = true) (h1y : ∀ v ∈ fly, v.oneCell' = true)
    (hrx : ∀ (j : Nat) (v : Value) (d : PD), flx[j]? = some v → (xs.flatMap PD.cells)[j]? = some d → VR c' v d)
    (hry : ∀ (j : Nat) (v : Value) (d : PD), fly[j]? = some v → (ys.flatMap PD.cells)[j]? = some d → VR c' v d)
    (hown : c'.w.ownsRow 0 e size v' (n + m) (flx ++ fly))
    (hav : ∀ g j, blk v' = some g → j < (n + m) * size → c'.av ⟨g, j, none⟩)
    (htok : ∀ cap, v' = .slice (match v' with | .slice A _ _ => A | _ => none) (n + m) cap → TokR c' size (n + m) cap v' tok) :
    VR c' v' (.slice size (xs ++ ys) tok) := by
  rcases hown.2 with ⟨rfl, h0⟩ | ⟨g, cap, cur, rfl, _, hg, hnc, hcm, hcs, htake⟩
  · omega
  · have hlen : (flx ++ fly).length = (n + m) * size := hown.1
    have hle : (n + m) * size ≤ cur.toList.length := by simp [hcs]; exact Nat.mul_le_mul_right _ hnc
    refine .slice _ (n + m) cap size (xs ++ ys) tok (flx ++ fly) (by simp [hnx, hmy]) hnc hcm ?_ hlen ?_ ?_ ?_ (htok cap rfl)
    · intro x hx'
      rcases List.mem_append.1 hx' with h | h
      · exact hx x h
      · exact hy x h
    · intro v hv
      rcases List.mem_append.1 hv with h | h
      · exact h1x v h
      · exact h1y v h
    · intro j v hv
      have hj : j < (n + m) * size := by rw [← hlen]; exact (List.getElem?_eq_some_iff.1 hv).1
      refine ⟨⟨g, 0, none⟩, rfl, ?_, ?_⟩
      · have hadd : (⟨g, 0, none⟩ : Addr).add j = ⟨g, j, none⟩ := by unfold Addr.add; split <;> simp_all
        rw [hadd]
        rw [← htake, List.getElem?_take, if_pos hj] at hv
        simp only [World.cell?, hg]
        simpa using hv
      · have hadd : (⟨g, 0, none⟩ : Addr).add j = ⟨g, j, none⟩ := by unfold Addr.add; split <;> simp_all
        rw [hadd]
        exact hav g j rfl hj
    · intro j v d hv hd
      rw [List.flatMap_append] at hd
      have hfx : (xs.flatMap PD.cells).length = flx.length := by rw [flat_length xs hx, hlx, hnx]
      rw [List.getElem?_append] at hv hd
      by_cases h : j < flx.length
      · rw [if_pos h] at hv; rw [if_pos (by rw [hfx]; exact h)] at hd; exact hrx j v d hv hd
      · rw [if_neg h] at hv; rw [if_neg (by rw [hfx]; exact h), hfx] at hd; exact hry _ v d hv hd

theorem av_new {c' : Cx} {a : Addr} (hX : c'.X a) (h : ∀ id o, c'.D id → c'.σ[id]? = some o → blk (c'.ρ id) = some a.block → ∃ e size n, o = .own e size n ∧ a.off < n * size) : c'.av a := by
  refine ⟨hX, fun id o hd ho => ?_⟩
  cases o with
  | none => trivial
  | box p =>
    intro b hb hab
    obtain ⟨_, _, _, e, _⟩ := h id _ hd ho (by rw [hb, hab])
    cases e
  | own e size n =>
    intro b hb hab
    obtain ⟨_, _, _, e', hlt⟩ := h id _ hd ho (by rw [hb, hab])
    cases e'
    exact hlt
  | mark => trivial
  | loop st fr ps as bd => trivial

theorem blk_own {w : World} {e : TypeId} {size n : Nat} {v : Value} {xs : List Value} (h : w.ownsRow 0 e size v n xs) {b : Nat} (hb : blk v = some b) : b < w.heap.size := by
  rcases h.2 with ⟨rfl, _⟩ | ⟨g, cap, cur, rfl, _, hg, _⟩
  · simp [blk] at hb
  · simp [blk] at hb; subst hb; exact heap_lt hg

/-- The rows that may be appended to lie where X lets them. -/
def Xw (fl : Nat) (c : Cx) : Prop := ∀ id g, c.D id → fl ≤ id → blk (c.ρ id) = some g → ∀ a : Addr, a.block = g → c.X a

theorem Xw.next {c' : Cx} (h : Xw fl c) (hs : Sr c) (nx : Nx fl c c') : Xw fl c' := by
  intro id g hd hf hb a ha
  rw [nx.X]
  rcases Nat.lt_or_ge g c.w.heap.size with hlt | hge
  · obtain ⟨q1, q2⟩ := nx.back id g hd hb hlt
    exact h id g q1 hf q2 a ha
  · exact hs.fresh a (by omega)

theorem row_cells {w : World} {e : TypeId} {size n cap : Nat} {A : Option Addr} {xs0 flx : List Value} (h : w.ownsRow 0 e size (.slice A n cap) n xs0) (hl : flx.length = n * size)
    (hc : ∀ (j : Nat) (v : Value), flx[j]? = some v → ∃ ad, A = some ad ∧ w.cell? (ad.add j) = some v) : flx = xs0 := by
  apply List.ext_getElem?
  intro j
  rcases h.2 with ⟨hv, h0⟩ | ⟨g, cap', cur, hv, _, hg, hnc, _, hcs, htake⟩
  · have e1 : flx = [] := List.eq_nil_of_length_eq_zero (by rw [hl, h0]; simp)
    have e2 : xs0 = [] := List.eq_nil_of_length_eq_zero (by rw [h.1, h0]; simp)
    rw [e1, e2]
  · simp only [Value.slice.injEq] at hv
    obtain ⟨rfl, _, rfl⟩ := hv
    by_cases hj : j < n * size
    · have hj' : j < flx.length := by rw [hl]; exact hj
      obtain ⟨ad, e, hcell⟩ := hc j flx[j] (by simp [hj'])
      cases e
      have hadd : (⟨g, 0, none⟩ : Addr).add j = ⟨g, j, none⟩ := by unfold Addr.add; split <;> simp_all
      rw [hadd] at hcell
      simp only [World.cell?, hg] at hcell
      rw [← htake, List.getElem?_take, if_pos hj]
      rw [List.getElem?_eq_getElem hj']
      simpa using hcell.symm
    · rw [List.getElem?_eq_none (by rw [hl]; omega), List.getElem?_eq_none (by rw [h.1]; omega)]

/-- What append asks and gives, in one theorem over the model's run. -/
theorem pappend_ok (hs : Sr c) (hX : Xw fl c) {t : TypeId} {s x p : PD} {σ' : List SObj} (h : pappend P fl c.σ t s x = some (p, σ')) {vs vx : Value} (hvs : VR c vs s) (hvx : VR c vx x) (ty : TypeId) :
    ∃ v w', (Builtin.append_ #[t, t] ty #[vs, vx]).run P c.w = .ok v w' ∧ Leaves fl c p σ' v w' := by
  unfold pappend at h
  split at h
  · rename_i e hu
    split at h
    · rename_i i hi
      split at h
      · rename_i z sz xs tok sz' ys tok' hz
        split at h
        · rename_i hc
          obtain ⟨hsz, hsz', hpos, hzs, hmax, hby⟩ := hc
          obtain ⟨A, cap, flx, rfl, a1, a2, a3, a4, a5, a6, a7, a8⟩ := hvs.inv_slice
          obtain ⟨B, cap', fly, rfl, b1, b2, b3, b4, b5, b6, b7, b8⟩ := hvx.inv_slice
          by_cases hy0 : ys.length = 0
          · -- nothing is appended
            rw [if_pos hy0] at h
            simp only [Option.some.injEq, Prod.mk.injEq] at h
            obtain ⟨rfl, rfl⟩ := h
            refine ⟨.slice A xs.length cap, c.w, ?_, c, rfl, rfl, hs, .refl _ _, hvs, fun _ h => .inl h⟩
            have hfy : (Builtin.firstCells i.size 0 (.slice B 0 cap')).run P c.w = .ok #[] c.w := by
              cases B <;> simp [Builtin.firstCells, loadCells, loadCellsFrom]
            simp only [hy0]
            cases A <;> simp [Builtin.append_, run_underlying hu, sizeOf, typeInfo, hi, Builtin.lenOf, hfy, a1, storeCells]
          · rw [if_neg hy0] at h
            have hypos : 0 < ys.length := Nat.pos_of_ne_zero hy0
            have hsz2 : sz' = i.size := hsz'.resolve_left hy0
            subst hsz2
            have hfl0 : 0 < fly.length := by rw [b4]; exact Nat.mul_pos hypos hpos
            obtain ⟨bd, rfl, _, _⟩ := b6 0 fly[0] (by simp [hfl0])
            have hnews : ∀ (j : Nat) (u : Value), fly[j]? = some u → c.w.cell? (bd.add j) = some u := fun j u hj => by
              obtain ⟨ad, e', h9, _⟩ := b6 j u hj
              cases e'; exact h9
            cases tok with
            | any => simp at h
            | full =>
              simp only [Option.some.injEq, Prod.mk.injEq] at h
              obtain ⟨rfl, rfl⟩ := h
              simp only [TokR] at a8
              have hx3 : ∀ x ∈ xs, x.cells.length = i.size := fun x hx => by
                have : xs.length ≠ 0 := by intro e0; rw [List.length_eq_zero_iff.1 e0] at hx; cases hx
                rw [← hsz.resolve_left this]; exact a3 x hx
              have hx4 : flx.length = xs.length * i.size := by
                rcases hsz with h0 | h0
                · rw [a4, h0]; simp
                · rw [a4, h0]
              -- the run
              have hrun : ∃ v' w', (Builtin.append_ #[t, t] ty #[.slice A xs.length cap, .slice (some bd) ys.length cap']).run P c.w = .ok v' w' ∧
                  w'.ownsRow 0 e i.size v' (xs.length + ys.length) (flx ++ fly) ∧ c.w.grownBy w' none ∧ (∀ b, blk v' = some b → c.w.heap.size ≤ b) := by
                cases A with
                | none =>
                  have hx0 : xs.length = 0 := by
                    rcases Nat.eq_zero_or_pos xs.length with h0 | h0
                    · exact h0
                    · have : 0 < flx.length := by rw [hx4]; exact Nat.mul_pos h0 hpos
                      obtain ⟨ad, e', _⟩ := a6 0 flx[0] (by simp [this])
                      cases e'
                  have hfx0 : flx = [] := List.eq_nil_of_length_eq_zero (by rw [hx4, hx0]; simp)
                  have hcap : cap = 0 := by omega
                  subst hfx0; subst hcap
                  obtain ⟨v', w', r, h2, h3, h4, h5⟩ := run_append_own_at (P := P) c.w c.w.heap.size t ty e i z i.size i.bytes hu hi hz rfl rfl hzs hpos (.slice none 0 0) 0 [] (World.ownsRow_nil _ _ _ _)
                    bd ys.length cap' fly b4 hnews b5 (by omega) (by rw [hx0] at hby; simpa using hby) (Nat.le_refl _)
                  refine ⟨v', w', by rw [hx0]; exact r, ?_, h3, ?_⟩
                  · rw [hx0]
                    exact ⟨h2.1, h2.2.imp (fun q => q) (fun ⟨g, cp, cur, q1, _, q3⟩ => ⟨g, cp, cur, q1, Nat.zero_le _, q3⟩)⟩
                  · intro b hb
                    rcases h2.2 with ⟨rfl, _⟩ | ⟨g, cp, cur, rfl, hge, _⟩
                    · simp [blk] at hb
                    · simp [blk] at hb; omega
                | some ad =>
                  have holds : ∀ (j : Nat) (u : Value), flx[j]? = some u → c.w.cell? (ad.add j) = some u := fun j u hj => by
                    obtain ⟨ad', e', h9, _⟩ := a6 j u hj
                    cases e'; exact h9
                  obtain ⟨v', w', r, h2, h3⟩ := run_append_arg_grows (P := P) c.w t ty e i z i.size i.bytes hu hi hz rfl rfl hzs hpos ad xs.length cap flx hx4 holds bd ys.length cap' fly b4 hnews (by omega) hmax hby
                  refine ⟨v', w', r, ⟨h2.1, h2.2.imp (fun q => q) (fun ⟨g, cp, cur, q1, _, q3⟩ => ⟨g, cp, cur, q1, Nat.zero_le _, q3⟩)⟩, h3, ?_⟩
                  intro b hb
                  rcases h2.2 with ⟨rfl, _⟩ | ⟨g, cp, cur, rfl, hge, _⟩
                  · simp [blk] at hb
                  · simp [blk] at hb; omega
              obtain ⟨v', w', r, hown, hgr, hnew⟩ := hrun
              refine ⟨v', w', r, c.push w' v' (.own e i.size (xs.length + ys.length)), rfl, rfl, ?_, ?_, ?_, ?_⟩
              · exact Sr.push hs hgr (fun b hb => ⟨hnew b hb, blk_own hown hb⟩) ⟨_, hown⟩
              · exact Nx.push hs hgr hnew
              · have nx : Nx 0 c (c.push w' v' (.own e i.size (xs.length + ys.length))) := Nx.push hs hgr hnew
                refine joined_VR (e := e) (flx := flx) (fly := fly) rfl rfl (by omega) hx3 b3 hx4 a5 b5 (fun j v d q1 q2 => (a7 j v d q1 q2).mono nx) (fun j v d q1 q2 => (b7 j v d q1 q2).mono nx) hown ?_ ?_
                · intro g j hg hj
                  refine av_new (hs.fresh _ (hnew g hg)) (fun id o hd ho hb => ?_)
                  rcases hd with hd | rfl
                  · rw [push_ρ hs hd] at hb
                    have := hs.lt id g hd hb
                    have := hnew g hg
                    omega
                  · rw [push_new.1] at ho
                    simp only [Option.some.injEq] at ho
                    exact ⟨_, _, _, ho.symm, hj⟩
                · intro cp _
                  exact ⟨.inr rfl, e, _, push_new.1, Nat.le_refl _, fun _ => push_new.2.1⟩
              · intro id hd
                rcases hd with hd | rfl
                · exact .inl hd
                · exact .inr ⟨Nat.le_refl _, by simp⟩
            | own id =>
              simp only at h
              split at h
              · rename_i hflid
                split at h
                · rename_i e' sz0 n hq
                  split at h
                  · rename_i hcc
                    obtain ⟨he, rfl, rfl⟩ := hcc
                    have he := he.symm
                    subst he
                    simp only [Option.some.injEq, Prod.mk.injEq] at h
                    obtain ⟨rfl, rfl⟩ := h
                    obtain ⟨hfl, rfl⟩ := hflid
                    obtain ⟨hd, e0, m0, hq', hle, hρ⟩ := a8
                    rw [hq] at hq'
                    simp only [Option.some.injEq, SObj.own.injEq] at hq'
                    obtain ⟨rfl, _, rfl⟩ := hq'
                    have hρ' := hρ rfl
                    obtain ⟨xs0, hown0⟩ := hs.own id _ _ _ hd hq
                    rw [hρ'] at hown0
                    have hfx : flx = xs0 := row_cells hown0 a4 (fun j v hj => by obtain ⟨ad, q1, q2, _⟩ := a6 j v hj; exact ⟨ad, q1, q2⟩)
                    subst hfx
                    have hrun : ∃ v' w', (Builtin.append_ #[t, t] ty #[.slice A xs.length cap, .slice (some bd) ys.length cap']).run P c.w = .ok v' w' ∧
                        w'.ownsRow 0 e i.size v' (xs.length + ys.length) (flx ++ fly) ∧ (w'.os = c.w.os ∧ w'.tape = c.w.tape ∧ w'.output = c.w.output ∧ c.w.heap.size ≤ w'.heap.size) ∧
                        (∀ k, k < c.w.heap.size → blk (c.ρ id) ≠ some k → w'.heap[k]? = c.w.heap[k]?) ∧
                        (∀ (a : Addr) (u : Value), (∀ b, blk (c.ρ id) = some b → a.block = b → a.off < xs.length * i.size) → c.w.cell? a = some u → w'.cell? a = some u) ∧
                        (blk v' = blk (c.ρ id) ∨ ∀ b, blk v' = some b → c.w.heap.size ≤ b) := by
                      rw [hρ']
                      rcases hown0.2 with ⟨hv0, h0⟩ | ⟨g, cap0, cur, hv0, _, hg, hnc, hcm, hcs, htake⟩
                      · simp only [Value.slice.injEq] at hv0
                        obtain ⟨rfl, _, rfl⟩ := hv0
                        have hfx0 : flx = [] := List.eq_nil_of_length_eq_zero (by rw [a4, h0]; simp)
                        subst hfx0
                        obtain ⟨v', w', r, h2, h3, h4, h5⟩ := run_append_own_at (P := P) c.w c.w.heap.size t ty e i z i.size i.bytes hu hi hz rfl rfl hzs hpos (.slice none 0 0) 0 [] (World.ownsRow_nil _ _ _ _)
                          bd ys.length cap' fly b4 hnews b5 (by omega) (by rw [h0] at hby; simpa using hby) (Nat.le_refl _)
                        refine ⟨v', w', by rw [h0]; exact r, ?_, ⟨h3.os, h3.tape, h3.output, h3.size⟩, fun k hk _ => h3.block k hk (by simp [Value.ownBlock]), fun a u _ hu' => ?_, .inr ?_⟩
                        · rw [h0]
                          exact ⟨h2.1, h2.2.imp (fun q => q) (fun ⟨g, cp, cur, q1, _, q3⟩ => ⟨g, cp, cur, q1, Nat.zero_le _, q3⟩)⟩
                        · rw [World.cell?_of_block (h3.block a.block (cell_lt hu') (by simp [Value.ownBlock]))]; exact hu'
                        · intro b hb
                          rcases h2.2 with ⟨rfl, _⟩ | ⟨g, cp, cur, rfl, hge, _⟩
                          · simp [blk] at hb
                          · simp [blk] at hb; omega
                      · simp only [Value.slice.injEq] at hv0
                        obtain ⟨rfl, _, rfl⟩ := hv0
                        by_cases hroom : xs.length + ys.length ≤ cap
                        · obtain ⟨w', r, h2, h3⟩ := run_append_own_spare (P := P) c.w 0 t ty e i i.size hu hi rfl g xs.length cap flx hown0 bd ys.length cap' fly b4 hnews b5 hroom
                          refine ⟨_, w', r, h2, ⟨h3.os, h3.tape, h3.output, h3.size⟩, fun k hk hne => h3.block k hk (by simpa [blk, eq_comm] using hne), fun a u ha hu' => ?_, .inl rfl⟩
                          by_cases hag : a.block = g
                          · have hoff := ha g rfl hag
                            rcases h2.2 with ⟨hv1, _⟩ | ⟨g1, cp1, cur1, hv1, _, hg1, _, _, _, htake1⟩
                            · simp at hv1
                            · simp only [Value.slice.injEq, Option.some.injEq, Addr.mk.injEq, and_true] at hv1
                              obtain ⟨rfl, _, rfl⟩ := hv1
                              obtain ⟨ab, ao, asp⟩ := a
                              simp only at hag hoff
                              subst hag
                              simp only [World.cell?, hg, hg1] at hu' ⊢
                              split at hu'
                              · simp at hu'
                              · rename_i hsp
                                rw [if_neg hsp]
                                have q1 : flx[ao]? = some u := by rw [← htake, List.getElem?_take, if_pos hoff]; simpa using hu'
                                have q2 : (flx ++ fly)[ao]? = some u := by rw [List.getElem?_append_left (List.getElem?_eq_some_iff.1 q1).1]; exact q1
                                rw [← htake1, List.getElem?_take] at q2
                                split at q2
                                · simpa using q2
                                · simp at q2
                          · rw [World.cell?_of_block (h3.block a.block (cell_lt hu') (by simpa using hag))]; exact hu'
                        · have holds : ∀ (j : Nat) (u : Value), flx[j]? = some u → c.w.cell? ((⟨g, 0, none⟩ : Addr).add j) = some u := fun j u hj => by
                            obtain ⟨ad', e', h9, _⟩ := a6 j u hj
                            cases e'; exact h9
                          obtain ⟨v', w', r, h2, h3⟩ := run_append_arg_grows (P := P) c.w t ty e i z i.size i.bytes hu hi hz rfl rfl hzs hpos ⟨g, 0, none⟩ xs.length cap flx a4 holds bd ys.length cap' fly b4 hnews (by omega) hmax hby
                          refine ⟨v', w', r, ⟨h2.1, h2.2.imp (fun q => q) (fun ⟨g, cp, cur, q1, _, q3⟩ => ⟨g, cp, cur, q1, Nat.zero_le _, q3⟩)⟩, ⟨h3.os, h3.tape, h3.output, h3.size⟩, fun k hk _ => h3.block k hk (by simp), fun a u _ hu' => ?_, .inr ?_⟩
                          · rw [World.cell?_of_block (h3.block a.block (cell_lt hu') (by simp))]; exact hu'
                          · intro b hb
                            rcases h2.2 with ⟨rfl, _⟩ | ⟨g', cp, cur', rfl, hge, _⟩
                            · simp [blk] at hb
                            · simp [blk] at hb; omega
                    obtain ⟨v', w', r, hown, h0, h1, h2, h3⟩ := hrun
                    have hn : xs.length < xs.length + ys.length := by omega
                    refine ⟨v', w', r, c.put w' id v' (.own e i.size (xs.length + ys.length)), rfl, rfl, Sr.putOwn hs hd hq hn h0 h1 h2 h3 hown (fun b hb => blk_own hown hb), Nx.putOwn hs hd hq hfl hn h0 h1 h2 h3, ?_, fun _ h => .inl h⟩
                    have nx : Nx 0 c (c.put w' id v' (.own e i.size (xs.length + ys.length))) := Nx.putOwn hs hd hq (Nat.zero_le _) hn h0 h1 h2 h3
                    refine joined_VR (e := e) (flx := flx) (fly := fly) rfl rfl (by omega) a3 b3 a4 a5 b5 (fun j v d q1 q2 => (a7 j v d q1 q2).mono nx) (fun j v d q1 q2 => (b7 j v d q1 q2).mono nx) hown ?_ ?_
                    · intro g j hg hj
                      have hXg : c.X ⟨g, j, none⟩ := by
                        rcases h3 with h3 | h3
                        · exact hX id g hd hfl (by rw [← h3]; exact hg) _ rfl
                        · exact hs.fresh _ (h3 g hg)
                      refine av_new hXg (fun i' o hd' ho hb => ?_)
                      by_cases e' : i' = id
                      · subst e'
                        rw [put_σ (hs.dom i' hd)] at ho
                        simp only [Option.some.injEq] at ho
                        exact ⟨_, _, _, ho.symm, hj⟩
                      · rw [put_ρ_ne e'] at hb
                        exfalso
                        rcases h3 with h3 | h3
                        · exact hs.inj i' id g hd' hd e' hb (by rw [← h3]; exact hg)
                        · have := h3 g hg
                          have := hs.lt i' g hd' hb
                          omega
                    · intro cp _
                      exact ⟨hd, e, _, put_σ (hs.dom id hd), Nat.le_refl _, fun _ => put_ρ⟩
                  · simp at h
                · simp at h
              · simp at h
        · simp at h
      · simp at h
    · simp at h
  · simp at h

end
end Go.Kz
