/-
  Whole bodies: what the pure interpreter computes, the model computes.
-/
import Derived.Test.YtclleofcjnggaaaDoorKzU
set_option linter.all false
namespace Go.Kz
open Go.RowKit

section
variable {F : Fence} {P : Program} {call : PCall} {fl : Nat}

theorem prange_core (hF : Open F P) (hc : Ok F P call) {c1 : Cx} {id l n : Nat} {a a' : Act} {g : Operand} {gf : FuncId} {cap fr : List PD} {ms : List Nat} {q : PD} {σ2 : List SObj} {r : PO} {Q : Exit → Act → World → Prop}
    (hs1 : Sr c1) (hX1 : Xw fl c1) (hd : c1.D id) (hρ : c1.ρ id = .pointer (some ⟨l, 0, none⟩)) (hno : notOwn c1.σ[id]?) (hfl : fl ≤ id) (hg : VR c1 (a.eval g) (.func gf cap))
    (hcall : call fl (.inl gf) (.yield id :: cap) c1.σ = some (q, σ2)) (hleave : pleave id fr ms σ2 = some r) (hf : FR c1 a' fr) (hm : MR c1 a'.defers ms)
    (hQ : ∀ cx' a'', cx'.σ = r.σ → Sr cx' → Nx fl c1 cx' → FR cx' a'' r.fr → MR cx' a''.defers r.ms → Q r.x.toExit a'' cx'.w) :
    ∃ (d : Deferred) (w₁' : World) (f : FuncId) (args : Array Value) (w₂ : World), (resolve a.eval (rangeCall g l) 0).run P c1.w = .ok d w₁' ∧ (∀ f', Target.leads P w₁' d.target d.args = some f' → F.fn f') ∧
      (invoke d.target d.args).run P w₁' = .ok (.enter f args) w₂ ∧ (F.depth.isSome = true → 1 ≤ n) ∧ CallsIn F (n - 1) P f args w₂ (rangePost F n P l Q a') := by
  obtain ⟨cs, e, hcs⟩ := hg.inv_func
  have hy : VR c1 (.func (.yield l) #[] #[]) (.yield id) := .yield id l hd hno hρ
  have hvs : VRs c1 (.func (.yield l) #[] #[] :: cs) (.yield id :: cap) := ⟨by simpa using hcs.1, fun i u d hu hd' => by
    cases i with
    | zero => simp at hu hd'; subst hu hd'; exact hy
    | succ i => exact hcs.2 i u d (by simpa using hu) (by simpa using hd')⟩
  obtain ⟨⟨fn, hfn, hb⟩, hcalls⟩ := hc.fn hcall hs1 hX1 hvs
  have hb' : fn.body.isNone = false := by cases hx : fn.body <;> simp_all
  have hn := hF.name gf fn hfn
  refine ⟨{ target := .fn (.func gf) cs.toArray, args := #[.func (.yield l) #[] #[]] }, c1.w, gf, (.func (.yield l) #[] #[] :: cs).toArray, c1.w, ?_, fun f' _ => hF.fn f', ?_, hF.asks, CallsIn.mono (hcalls _) fun en w3 he => ?_⟩
  · simp only [rangeCall, resolve, e, Deferred.ofValue]
    simp [Act.eval]
  · have e2 : (#[.func (.yield l) #[] #[]] ++ cs.toArray : Array Value) = (.func (.yield l) #[] #[] :: cs).toArray := by apply Array.ext'; simp
    simp only [invoke, callFunc, Sem.run_bind, run_program, hfn, hn, hb', Bool.false_eq_true, if_false, Sem.run_pure, Result.andThen_ok, e2]
  · cases en with
    | panicked ch => exact he.elim
    | outgrown => exact he.elim
    | returned v =>
      obtain ⟨c2, rfl, e2, hs2, nx2, _, _⟩ := he
      have hd2 := nx2.dom id hd
      obtain ⟨er, hno2⟩ := nx2.rkeep id hd hno
      have hρ2 := er.trans hρ
      unfold pleave at hleave
      rw [← e2] at hleave
      split at hleave
      · rename_i fr0 ps0 as0 bd0 hlo
        simp only [Option.some.injEq] at hleave; subst hleave
        obtain ⟨r2, hh, _, _, _, _, hst⟩ := loop_at hs2 hd2 hlo hρ2
        obtain ⟨c3, w3, e3, hs3, nx3⟩ := loop_drop (fl := fl) (r' := { r2 with state := .exhausted }) hs2 hd2 hlo hρ2 hfl hh
        refine ⟨_, _, run_endLoop hh (by rw [hst.1]; simp), ?_⟩
        rw [← w3, hst.2]
        exact hQ c3 a' e3 hs3 (nx2.trans nx3) ((hf.mono nx2).mono nx3) ((hm.mono nx2).mono nx3)
      · rename_i fr0 ps0 as0 bd0 hlo
        simp only [Option.some.injEq] at hleave; subst hleave
        obtain ⟨r2, hh, _, _, _, _, hst⟩ := loop_at hs2 hd2 hlo hρ2
        obtain ⟨c3, w3, e3, hs3, nx3⟩ := loop_drop (fl := fl) (r' := { r2 with state := .exhausted }) hs2 hd2 hlo hρ2 hfl hh
        refine ⟨_, _, run_endLoop hh (by rw [hst.1]; simp), ?_⟩
        rw [← w3, hst.2]
        exact wpIn_ret (hQ c3 a' e3 hs3 (nx2.trans nx3) ((hf.mono nx2).mono nx3) ((hm.mono nx2).mono nx3))
      · rename_i k fr0 ps0 as0 bd0 hlo
        simp only [Option.some.injEq] at hleave; subst hleave
        obtain ⟨r2, hh, _, _, _, _, hst⟩ := loop_at hs2 hd2 hlo hρ2
        obtain ⟨c3, w3, e3, hs3, nx3⟩ := loop_drop (fl := fl) (r' := { r2 with state := .exhausted }) hs2 hd2 hlo hρ2 hfl hh
        refine ⟨_, _, run_endLoop hh (by rw [hst.1]; simp), ?_⟩
        rw [← w3, hst.2]
        exact wpIn_exit (hQ c3 a' e3 hs3 (nx2.trans nx3) ((hf.mono nx2).mono nx3) ((hm.mono nx2).mono nx3))
      · simp at hleave

theorem prange_ok (hF : Open F P) (hc : Ok F P call) {rd : Option Nat} {gf : FuncId} {cap fr : List PD} {ps : Array Tmp} {assign body : Code} {ms : List Nat} {cx : Cx} {a : Act} {r : PO} {m : Nat} {Q : Exit → Act → World → Prop} {g : Operand}
    (h : prange call rd gf cap ps.toList assign body fl fr ms cx.σ = some r) (hs : Sr cx) (hX : Xw fl cx) (hf : FR cx a fr) (hm : MR cx a.defers ms) (hr : RdR F cx rd) (hg : VR cx (a.eval g) (.func gf cap))
    (hQ : ∀ cx' a'', cx'.σ = r.σ → Sr cx' → Nx fl cx cx' → FR cx' a'' r.fr → MR cx' a''.defers r.ms → Q r.x.toExit a'' cx'.w) : (Code.rangeFunc g ps assign body).wpIn F m P Q a cx.w := by
  refine wpIn_rangeFunc fun fn _ => ?_
  unfold prange at h
  split at h
  · rename_i hfl
    split at h
    · -- an outermost loop
      split at h
      · rename_i q σ2 hcall
        have hro : F.round = none := hr
        -- the mark
        have g1 : cx.w.grownBy (cx.w.alloc (.deferred (some []))) none := grownBy_alloc' _ _
        have b1 : ∀ b, blk (.pointer (some ⟨cx.w.heap.size, 0, none⟩)) = some b → cx.w.heap.size ≤ b ∧ b < (cx.w.alloc (.deferred (some []))).heap.size := fun b hb => by simp [blk] at hb; subst hb; simp
        let c1 := cx.push (cx.w.alloc (.deferred (some []))) (.pointer (some ⟨cx.w.heap.size, 0, none⟩)) .mark
        have hs1 : Sr c1 := Sr.push hs g1 b1 ⟨_, rfl, heap_alloc_new _ _⟩
        have nx1 : Nx fl cx c1 := Nx.push hs g1 (fun b hb => (b1 b hb).1)
        have l1 : c1.σ.length = cx.σ.length + 1 := by simp [c1, Cx.push]
        -- the record
        let rec0 : Loop := { state := .ready, pending := none, fn, tmps := a.tmps, params := ps, assign, body, defers := cx.w.heap.size }
        have g2 : c1.w.grownBy (c1.w.alloc (.loop rec0)) none := grownBy_alloc' _ _
        have sz1 : c1.w.heap.size = cx.w.heap.size + 1 := by show (cx.w.alloc _).heap.size = _; simp
        have b2 : ∀ b, blk (.pointer (some ⟨cx.w.heap.size + 1, 0, none⟩)) = some b → c1.w.heap.size ≤ b ∧ b < (c1.w.alloc (.loop rec0)).heap.size := fun b hb => by simp [blk] at hb; subst hb; simp [sz1]
        have hnew : (c1.w.alloc (.loop rec0)).heap[cx.w.heap.size + 1]? = some (.loop rec0) := by rw [← sz1]; exact heap_alloc_new _ _
        let c2 := c1.push (c1.w.alloc (.loop rec0)) (.pointer (some ⟨cx.w.heap.size + 1, 0, none⟩)) (.loop .ready fr ps.toList assign body)
        have hs2 : Sr c2 := Sr.push hs1 g2 b2 ⟨_, _, rfl, hnew, by simp [rec0], rfl, rfl, VRs.mono nx1 hf.1, ⟨rfl, rfl⟩⟩
        have nx2 : Nx fl c1 c2 := Nx.push hs1 g2 (fun b hb => (b2 b hb).1)
        have n02 := nx1.trans nx2
        have hσ2 : c2.σ = cx.σ ++ [.mark] ++ [.loop .ready fr ps.toList assign body] := rfl
        have pn := push_new (c := c1) (w := c1.w.alloc (.loop rec0)) (v := .pointer (some ⟨cx.w.heap.size + 1, 0, none⟩)) (o := .loop .ready fr ps.toList assign body)
        rw [l1] at pn
        rw [← hσ2] at hcall
        obtain ⟨d, w₁', f, args, w₂, h1, h2, h3, h4, h5⟩ := prange_core (n := m) (a := a) (a' := { a with defers := [{ target := .collected cx.w.heap.size, args := #[] }] ++ a.defers }) (g := g) (Q := Q) hF hc hs2 (hX.next hs n02) pn.2.2 pn.2.1 (by rw [pn.1]; trivial) (by omega) (hg.mono n02) hcall h (hf.mono n02)
          ⟨⟨_, rfl, nx2.dom _ (.inr rfl), by rw [push_σ (id := cx.σ.length) hs1 (.inr rfl), push_new.1]; trivial, (push_ρ hs1 (.inr rfl)).trans push_new.2.1⟩, hm.mono n02⟩
          (fun cx' a'' e1 q1 q2 q3 q4 => hQ cx' a'' e1 q1 (n02.trans q2) q3 q4)
        refine ⟨_, _, c2.w, d, w₁', f, args, w₂, ?_, h1, h2, h3, h4, h5⟩
        rw [hro]
        exact run_enterLoop_outer fn a.tmps ps assign body
      · simp at h
    · -- a loop in a round
      rename_i id0
      split at h
      · rename_i st0 fr0 ps0 as0 bd0 hlo0
        split at h
        · rename_i q σ2 hcall
          obtain ⟨l0, hro, hd0, hno0, hρ0⟩ := hr
          obtain ⟨r0, hh0, _⟩ := loop_at hs hd0 hlo0 hρ0
          let rec0 : Loop := { state := .ready, pending := none, fn, tmps := a.tmps, params := ps, assign, body, defers := r0.defers }
          have g2 : cx.w.grownBy (cx.w.alloc (.loop rec0)) none := grownBy_alloc' _ _
          have b2 : ∀ b, blk (.pointer (some ⟨cx.w.heap.size, 0, none⟩)) = some b → cx.w.heap.size ≤ b ∧ b < (cx.w.alloc (.loop rec0)).heap.size := fun b hb => by simp [blk] at hb; subst hb; simp
          let c2 := cx.push (cx.w.alloc (.loop rec0)) (.pointer (some ⟨cx.w.heap.size, 0, none⟩)) (.loop .ready fr ps.toList assign body)
          have hs2 : Sr c2 := Sr.push hs g2 b2 ⟨_, _, rfl, heap_alloc_new _ _, by simp [rec0], rfl, rfl, hf.1, ⟨rfl, rfl⟩⟩
          have nx2 : Nx fl cx c2 := Nx.push hs g2 (fun b hb => (b2 b hb).1)
          have hσ2 : c2.σ = cx.σ ++ [.loop .ready fr ps.toList assign body] := rfl
          have pn := push_new (c := cx) (w := cx.w.alloc (.loop rec0)) (v := .pointer (some ⟨cx.w.heap.size, 0, none⟩)) (o := .loop .ready fr ps.toList assign body)
          rw [← hσ2] at hcall
          obtain ⟨d, w₁', f, args, w₂, h1, h2, h3, h4, h5⟩ := prange_core (n := m) (a := a) (a' := { a with defers := [] ++ a.defers }) (g := g) (Q := Q) hF hc hs2 (hX.next hs nx2) pn.2.2 pn.2.1 (by rw [pn.1]; trivial) hfl (hg.mono nx2) hcall h (hf.mono nx2)
            (hm.mono nx2) (fun cx' a'' e1 q1 q2 q3 q4 => hQ cx' a'' e1 q1 (nx2.trans q2) q3 q4)
          refine ⟨_, _, c2.w, d, w₁', f, args, w₂, ?_, h1, h2, h3, h4, h5⟩
          rw [hro]
          unfold Instr.enterLoop
          simp only [Sem.run_bind, run_getLoop hh0, run_newObj_alloc, Result.andThen, Sem.run_pure]
          rfl
        · simp at h
      · simp at h
  · simp at h

end

/-- **Whole bodies.** -/
theorem pcode_ok {P : Program} {E : PExt} (hE : ExtOk P E) (hP : P.follows .mixedOrders = true) : ∀ n, CodeOk P (pcode P E n) := by
  intro n
  induction n with
  | zero => intro F rd c fl fr ms cx r a hF h; simp [pcode] at h
  | succ n ih =>
    intro F rd c fl fr ms cx r a hF h hs hX hf hm hr m Q hQ
    have hc : Ok F P (pcallBy P E (pcode P E n)) := ok_of_code hE ih hF
    unfold pcode at h
    split at h
    · simp only [Option.some.injEq] at h; subst h
      exact wpIn_skip (hQ cx a rfl hs (.refl _ _) hf hm)
    · split at h
      · rename_i id ops _ fr' σ' hseq
        simp only [Option.some.injEq] at h; subst h
        refine wpIn_region ?_
        have := pseq_ok (n := m) (Q := Q) hF hc ops.toList 0 (by simp) hs hX hf hseq (fun c' a' e1 q1 q2 q3 q4 => hQ c' a' e1 q1 q2 q3 (by rw [q4]; exact hm.mono q2))
        rw [List.range_eq_range']
        simpa using this
      · simp at h
    · split at h
      · rename_i id ops _ fr' σ' hdr
        simp only [Option.some.injEq] at h; subst h
        refine wpIn_region_any hP ?_
        have hg : cx.w.grownBy cx.w.drew none := grownBy_drew _
        have nx : Nx fl cx (cx.at cx.w.drew) := Nx.grow hs hg
        exact pdraw_ok (n := m) (c0 := cx.at cx.w.drew) hF hc (Sr.grow hs hg) (hX.next hs nx) (hf.mono nx) hdr (fun c' a' e1 q1 q2 q3 q4 => hQ c' a' e1 q1 (nx.trans q2) q3 (by rw [q4]; exact (hm.mono nx).mono q2))
      · simp at h
    · rename_i x y
      refine wpIn_seq ?_
      split at h
      · rename_i fr1 ms1 σ1 hx
        refine wpX.wpIn (ih hF hx hs hX hf hm hr m _ fun c1 a1 e1 hs1 nx1 hf1 hm1 => ?_)
        simp only at e1 hf1 hm1
        rw [← e1] at h
        exact wpX.wpIn (ih hF h hs1 (hX.next hs nx1) hf1 hm1 (hr.mono nx1) m _ fun c2 a2 e2 hs2 nx2 hf2 hm2 => hQ c2 a2 e2 hs2 (nx1.trans nx2) hf2 hm2)
      · rename_i hne
        refine wpX.wpIn (ih hF h hs hX hf hm hr m _ fun c1 a1 e1 hs1 nx1 hf1 hm1 => ?_)
        have := hQ c1 a1 e1 hs1 nx1 hf1 hm1
        obtain ⟨x', fr1, ms1, σ1⟩ := r
        cases x' with
        | normal => exact absurd h (hne _ _ _)
        | ret => exact this
        | exit k => exact this
    · rename_i g x y
      split at h
      · rename_i hg
        exact wpIn_cond_true (eval_VR hf hg).inv_bool (wpX.wpIn (ih hF h hs hX hf hm hr m Q hQ))
      · rename_i hg
        exact wpIn_cond_false (eval_VR hf hg).inv_bool (wpX.wpIn (ih hF h hs hX hf hm hr m Q hQ))
      · simp at h
    · rename_i id b
      refine wpIn_block ?_
      split at h
      · rename_i k fr1 ms1 σ1 hx
        simp only [Option.some.injEq] at h; subst h
        refine wpX.wpIn (ih hF hx hs hX hf hm hr m _ fun c1 a1 e1 hs1 nx1 hf1 hm1 => ?_)
        have := hQ c1 a1 e1 hs1 nx1 hf1 hm1
        simp only [PX.toExit, Exit.inBlock]
        by_cases hk : k = id
        · simp only [hk, if_true] at this ⊢; exact this
        · simp only [hk, if_false] at this ⊢; exact this
      · rename_i hne
        refine wpX.wpIn (ih hF h hs hX hf hm hr m _ fun c1 a1 e1 hs1 nx1 hf1 hm1 => ?_)
        have := hQ c1 a1 e1 hs1 nx1 hf1 hm1
        obtain ⟨x', fr1, ms1, σ1⟩ := r
        cases x' with
        | normal => exact this
        | ret => exact this
        | exit k => exact absurd h (hne _ _ _ _)
    · rename_i b
      show LoopIn F m P b Q a cx.w
      refine LoopIn.round ?_
      split at h
      · rename_i fr1 ms1 σ1 hx
        refine wpX.wpIn (ih hF hx hs hX hf hm hr m _ fun c1 a1 e1 hs1 nx1 hf1 hm1 => ?_)
        simp only at e1 hf1 hm1
        rw [← e1] at h
        exact ih hF h hs1 (hX.next hs nx1) hf1 hm1 (hr.mono nx1) m Q fun c2 a2 e2 hs2 nx2 hf2 hm2 => hQ c2 a2 e2 hs2 (nx1.trans nx2) hf2 hm2
      · rename_i hne
        refine wpX.wpIn (ih hF h hs hX hf hm hr m _ fun c1 a1 e1 hs1 nx1 hf1 hm1 => ?_)
        have := hQ c1 a1 e1 hs1 nx1 hf1 hm1
        obtain ⟨x', fr1, ms1, σ1⟩ := r
        cases x' with
        | normal => exact absurd h (hne _ _ _)
        | ret => exact this
        | exit k => exact this
    · rename_i g ps assign body
      split at h
      · rename_i gf cap hg
        exact prange_ok hF hc h hs hX hf hm hr (eval_VR hf hg) hQ
      · simp at h
    · simp only [Option.some.injEq] at h; subst h
      exact wpIn_exit (hQ cx a rfl hs (.refl _ _) hf hm)
    · simp only [Option.some.injEq] at h; subst h
      exact wpIn_ret (hQ cx a rfl hs (.refl _ _) hf hm)
    · simp at h

/-- **Whole calls.** -/
theorem pcall_ok {P : Program} {E : PExt} (hE : ExtOk P E) (hP : P.follows .mixedOrders = true) {F : Fence} (hF : Open F P) (n : Nat) : Ok F P (pcall P E n) := ok_of_code hE (pcode_ok hE hP n) hF

end Go.Kz
