/-
  Pure runs, with fuel enough: rules for symbolic data.
-/
import Derived.Test.YtclleofcjnggaaaDoorKzX
set_option linter.all false
namespace Go.Kz

section
variable {P : Program} {E : PExt} {rd : Option Nat} {fl : Nat} {fr : List PD} {ms : List Nat} {σ : List SObj} {r : PO}

/-- With fuel enough the code is left so. -/
def Ev (P : Program) (E : PExt) (rd : Option Nat) (c : Code) (fl : Nat) (fr : List PD) (ms : List Nat) (σ : List SObj) (r : PO) : Prop := ∃ N, ∀ n, N ≤ n → pcode P E n rd c fl fr ms σ = some r

/-- With fuel enough the call hands back so. -/
def EvC (P : Program) (E : PExt) (fl : Nat) (f : FuncId ⊕ Nat) (args : List PD) (σ : List SObj) (p : PD) (σ' : List SObj) : Prop := ∃ N, ∀ n, N ≤ n → pcall P E n fl f args σ = some (p, σ')

theorem Ev.step {c : Code} {N : Nat} (h : ∀ n, N ≤ n → pcode P E (n + 1) rd c fl fr ms σ = some r) : Ev P E rd c fl fr ms σ r :=
  ⟨N + 1, fun n hn => by obtain ⟨m, rfl⟩ : ∃ m, n = m + 1 := ⟨n - 1, by omega⟩; exact h m (by omega)⟩

theorem Ev.skip : Ev P E rd .skip fl fr ms σ ⟨.normal, fr, ms, σ⟩ := .step (N := 0) fun _ _ => rfl
theorem Ev.ret : Ev P E rd .ret fl fr ms σ ⟨.ret, fr, ms, σ⟩ := .step (N := 0) fun _ _ => rfl
theorem Ev.exit {id : Nat} : Ev P E rd (.exit id) fl fr ms σ ⟨.exit id, fr, ms, σ⟩ := .step (N := 0) fun _ _ => rfl

theorem Ev.seq {x y : Code} {fr1 : List PD} {ms1 : List Nat} {σ1 : List SObj} (h : Ev P E rd x fl fr ms σ ⟨.normal, fr1, ms1, σ1⟩) (k : Ev P E rd y fl fr1 ms1 σ1 r) : Ev P E rd (.seq x y) fl fr ms σ r := by
  obtain ⟨N, h⟩ := h
  obtain ⟨M, k⟩ := k
  exact .step (N := max N M) fun n hn => by simp only [pcode, h n (by omega)]; exact k n (by omega)

theorem Ev.seq_out {x y : Code} (h : Ev P E rd x fl fr ms σ r) (hr : r.x ≠ .normal) : Ev P E rd (.seq x y) fl fr ms σ r := by
  obtain ⟨N, h⟩ := h
  exact .step (N := N) fun n hn => by
    simp only [pcode, h n hn]
    obtain ⟨x, a, b, c⟩ := r
    cases x <;> first | exact absurd rfl hr | rfl

theorem Ev.cond {g : Operand} {x y : Code} {b : Bool} (hg : peval fr g = some (.bool b)) (h : Ev P E rd (if b then x else y) fl fr ms σ r) : Ev P E rd (.cond g x y) fl fr ms σ r := by
  obtain ⟨N, h⟩ := h
  exact .step (N := N) fun n hn => by
    simp only [pcode, hg]
    cases b <;> exact h n hn

theorem Ev.block {id : Nat} {b : Code} {fr1 : List PD} {ms1 : List Nat} {σ1 : List SObj} {k : Nat} (h : Ev P E rd b fl fr ms σ ⟨.exit k, fr1, ms1, σ1⟩) : Ev P E rd (.block id b) fl fr ms σ ⟨if k = id then .normal else .exit k, fr1, ms1, σ1⟩ := by
  obtain ⟨N, h⟩ := h
  exact .step (N := N) fun n hn => by simp only [pcode, h n hn]

theorem Ev.block_other {id : Nat} {b : Code} (h : Ev P E rd b fl fr ms σ r) (hr : ∀ k, r.x ≠ .exit k) : Ev P E rd (.block id b) fl fr ms σ r := by
  obtain ⟨N, h⟩ := h
  exact .step (N := N) fun n hn => by
    simp only [pcode, h n hn]
    obtain ⟨x, a, b, c⟩ := r
    cases x <;> first | exact absurd rfl (hr _) | rfl

theorem Ev.loop {b : Code} {fr1 : List PD} {ms1 : List Nat} {σ1 : List SObj} (h : Ev P E rd b fl fr ms σ ⟨.normal, fr1, ms1, σ1⟩) (k : Ev P E rd (.loop b) fl fr1 ms1 σ1 r) : Ev P E rd (.loop b) fl fr ms σ r := by
  obtain ⟨N, h⟩ := h
  obtain ⟨M, k⟩ := k
  exact .step (N := max N M) fun n hn => by simp only [pcode, h n (by omega)]; exact k n (by omega)

theorem Ev.loop_out {b : Code} (h : Ev P E rd b fl fr ms σ r) (hr : r.x ≠ .normal) : Ev P E rd (.loop b) fl fr ms σ r := by
  obtain ⟨N, h⟩ := h
  exact .step (N := N) fun n hn => by
    simp only [pcode, h n hn]
    obtain ⟨x, a, b, c⟩ := r
    cases x <;> first | exact absurd rfl hr | rfl

/-- A plain region whose calls are all answered by the table. -/
theorem Ev.region {id : Nat} {ops : Array Oper} {fr1 : List PD} {σ1 : List SObj} {N : Nat} (h : ∀ n, N ≤ n → pseq P (pcall P E n) fl ops ops.toList fr σ = some (fr1, σ1)) : Ev P E rd (.region id ops false) fl fr ms σ ⟨.normal, fr1, ms, σ1⟩ :=
  .step (N := N) fun n hn => by
    have := h n hn
    unfold pcall at this
    simp only [pcode, this]

theorem Ev.draw {id : Nat} {ops : Array Oper} {fr1 : List PD} {σ1 : List SObj} {N : Nat} (h : ∀ n, N ≤ n → pdraw P (pcall P E n) fl ops fr σ = some (fr1, σ1)) : Ev P E rd (.region id ops true) fl fr ms σ ⟨.normal, fr1, ms, σ1⟩ :=
  .step (N := N) fun n hn => by
    have := h n hn
    unfold pcall at this
    simp only [pcode, this]

/-- A call out of its body. -/
theorem EvC.body {f : FuncId} {fn : Func} {c : Code} {args : List PD} {p : PD} {σ' : List SObj} (hE : E f = none) (hf : P.funcs[f]? = some fn) (hb : fn.body = some c)
    (h : Ev P E none c fl (args ++ List.replicate (fn.ntmps - args.length) (.tup [])) [] σ r) (hr : pfinish P fl fn r = some (p, σ')) : EvC P E fl (.inl f) args σ p σ' := by
  obtain ⟨N, h⟩ := h
  exact ⟨N, fun n hn => by simp only [pcall, pcallBy, hE, pbody, hf, hb, h n hn, hr]⟩

theorem EvC.ext {f : FuncId} {g : Nat → List PD → List SObj → Option (PD × List SObj)} {args : List PD} {p : PD} {σ' : List SObj} (hE : E f = some g) (h : g fl args σ = some (p, σ')) : EvC P E fl (.inl f) args σ p σ' :=
  ⟨0, fun n _ => by simp only [pcall, pcallBy, hE, h]⟩

end

/-- One function more in the table. -/
def PExt.add (E : PExt) (f : FuncId) (g : Nat → List PD → List SObj → Option (PD × List SObj)) : PExt := fun f' => if f' = f then some g else E f'

/-- **A function whose pure runs are known may stand in the table.** -/
theorem ExtOk.add {P : Program} {E : PExt} (hE : ExtOk P E) (hP : P.follows .mixedOrders = true) {f : FuncId} {g : Nat → List PD → List SObj → Option (PD × List SObj)}
    (h : ∀ fl args σ p σ', g fl args σ = some (p, σ') → EvC P E fl (.inl f) args σ p σ') : ExtOk P (E.add f g) := by
  intro F fl f' g' args c vs p σ' hF hg hgo hs hX hv
  unfold PExt.add at hg
  split at hg
  · rename_i e
    subst e
    simp only [Option.some.injEq] at hg; subst hg
    obtain ⟨N, hN⟩ := h fl args c.σ p σ' hgo
    exact (pcall_ok hE hP hF N).fn (hN N (Nat.le_refl _)) hs hX hv
  · exact hE hF hg hgo hs hX hv

end Go.Kz
