/-
  Loops, marks, results: the pieces of a body.
-/
import Derived.Test.YtclleofcjnggaaaDoorKzS
set_option linter.all false
namespace Go.Kz
open Go.RowKit

/-! ### the loop's unfolding -/
section
variable {F : Fence} {n : Nat} {P : Program} {Q : Exit → Act → World → Prop} {a : Act} {w : World}

/-- The loop, its first step done. -/
def LoopIn (F : Fence) (n : Nat) (P : Program) (c : Code) (Q : Exit → Act → World → Prop) (a : Act) (w : World) : Prop :=
  ∀ (b : Frame) (k : List Item) (cs : List Frame), b.roundOf = F.round → F.fn b.fn → F.room (cs.length + 1 + n) →
    ∃ e a' w', Q e a' w' ∧ ArrivesIn (Machine.fenced P F) P (lone (b.atR a (.code c :: .inLoop c :: k)) cs w) b k cs e a' w'

theorem LoopIn.wpIn {c : Code} (h : LoopIn F n P c Q a w) : (Code.loop c).wpIn F n P Q a w := fun b k cs hro hb hr =>
  let ⟨e, a', w', q, r⟩ := h b k cs hro hb hr; ⟨e, a', w', q, .of_steps (.one (fenced_calm hb hr rfl) stepR_loop) r⟩

theorem LoopIn.round {c : Code} (h : c.wpIn F n P (Exit.then (LoopIn F n P c Q) Q) a w) : LoopIn F n P c Q a w := by
  intro b k cs hro hb hr
  obtain ⟨e, a₁, w₁, hq, harr⟩ := h b (.inLoop c :: k) cs hro hb hr
  cases e with
  | normal =>
    obtain ⟨e₂, a₂, w₂, hq₂, harr₂⟩ := hq b k cs hro hb hr
    exact ⟨e₂, a₂, w₂, hq₂, .of_steps (StepsIn.trans harr (.one (fenced_calm hb hr rfl) stepR_inLoop)) harr₂⟩
  | exit id => exact ⟨_, a₁, w₁, hq, .pass (x := .inLoop c) rfl (fun _ _ => .inl (by simp)) harr⟩
  | goto l => exact ⟨_, a₁, w₁, hq, .pass (x := .inLoop c) rfl (fun _ _ => .inl (by simp)) harr⟩
  | ret => exact ⟨_, a₁, w₁, hq, .pass (x := .inLoop c) rfl (fun _ _ => .inl (by simp)) harr⟩
  | panic ch => exact ⟨_, a₁, w₁, hq, .pass (x := .inLoop c) rfl (fun _ _ => .inl (by simp)) harr⟩
  | outgrown => exact ⟨_, a₁, w₁, hq, .pass (x := .inLoop c) rfl (fun _ _ => .inl (by simp)) harr⟩

/-- 'wpIn'; of a loop: its first step done. -/
def wpX (F : Fence) (n : Nat) (P : Program) (c : Code) (Q : Exit → Act → World → Prop) (a : Act) (w : World) : Prop :=
  match c with
  | .loop b => LoopIn F n P b Q a w
  | c => c.wpIn F n P Q a w

theorem wpX.wpIn {c : Code} (h : wpX F n P c Q a w) : c.wpIn F n P Q a w := by
  unfold wpX at h
  split at h
  · exact LoopIn.wpIn h
  · exact h
end

/-! ### marks and rounds -/
/-- The deferred calls of an activation are the marks of its loops. -/
def MR (c : Cx) : List Deferred → List Nat → Prop
  | [], [] => True
  | d :: ds, m :: ms => (∃ b, d.target = .collected b ∧ c.D m ∧ notOwn c.σ[m]? ∧ c.ρ m = .pointer (some ⟨b, 0, none⟩)) ∧ MR c ds ms
  | _, _ => False

theorem MR.mono {fl : Nat} {c c' : Cx} (nx : Nx fl c c') : ∀ {ds : List Deferred} {ms : List Nat}, MR c ds ms → MR c' ds ms
  | [], [], _ => trivial
  | d :: ds, m :: ms, h => by
    obtain ⟨⟨b, h1, h2, h3, h4⟩, h5⟩ := h
    obtain ⟨e, k⟩ := nx.rkeep m h2 h3
    exact ⟨⟨b, h1, nx.dom m h2, k, e.trans h4⟩, MR.mono nx h5⟩
  | [], _ :: _, h => h.elim
  | _ :: _, [], h => h.elim

/-- In which loop's round the code runs. -/
def RdR (F : Fence) (c : Cx) : Option Nat → Prop
  | none => F.round = none
  | some id => ∃ l, F.round = some l ∧ c.D id ∧ notOwn c.σ[id]? ∧ c.ρ id = .pointer (some ⟨l, 0, none⟩)

theorem RdR.mono {fl : Nat} {F : Fence} {c c' : Cx} (nx : Nx fl c c') {rd : Option Nat} (h : RdR F c rd) : RdR F c' rd := by
  cases rd with
  | none => exact h
  | some id =>
    obtain ⟨l, h1, h2, h3, h4⟩ := h
    obtain ⟨e, k⟩ := nx.rkeep id h2 h3
    exact ⟨l, h1, nx.dom id h2, k, e.trans h4⟩

/-- A piece of code is right. -/
def CodeOk (P : Program) (code : PCode) : Prop :=
  ∀ {F : Fence} {rd : Option Nat} {c : Code} {fl : Nat} {fr : List PD} {ms : List Nat} {cx : Cx} {r : PO} {a : Act}, Open F P → code rd c fl fr ms cx.σ = some r → Sr cx → Xw fl cx → FR cx a fr → MR cx a.defers ms → RdR F cx rd →
    ∀ (m : Nat) (Q : Exit → Act → World → Prop), (∀ cx' a', cx'.σ = r.σ → Sr cx' → Nx fl cx cx' → FR cx' a' r.fr → MR cx' a'.defers r.ms → Q r.x.toExit a' cx'.w) → wpX F m P c Q a cx.w

/-! ### results -/
section
variable {P : Program} {c : Cx} {fl : Nat}

theorem presult_ok (hs : Sr c) {a : Act} {fr : List PD} (hf : FR c a fr) {rv : ResultVar} {p : PD} (h : presult P fr c.σ rv = some p) :
    ∃ v, ((match rv with | .tmp t => pure (a.tmps.getD t undef) | .cell x t => do loadVar t (← asAddr (a.tmps.getD x undef)) : Sem Value)).run P c.w = .ok v c.w ∧ VR c v p := by
  cases rv with
  | tmp t =>
    simp only [presult, Option.some.injEq] at h
    subst h
    exact ⟨_, rfl, hf.tmp t⟩
  | cell x t =>
    simp only [presult] at h
    split at h
    · rename_i id off hid
      have hv := hf.tmp x
      rw [hid] at hv
      obtain ⟨v, r, q⟩ := pload_ok (P := P) hs h hv
      obtain ⟨b, e, _⟩ := hv.inv_ptr
      refine ⟨v, ?_, q⟩
      rw [e] at r
      simp only [e, asAddr]
      simpa [Instr.loadAt, Instr.sureAddr] using r
    · simp at h

theorem presults_ok (hs : Sr c) {a : Act} {fr : List PD} (hf : FR c a fr) {f : ResultVar → Sem Value} (hfn : ∀ (rv : ResultVar) (p : PD), presult P fr c.σ rv = some p → ∃ v, (f rv).run P c.w = .ok v c.w ∧ VR c v p) : ∀ {l : List ResultVar} {qs : List PD}, presults P fr c.σ l = some qs →
    ∃ vs : List Value, (l.mapM f).run P c.w = .ok vs c.w ∧ VRs c vs qs
  | [], qs, h => by
    simp only [presults, Option.some.injEq] at h; subst h
    exact ⟨[], by simp [List.mapM_nil], rfl, by simp⟩
  | rv :: l, qs, h => by
    simp only [presults] at h
    split at h
    · rename_i p ps h1 h2
      simp only [Option.some.injEq] at h; subst h
      obtain ⟨v, r, hv⟩ := hfn rv p h1
      obtain ⟨vs, rs, hvs⟩ := presults_ok hs hf hfn h2
      refine ⟨v :: vs, by simp [List.mapM_cons, Sem.run_bind, r, rs, Result.andThen], by simpa using hvs.1, fun i u d hu hd => ?_⟩
      cases i with
      | zero => simp at hu hd; subst hu hd; exact hv
      | succ i => exact hvs.2 i u d (by simpa using hu) (by simpa using hd)
    · simp at h

theorem results_ok (hs : Sr c) {a : Act} {fr : List PD} (hf : FR c a fr) {fn : Func} {qs : List PD} (h : presults P fr c.σ fn.results.toList = some qs) : ∃ v, (results fn a.tmps).run P c.w = .ok v c.w ∧ VR c v (ptuple qs) := by
  obtain ⟨vs, r, hv⟩ := presults_ok hs hf (fun rv p => presult_ok hs hf) h
  unfold results
  rw [Array.mapM_eq_mapM_toList]
  rw [map_eq_pure_bind]
  simp only [Sem.run_bind]
  generalize hg : Sem.run P (List.mapM _ fn.results.toList) c.w = res
  have e : res = .ok vs c.w := hg.symm.trans r
  subst e
  simp only [Result.andThen, Sem.run_pure]
  have hl := hv.1
  by_cases h1 : vs.length = 1
  · obtain ⟨v, rfl⟩ : ∃ v, vs = [v] := by
      match vs, h1 with
      | [v], _ => exact ⟨v, rfl⟩
    obtain ⟨p, rfl⟩ : ∃ p, qs = [p] := by
      match qs, hl with
      | [p], _ => exact ⟨p, rfl⟩
    exact ⟨v, by simp, hv.2 0 v p rfl rfl⟩
  · have e : ptuple qs = .tup qs := by
      match qs, hl with
      | [], _ => rfl
      | [p], hl => exact absurd hl h1
      | _ :: _ :: _, _ => rfl
    rw [e]
    refine ⟨.tuple vs.toArray, ?_, .tup vs qs hv.1 hv.2⟩
    rw [dif_neg (by simpa using h1)]
end
end Go.Kz
