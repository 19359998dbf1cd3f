/-
  One operation, calls and all; a region in its written order.
-/
import Derived.Test.YtclleofcjnggaaaDoorKzN
import Derived.OrdersIn
set_option linter.all false
namespace Go.Kz
open Go.RowKit

def Gives (fl : Nat) (c : Cx) (p : PD) (σ' : List SObj) : Ending → World → Prop
  | .returned v, w' => Leaves fl c p σ' v w'
  | _, _ => False

/-- The pure calls are right. -/
structure Ok (F : Fence) (P : Program) (call : PCall) : Prop where
  fn : ∀ {fl : Nat} {f : FuncId} {args : List PD} {c : Cx} {vs : List Value} {p : PD} {σ' : List SObj}, call fl (.inl f) args c.σ = some (p, σ') → Sr c → Xw fl c → VRs c vs args →
    (∃ fn, P.funcs[f]? = some fn ∧ fn.body.isSome = true) ∧ ∀ m, CallsIn F m P f vs.toArray c.w (Gives fl c p σ')
  round : ∀ {fl id l : Nat} {args : List PD} {c : Cx} {vs : List Value} {p : PD} {σ' : List SObj}, call fl (.inr id) args c.σ = some (p, σ') → Sr c → Xw fl c → VRs c vs args → c.D id → c.ρ id = .pointer (some ⟨l, 0, none⟩) →
    ∃ g tmps as bd, (Instr.yield l vs.toArray).run P c.w = .ok (.round l g tmps as bd) c.w ∧ ∀ m, RoundIn F m P l g tmps as bd c.w (Gives fl c p σ')

theorem Ok.inRound {F : Fence} {P : Program} {call : PCall} (h : Ok F P call) (l : Nat) : Ok (F.inRound l) P call :=
  ⟨fun h1 h2 h3 h4 => h.fn h1 h2 h3 h4, fun h1 h2 h3 h4 h5 h6 => h.round h1 h2 h3 h4 h5 h6⟩

/-- A fence that lets all in. -/
structure Open (F : Fence) (P : Program) : Prop where
  fn : ∀ f, F.fn f
  depth : F.depth = none
  name : ∀ (f : FuncId) fn, P.funcs[f]? = some fn → (fn.name == "runtime.NumGoroutine") = false

section
variable {F : Fence} {P : Program} {call : PCall} {c : Cx} {fl n : Nat} {Q : Exit → Act → World → Prop}

theorem Open.asks (hF : Open F P) : F.depth.isSome = true → 1 ≤ n := by rw [hF.depth]; intro h; cases h

theorem pstep_ok (hF : Open F P) (hc : Ok F P call) (hs : Sr c) (hX : Xw fl c) {a : Act} {fr : List PD} (hf : FR c a fr) {o : Oper} {p : PD} {σ' : List SObj}
    (h : pstep P call fl fr c.σ o.op = some (p, σ')) {K : Act → World → Prop} (hK : ∀ v w', Leaves fl c p σ' v w' → K (a.put o.dst v) w') : o.wpIn F n P a c.w K Q := by
  have hnd : ∀ d, o.op ≠ .defer d := by
    intro d e
    rw [e] at h
    simp [pstep, pcallee, pop, pval, pmem] at h
  refine ⟨fun f _ => hF.fn f, ?_⟩
  rw [Oper.semAt_eq _ _ _ hnd]
  unfold pstep at h
  split at h
  · rename_i tg args htg
    cases tg with
    | inl f =>
      obtain ⟨vs0, hvs0⟩ : ∃ vs : List Value, VRs c vs args := by
        unfold pcallee at htg
        split at htg
        · split at htg
          · rename_i g args' ts f' cap qs h1 h2
            simp only [Option.some.injEq, Prod.mk.injEq, Sum.inl.injEq] at htg
            obtain ⟨rfl, rfl⟩ := htg
            obtain ⟨cs, e, hcs⟩ := (eval_VR hf h1).inv_func
            exact ⟨_, (evals_VR hf h2).append hcs⟩
          · simp at htg
          · simp at htg
        · simp at htg
      obtain ⟨⟨fn, hfn, hb⟩, _⟩ := hc.fn h hs hX hvs0
      obtain ⟨vs, r, hvs⟩ := pcallee_ok (P := P) hf htg hfn hb (hF.name f fn hfn)
      rw [r]
      refine ⟨hF.asks, CallsIn.mono ((hc.fn h hs hX hvs).2 _) fun e w'' he => ?_⟩
      cases e with
      | returned v => exact hK v w'' he
      | panicked chain => exact he.elim
      | outgrown => exact he.elim
    | inr id =>
      obtain ⟨l, vs, r, hvs, hd, hr⟩ := pcallee_yield (P := P) hf htg
      obtain ⟨g, tmps, as, bd, ry, hround⟩ := hc.round h hs hX hvs hd hr
      rw [r, ry]
      refine ⟨hF.asks, RoundIn.mono (hround _) fun e w'' he => ?_⟩
      cases e with
      | returned v => exact hK v w'' he
      | panicked chain => exact he.elim
      | outgrown => exact he.elim
  · obtain ⟨v, w', hy, hl⟩ := pop_ok (P := P) hs hX hf h
    rcases hy with hy | ⟨hy, rfl⟩
    · rw [hy]; exact hK v w' hl
    · rw [hy]; exact hK undef w' hl

/-- The slot is written. -/
theorem FR.put {a : Act} {fr : List PD} (hf : FR c a fr) {v : Value} {p : PD} (hv : VR c v p) (dst : Option Tmp) : FR c (a.put dst v) (pput fr dst p) := by
  cases dst with
  | none => exact hf
  | some d =>
    refine ⟨⟨by simpa [Act.put, pput] using hf.1.1, fun i u q h1 h2 => ?_⟩, hf.2⟩
    simp only [Act.put, pput, Array.toList_setIfInBounds, List.getElem?_set] at h1 h2
    by_cases e : d = i
    · subst e
      simp only [if_true] at h1 h2
      split at h1
      · split at h2
        · simp only [Option.some.injEq] at h1 h2; subst h1 h2; exact hv
        · simp at h2
      · simp at h1
    · rw [if_neg e] at h1 h2
      exact hf.1.2 i u q h1 h2

theorem VR.undef (c : Cx) : VR c undef (.tup []) := .tup [] [] rfl (fun i v d h => by simp at h)

theorem VR.bool_iff {v : Value} {p : PD} (h : VR c v p) (b : Bool) : v = .bool b ↔ p = .bool b := by
  constructor
  · rintro rfl; cases h; rfl
  · rintro rfl; cases h; rfl

/-- Who looks on the guard sees the same. -/
theorem yielded_eq {a : Act} {fr : List PD} (hf : FR c a fr) (ops : Array Oper) (j : Nat) : yielded ops a.tmps j = pyield ops fr j := by
  unfold yielded pyield
  cases hd : (ops[j]?).bind (·.dst) with
  | none => rfl
  | some d =>
    simp only [Option.bind_some]
    have hl := hf.1.1
    rcases Nat.lt_or_ge d fr.length with hlt | hge
    · have hlt' : d < a.tmps.toList.length := by rw [hl]; exact hlt
      have e1 : a.tmps[d]? = some (a.tmps.toList[d]) := by rw [← Array.getElem?_toList]; exact List.getElem?_eq_getElem hlt'
      have e2 : fr[d]? = some fr[d] := List.getElem?_eq_getElem hlt
      have hv := hf.1.2 d _ _ (List.getElem?_eq_getElem hlt') e2
      rw [e1, e2]
      cases hx : fr[d] with
      | bool b => rw [hx] at hv; rw [(hv.bool_iff b).2 rfl]
      | _ =>
        rw [hx] at hv
        cases hy : a.tmps.toList[d] with
        | bool b => rw [hy] at hv; cases hv
        | _ => rfl
    · have e1 : a.tmps[d]? = none := by rw [← Array.getElem?_toList]; exact List.getElem?_eq_none (by rw [hl]; exact hge)
      rw [e1, List.getElem?_eq_none hge]

theorem wanted_eq {a : Act} {fr : List PD} (hf : FR c a fr) (ops : Array Oper) (o : Oper) : Region.wanted o (yielded ops a.tmps) = Region.wanted o (pyield ops fr) := by
  have : yielded ops a.tmps = pyield ops fr := funext fun j => yielded_eq hf ops j
  rw [this]

/-- A region in its written order. -/
theorem pseq_ok (hF : Open F P) (hc : Ok F P call) {ops : Array Oper} : ∀ (l : List Oper) (i : Nat) (_ : ops.toList.drop i = l) {c : Cx} (_ : Sr c) (_ : Xw fl c) {a : Act} {fr : List PD} (_ : FR c a fr) {fr' : List PD} {σ' : List SObj}
    (_ : pseq P call fl ops l fr c.σ = some (fr', σ'))
    (_ : ∀ c' a', c'.σ = σ' → Sr c' → Nx fl c c' → FR c' a' fr' → a'.defers = a.defers → Q .normal a' c'.w), wpOpsIn F n P ops Q (List.range' i l.length) a c.w := by
  intro l
  induction l with
  | nil =>
    intro i _ c hs hX a fr hf fr' σ' h hQ
    simp only [pseq, Option.some.injEq, Prod.mk.injEq] at h
    obtain ⟨rfl, rfl⟩ := h
    exact hQ c a rfl hs (.refl _ _) hf rfl
  | cons o rest ih =>
    intro i hdrop c hs hX a fr hf fr' σ' h hQ
    have hi : i < ops.toList.length := by
      rcases Nat.lt_or_ge i ops.toList.length with h' | h'
      · exact h'
      · rw [List.drop_eq_nil_of_le h'] at hdrop; cases hdrop
    have ho : ops[i]? = some o := by
      have : ops.toList[i]? = some o := by
        have := congrArg List.head? hdrop
        simpa [List.head?_drop] using this
      rw [← Array.getElem?_toList]; exact this
    have hdrop' : ops.toList.drop (i + 1) = rest := by
      rw [← List.drop_drop, hdrop]; rfl
    simp only [List.length_cons, List.range'_succ, wpOpsIn, ho]
    rw [wanted_eq hf]
    simp only [pseq] at h
    split at h
    · rename_i hw
      rw [if_pos hw]
      split at h
      · rename_i p σ1 hst
        refine pstep_ok hF hc hs hX hf hst fun v w' hl => ?_
        obtain ⟨c', rfl, rfl, hs', nx, hv, _⟩ := hl
        exact ih (i + 1) hdrop' hs' (hX.next hs nx) ((hf.mono nx).put hv _) h
          (fun c'' a'' e1 e2 e3 e4 e5 => hQ c'' a'' e1 e2 (nx.trans e3) e4 (e5.trans (by cases o.dst <;> rfl)))
      · simp at h
    · rename_i hw
      rw [if_neg hw]
      refine ⟨fun f _ => hF.fn f, ?_⟩
      exact ih (i + 1) hdrop' hs hX (hf.put (VR.undef c) _) h
        (fun c'' a'' e1 e2 e3 e4 e5 => hQ c'' a'' e1 e2 e3 e4 (e5.trans (by cases o.dst <;> rfl)))

end
end Go.Kz
