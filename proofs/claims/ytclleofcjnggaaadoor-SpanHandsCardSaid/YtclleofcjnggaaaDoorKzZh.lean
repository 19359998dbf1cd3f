/-
  Ranges over functions with the loop's record held abstract.
-/
import Derived.Test.YtclleofcjnggaaaDoorKzZg
set_option linter.all false
namespace Go.Kz

section
variable {P : Program} {E : PExt} {rd : Option Nat} {fl : Nat} {fr frA : List PD} {ms : List Nat} {σ : List SObj} {Q : PO → Prop}

/-- How a round ends. -/
def RoundR (R : PD → List SObj → Prop) (id : Nat) (L : SObj) (fr0 : List PD) (ps : List Tmp) (as bd : Code) (r : PO) : Prop :=
  match r.x with
  | .normal => R (.bool true) (r.σ.set id L)
  | .ret => R (.bool false) (r.σ.set id (.loop (.done .ret) fr0 ps as bd))
  | .exit k => R (.bool false) (r.σ.set id (.loop (.done (.exit k)) fr0 ps as bd))

theorem WpC.roundL {id : Nat} {args : List PD} {R : PD → List SObj → Prop} {fr0 : List PD} {ps : List Tmp} {as bd : Code} {L : SObj} (hL : L = .loop .ready fr0 ps as bd) (hfl : fl ≤ id) (h0 : σ[id]? = some L) (hl : args.length = ps.length) (hfr : pargs fr0 ps args = frA)
    (h : ∀ LB, LB = SObj.loop .busy fr0 ps as bd → Wp P E (some id) as fl frA [] σ (fun r => r.x = .normal ∧ r.σ[id]? = some L ∧ ∃ σB, r.σ.set id LB = σB ∧
      Wp P E (some id) bd fl r.fr r.ms σB (fun r2 => r2.σ[id]? = some LB ∧ RoundR R id L fr0 ps as bd r2))) : WpC P E fl (.inr id) args σ R := by
  subst hL hfr
  refine WpC.round hfl h0 hl ((h _ rfl).mono fun r hr => ?_)
  obtain ⟨e1, e2, σB, rfl, hw⟩ := hr
  refine ⟨e1, _, _, _, _, e2, hw.mono fun r2 h2 => ⟨_, _, _, _, h2.1, ?_⟩⟩
  have h3 := h2.2
  unfold RoundR at h3
  split at h3 <;> rename_i hx <;> simp only [hx] <;> exact h3

theorem Wp.rangeFuncL {g : Operand} {ps : Array Tmp} {as bd : Code} {gf : FuncId} {cap : List PD} {K : List SObj → Prop} {items : List (List PD)} {n : Nat} {σ1 : SObj → List SObj} (hit : Iter P E gf cap K items) (hg : evalO fr g = some (.func gf cap)) (hn : σ.length = n) (hfl : fl ≤ n)
    (hσ : ∀ L, σ ++ [.mark] ++ [L] = σ1 L)
    (h : ∀ L, L = SObj.loop .ready fr ps.toList as bd → RoundsQ P E fl (n + 1) K items (σ1 L) (fun σ2 => ∃ r, pleave (n + 1) fr (n :: ms) σ2 = some r ∧ Q r)) : Wp P E none (.rangeFunc g ps as bd) fl fr ms σ Q := by
  subst hn
  have := h _ rfl
  rw [← hσ] at this
  exact Wp.rangeFunc (evalO_ok hg) hfl hit this

theorem RoundsQ.ind {α : Type} {id : Nat} {K R : List SObj → Prop} (item : α → List PD) (I : List α → List α → List SObj → Prop)
    (h : ∀ done a rest σ, I done (a :: rest) σ → K σ ∧ WpC P E fl (.inr id) (item a) σ (fun p σ1 => (p = .bool true ∧ I (done ++ [a]) rest σ1) ∨ (p = .bool false ∧ R σ1))) (h0 : ∀ done σ, I done [] σ → K σ ∧ R σ) :
    ∀ rest done σ, I done rest σ → RoundsQ P E fl id K (rest.map item) σ R
  | [], done, σ, hi => .nil (h0 done σ hi).1 (h0 done σ hi).2
  | a :: rest, done, σ, hi => .cons (h done a rest σ hi).1 ((h done a rest σ hi).2.mono fun p σ1 hp => hp.imp (fun ⟨e, k⟩ => ⟨e, RoundsQ.ind item I h h0 rest _ _ k⟩) (fun x => x))

end
end Go.Kz
