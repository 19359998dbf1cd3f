/-
  Rules for calls of rounds and of functions known by their runs, for ranges over functions, for iterators.
-/
import Derived.Test.YtclleofcjnggaaaDoorKzZd
set_option linter.all false
namespace Go.Kz

section
variable {P : Program} {E : PExt} {rd : Option Nat} {fl : Nat} {fr : List PD} {ms : List Nat} {σ : List SObj} {Q : PO → Prop} {ops : Array Oper}

/-- The call ends, and R holds of its answer and of the store. -/
structure WpC (P : Program) (E : PExt) (fl : Nat) (f : FuncId ⊕ Nat) (args : List PD) (σ : List SObj) (R : PD → List SObj → Prop) : Prop where
  ex : ∃ p σ', EvC P E fl f args σ p σ' ∧ R p σ'

theorem WpC.mono {f : FuncId ⊕ Nat} {args : List PD} {R R' : PD → List SObj → Prop} (h : WpC P E fl f args σ R) (k : ∀ p σ', R p σ' → R' p σ') : WpC P E fl f args σ R' := by
  obtain ⟨p, σ', h1, h2⟩ := h.ex
  exact ⟨p, σ', h1, k _ _ h2⟩

theorem WpC.of {f : FuncId ⊕ Nat} {args : List PD} {R : PD → List SObj → Prop} {p : PD} {σ' : List SObj} (h : EvC P E fl f args σ p σ') (k : R p σ') : WpC P E fl f args σ R := ⟨p, σ', h, k⟩

/-- The operations run, and R holds of frame and store. -/
structure WpO (P : Program) (E : PExt) (fl : Nat) (ops : Array Oper) (l : List (Bool × Oper)) (fr : List PD) (σ : List SObj) (R : List PD → List SObj → Prop) : Prop where
  ex : ∃ N fr' σ', (∀ n, N ≤ n → pdseq P (pcall P E n) fl ops l fr σ = some (fr', σ')) ∧ R fr' σ'

theorem pseq_pd {call : PCall} : ∀ (l : List Oper) (fr : List PD) (σ : List SObj), pseq P call fl ops l fr σ = pdseq P call fl ops (l.map fun o => (true, o)) fr σ
  | [], _, _ => rfl
  | o :: l, fr, σ => by
    simp only [pseq, pdseq, List.map_cons]
    split
    · cases pstep P call fl fr σ o.op with
      | none => rfl
      | some q => obtain ⟨p, σ'⟩ := q; simp only; exact pseq_pd l _ _
    · exact pseq_pd l _ _

theorem pdseq_append {call : PCall} : ∀ (l l' : List (Bool × Oper)) (fr : List PD) (σ : List SObj), pdseq P call fl ops (l ++ l') fr σ = (match pdseq P call fl ops l fr σ with | some (fr1, σ1) => pdseq P call fl ops l' fr1 σ1 | none => none)
  | [], _, _, _ => rfl
  | (free, o) :: l, l', fr, σ => by
    simp only [List.cons_append, pdseq]
    split
    · cases free with
      | true =>
        simp only
        cases pstep P call fl fr σ o.op with
        | none => rfl
        | some q => obtain ⟨p, σ'⟩ := q; simp only; exact pdseq_append l l' _ _
      | false =>
        simp only
        cases pstep P call (max fl σ.length) fr σ o.op with
        | none => rfl
        | some q => obtain ⟨p, σ'⟩ := q; simp only; exact pdseq_append l l' _ _
    · exact pdseq_append l l' _ _

theorem Wp.regionO {id : Nat} (h : WpO P E fl ops (ops.toList.map fun o => (true, o)) fr σ (fun fr' σ' => Q ⟨.normal, fr', ms, σ'⟩)) : Wp P E rd (.region id ops false) fl fr ms σ Q := by
  obtain ⟨N, fr', σ', h1, h2⟩ := h.ex
  exact ⟨_, .region (N := N) (fun n hn => by rw [pseq_pd]; exact h1 n hn), h2⟩

theorem Wp.drawO {id : Nat} (hs : staticOk ops = true) (h : WpO P E fl ops (flags ops 0 ops.toList) fr σ (fun fr' σ' => Q ⟨.normal, fr', ms, σ'⟩)) : Wp P E rd (.region id ops true) fl fr ms σ Q := by
  obtain ⟨N, fr', σ', h1, h2⟩ := h.ex
  exact ⟨_, .draw (N := N) (fun n hn => by rw [pdraw_static hs]; exact h1 n hn), h2⟩

theorem WpO.nil {R : List PD → List SObj → Prop} (h : R fr σ) : WpO P E fl ops [] fr σ R := ⟨0, fr, σ, fun _ _ => rfl, h⟩

/-- The first k operations, by the table. -/
theorem WpO.take (k : Nat) {l : List (Bool × Oper)} {R : List PD → List SObj → Prop} {fr1 : List PD} {σ1 : List SObj} (h : pdseq P (pcallE E) fl ops (l.take k) fr σ = some (fr1, σ1)) (h2 : WpO P E fl ops (l.drop k) fr1 σ1 R) : WpO P E fl ops l fr σ R := by
  obtain ⟨N, fr', σ', h3, h4⟩ := h2.ex
  refine ⟨N, fr', σ', fun n hn => ?_, h4⟩
  rw [← List.take_append_drop k l, pdseq_append, pdseq_up h]
  exact h3 n hn

/-- One call. -/
theorem WpO.call {l : List (Bool × Oper)} {o : Oper} {R : List PD → List SObj → Prop} {tg : FuncId ⊕ Nat} {args : List PD} (hw : Region.wanted o (pyield ops fr) = true) (hc : pcallee fr o.op = some (tg, args))
    (h : WpC P E fl tg args σ (fun p σ1 => WpO P E fl ops l (pput fr o.dst p) σ1 R)) : WpO P E fl ops ((true, o) :: l) fr σ R := by
  obtain ⟨p, σ1, ⟨N, h1⟩, h2⟩ := h.ex
  obtain ⟨M, fr', σ', h3, h4⟩ := h2.ex
  refine ⟨max N M, fr', σ', fun n hn => ?_, h4⟩
  simp only [pdseq, hw, if_true, pstep, hc, h1 n (by omega)]
  exact h3 n (by omega)

/-! ### rounds -/
theorem WpC.round {id : Nat} {args : List PD} {R : PD → List SObj → Prop} {fr0 : List PD} {ps : List Tmp} {assign body : Code} (hfl : fl ≤ id) (h0 : σ[id]? = some (.loop .ready fr0 ps assign body)) (hl : args.length = ps.length)
    (h : Wp P E (some id) assign fl (pargs fr0 ps args) [] σ (fun r => r.x = .normal ∧ ∃ fr1 ps1 as1 bd1, r.σ[id]? = some (.loop .ready fr1 ps1 as1 bd1) ∧
      Wp P E (some id) body fl r.fr r.ms (r.σ.set id (.loop .busy fr1 ps1 as1 bd1)) (fun r2 => ∃ fr3 ps3 as3 bd3, r2.σ[id]? = some (.loop .busy fr3 ps3 as3 bd3) ∧
        (match r2.x with
          | .normal => R (.bool true) (r2.σ.set id (.loop .ready fr3 ps3 as3 bd3))
          | .ret => R (.bool false) (r2.σ.set id (.loop (.done .ret) fr3 ps3 as3 bd3))
          | .exit k => R (.bool false) (r2.σ.set id (.loop (.done (.exit k)) fr3 ps3 as3 bd3)))))) : WpC P E fl (.inr id) args σ R := by
  obtain ⟨⟨x1, f1, m1, s1⟩, ⟨N, h1⟩, h2, fr1, ps1, as1, bd1, h3, h4⟩ := h.ex
  simp only at h2 h3 h4
  subst h2
  obtain ⟨⟨x2, f2, m2, s2⟩, ⟨M, h5⟩, fr3, ps3, as3, bd3, h6, h7⟩ := h4.ex
  simp only at h6 h7
  cases x2 <;> refine ⟨_, _, ⟨max N M, fun n hn => ?_⟩, h7⟩ <;> simp only [pcall, pcallBy, pround, hfl, if_true, h0, hl, h1 n (by omega), h3, h5 n (by omega), h6]

/-- The rounds of a loop over some items, and what holds of the store behind them. -/
inductive Rounds (P : Program) (E : PExt) (fl id : Nat) (K : List SObj → Prop) : List (List PD) → List SObj → List SObj → Prop
  | nil {σ : List SObj} : K σ → Rounds P E fl id K [] σ σ
  | more {a : List PD} {rest : List (List PD)} {σ σ1 σ2 : List SObj} : K σ → EvC P E fl (.inr id) a σ (.bool true) σ1 → Rounds P E fl id K rest σ1 σ2 → Rounds P E fl id K (a :: rest) σ σ2
  | stop {a : List PD} {rest : List (List PD)} {σ σ1 : List SObj} : K σ → EvC P E fl (.inr id) a σ (.bool false) σ1 → Rounds P E fl id K (a :: rest) σ σ1

structure RoundsQ (P : Program) (E : PExt) (fl id : Nat) (K : List SObj → Prop) (items : List (List PD)) (σ : List SObj) (R : List SObj → Prop) : Prop where
  ex : ∃ σ2, Rounds P E fl id K items σ σ2 ∧ R σ2

theorem RoundsQ.nil {id : Nat} {K R : List SObj → Prop} (h : K σ) (k : R σ) : RoundsQ P E fl id K [] σ R := ⟨σ, .nil h, k⟩
theorem RoundsQ.cons {id : Nat} {K R : List SObj → Prop} {a : List PD} {rest : List (List PD)} (h : K σ) (k : WpC P E fl (.inr id) a σ (fun p σ1 => (p = .bool true ∧ RoundsQ P E fl id K rest σ1 R) ∨ (p = .bool false ∧ R σ1))) : RoundsQ P E fl id K (a :: rest) σ R := by
  obtain ⟨p, σ1, h1, h2⟩ := k.ex
  rcases h2 with ⟨rfl, h2⟩ | ⟨rfl, h2⟩
  · obtain ⟨σ2, h3, h4⟩ := h2.ex
    exact ⟨σ2, .more h h1 h3, h4⟩
  · exact ⟨σ1, .stop h h1, h2⟩

/-- The function yields the items, where K holds of the store. -/
def Iter (P : Program) (E : PExt) (gf : FuncId) (cap : List PD) (K : List SObj → Prop) (items : List (List PD)) : Prop :=
  ∀ fl id σ σ2, Rounds P E fl id K items σ σ2 → ∃ q, EvC P E fl (.inl gf) (.yield id :: cap) σ q σ2

theorem Wp.rangeFunc {g : Operand} {ps : Array Tmp} {assign body : Code} {gf : FuncId} {cap : List PD} {K : List SObj → Prop} {items : List (List PD)} (hg : peval fr g = some (.func gf cap)) (hfl : fl ≤ σ.length) (hit : Iter P E gf cap K items)
    (h : RoundsQ P E fl (σ.length + 1) K items (σ ++ [.mark] ++ [.loop .ready fr ps.toList assign body]) (fun σ2 => ∃ r, pleave (σ.length + 1) fr (σ.length :: ms) σ2 = some r ∧ Q r)) :
    Wp P E none (.rangeFunc g ps assign body) fl fr ms σ Q := by
  obtain ⟨σ2, h1, r, h2, h3⟩ := h.ex
  obtain ⟨q, N, h4⟩ := hit _ _ _ _ h1
  refine ⟨r, .step (N := N) fun n hn => ?_, h3⟩
  have := h4 n hn
  unfold pcall at this
  simp only [pcode, hg, prange, hfl, if_true, this]
  exact h2

theorem Wp.rangeFunc_in {l : Nat} {g : Operand} {ps : Array Tmp} {assign body : Code} {gf : FuncId} {cap : List PD} {K : List SObj → Prop} {items : List (List PD)} {st : LSt} {fr0 : List PD} {ps0 : List Tmp} {as0 bd0 : Code} (hl : σ[l]? = some (.loop st fr0 ps0 as0 bd0))
    (hg : peval fr g = some (.func gf cap)) (hfl : fl ≤ σ.length) (hit : Iter P E gf cap K items)
    (h : RoundsQ P E fl σ.length K items (σ ++ [.loop .ready fr ps.toList assign body]) (fun σ2 => ∃ r, pleave σ.length fr ms σ2 = some r ∧ Q r)) :
    Wp P E (some l) (.rangeFunc g ps assign body) fl fr ms σ Q := by
  obtain ⟨σ2, h1, r, h2, h3⟩ := h.ex
  obtain ⟨q, N, h4⟩ := hit _ _ _ _ h1
  refine ⟨r, .step (N := N) fun n hn => ?_, h3⟩
  have := h4 n hn
  unfold pcall at this
  simp only [pcode, hg, prange, hfl, if_true, hl, this]
  exact h2

/-- A body run for an exact answer, in any store. -/
theorem WpC.body {f : FuncId} {fn : Func} {c : Code} {args : List PD} {R : PD → List SObj → Prop} (hE : E f = none) (hf : P.funcs[f]? = some fn) (hb : fn.body = some c)
    (h : Wp P E none c fl (args ++ List.replicate (fn.ntmps - args.length) (.tup [])) [] σ (fun r => ∃ p1 σ1, pfinish P fl fn r = some (p1, σ1) ∧ R p1 σ1)) : WpC P E fl (.inl f) args σ R := by
  obtain ⟨r, h1, p1, σ1, h2, h3⟩ := h.ex
  exact ⟨p1, σ1, .body hE hf hb h1 h2, h3⟩

end
/-- All calls and appends stand loose of no load. -/
def allFree (ops : Array Oper) : Bool := (flags ops 0 ops.toList).all fun x => x.1

theorem pdseq_free {P : Program} {call : PCall} {fl : Nat} {ops : Array Oper} : ∀ (l : List (Bool × Oper)) (fr : List PD) (σ : List SObj), l.all (fun x => x.1) = true → pdseq P call fl ops l fr σ = pseq P call fl ops (l.map Prod.snd) fr σ
  | [], _, _, _ => rfl
  | (free, o) :: l, fr, σ, h => by
    simp only [List.all_cons, Bool.and_eq_true] at h
    obtain ⟨h1, h2⟩ := h
    subst h1
    simp only [pseq, pdseq, List.map_cons]
    split
    · cases pstep P call fl fr σ o.op with
      | none => rfl
      | some q => obtain ⟨p, σ'⟩ := q; simp only; exact pdseq_free l _ _ h2
    · exact pdseq_free l _ _ h2

theorem flags_snd (ops : Array Oper) : ∀ (l : List Oper) (i : Nat), (flags ops i l).map Prod.snd = l
  | [], _ => rfl
  | o :: l, i => by simp only [flags, List.map_cons, flags_snd ops l (i + 1)]

theorem pdraw_free {P : Program} {call : PCall} {fl : Nat} {ops : Array Oper} (hs : (staticOk ops && allFree ops) = true) (fr : List PD) (σ : List SObj) : pdraw P call fl ops fr σ = pseq P call fl ops ops.toList fr σ := by
  simp only [Bool.and_eq_true] at hs
  rw [pdraw_static hs.1, pdseq_free _ _ _ hs.2, flags_snd]

/-- What keeps an empty store keeps every store. -/
def Uni (E : PExt) : Prop := ∀ f g args p, E f = some g → g 0 args [] = some (p, []) → ∀ fl σ, g fl args σ = some (p, σ)

/-- Calls that leave the store alone. -/
def pcallP (E : PExt) : PCall
  | _, .inl f, args, σ => match E f with
    | some g => match g 0 args [] with
      | some (p, []) => some (p, σ)
      | _ => none
    | none => none
  | _, .inr _, _, _ => none

/-- Neither boxes nor appends. -/
def noOwn (ops : Array Oper) : Bool := ops.toList.all fun o => match o.op with
  | .box .. => false
  | .call { callee := .builtin .append, .. } => false
  | _ => true

theorem pstep_pure {P : Program} {E : PExt} (hU : Uni E) {fl fl' : Nat} {fr : List PD} {σ : List SObj} {op : Op} {x : PD × List SObj} (hop : (match op with
  | .box .. => false
  | .call { callee := .builtin .append, .. } => false
  | _ => true) = true) (hm : shapeMove op = true) (h : pstep P (pcallP E) fl fr σ op = some x) : pstep P (pcallE E) fl' fr σ op = some x ∧ x.2 = σ := by
  unfold pstep at *
  cases hc : pcallee fr op with
  | some q =>
    obtain ⟨tg, args⟩ := q
    simp only [hc] at h ⊢
    cases tg with
    | inr id => cases h
    | inl f =>
      simp only [pcallP] at h
      split at h
      · rename_i g hg
        split at h
        · rename_i p hp
          simp only [Option.some.injEq] at h; subst h
          simp only [pcallE, hg]
          exact ⟨hU f g args p hg hp fl' σ, by trivial⟩
        · cases h
      · cases h
  | none =>
    simp only [hc] at h ⊢
    exfalso
    cases op with
    | box t x => cases hop
    | call c =>
      obtain ⟨callee, args, ts⟩ := c
      cases callee with
      | value f => simp [pop, pval, pmem] at h
      | invoke r m => simp [shapeMove] at hm
      | builtin b => cases b <;> first | (simp [shapeMove] at hm; done) | cases hop
    | _ => simp [shapeMove] at hm

theorem pstep_nocall {P : Program} {call call' : PCall} {fl : Nat} {fr : List PD} {σ : List SObj} {op : Op} (hm : shapeMove op = false) : pstep P call fl fr σ op = pstep P call' fl fr σ op := by
  unfold pstep
  have : pcallee fr op = none := by
    cases op with
    | call c =>
      obtain ⟨callee, args, ts⟩ := c
      cases callee with
      | value f => simp [shapeMove] at hm
      | invoke r m => rfl
      | builtin b => rfl
    | _ => rfl
  rw [this]

theorem pdseq_pure {P : Program} {E : PExt} (hU : Uni E) {fl : Nat} {ops : Array Oper} : ∀ (l : List Oper) (i : Nat) (fr : List PD) (σ : List SObj) (x : List PD × List SObj), l.all (fun o => match o.op with
  | .box .. => false
  | .call { callee := .builtin .append, .. } => false
  | _ => true) = true → pseq P (pcallP E) fl ops l fr σ = some x → pdseq P (pcallE E) fl ops (flags ops i l) fr σ = some x
  | [], _, _, _, _, _, h => h
  | o :: l, i, fr, σ, x, ho, h => by
    simp only [List.all_cons, Bool.and_eq_true] at ho
    simp only [pseq] at h
    simp only [flags, pdseq]
    split at h
    · rename_i hw
      rw [if_pos hw]
      split at h
      · rename_i p σ1 hp
        cases hm : shapeMove o.op with
        | false =>
          rw [pstep_nocall (call' := pcallE E) hm] at hp
          simp only [Bool.not_false, Bool.true_or, hp]
          exact pdseq_pure hU l (i + 1) _ _ _ ho.2 h
        | true =>
          cases freeAt ops i with
          | true =>
            have := (pstep_pure hU (fl' := fl) ho.1 hm hp).1
            simp only [Bool.or_true, this]
            exact pdseq_pure hU l (i + 1) _ _ _ ho.2 h
          | false =>
            obtain ⟨e1, e2⟩ := pstep_pure hU (fl' := max fl σ.length) ho.1 hm hp
            simp only at e2
            subst e2
            simp only [Bool.not_true, Bool.or_self, e1, List.drop_length, List.append_nil]
            exact pdseq_pure hU l (i + 1) _ _ _ ho.2 h
      · cases h
    · rename_i hw
      rw [if_neg hw]
      exact pdseq_pure hU l (i + 1) _ _ _ ho.2 h

theorem Uni.entry {E : PExt} (hU : Uni E) {f : FuncId} {g : List PD → Option PD} : Uni (E.add f (entry g)) := by
  intro f' g' args p hE h fl σ
  unfold PExt.add at hE
  split at hE
  · simp only [Option.some.injEq] at hE; subst hE
    unfold Go.Kz.entry at h ⊢
    cases hg : g args with
    | none => simp only [hg] at h; cases h
    | some q =>
      simp only [hg, Option.some.injEq, Prod.mk.injEq, and_true] at h
      subst h
      rfl
  · exact hU f' g' args p hE h fl σ

theorem Uni.none : Uni (fun _ => Option.none) := fun _ _ _ _ h => by cases h

/-- An entry that always makes something new. -/
theorem Uni.other {E : PExt} (hU : Uni E) {f : FuncId} {g : Nat → List PD → List SObj → Option (PD × List SObj)} (hg : ∀ args p, g 0 args [] ≠ some (p, [])) : Uni (E.add f g) := by
  intro f' g' args p hE h fl σ
  unfold PExt.add at hE
  split at hE
  · simp only [Option.some.injEq] at hE; subst hE
    exact absurd h (hg _ _)
  · exact hU f' g' args p hE h fl σ

/-! ### the static checks, in an order that the kernel likes -/
def force {α : Type} (n : Nat) (f : Nat → α) : α := match n with | 0 => f 0 | k + 1 => f (k + 1)
theorem force_eq {α : Type} (n : Nat) (f : Nat → α) : force n f = f n := by cases n <;> rfl
def snocF {α : Type} : List Nat → Nat → (List Nat → α) → α
  | [], m, f => f [m]
  | x :: xs, m, f => snocF xs m fun ys => f (x :: ys)
theorem snocF_eq {α : Type} : ∀ (l : List Nat) (m : Nat) (f : List Nat → α), snocF l m f = f (l ++ [m])
  | [], _, _ => rfl
  | x :: xs, m, f => by rw [snocF, snocF_eq xs]; rfl
def masksK {α : Type} : List Oper → List Nat → (List Nat → α) → α
  | [], acc, f => f acc
  | o :: r, acc, f => force (maskOf acc o) fun m => snocF acc m fun acc' => masksK r acc' f
theorem masksK_eq {α : Type} : ∀ (l : List Oper) (acc : List Nat) (f : List Nat → α), masksK l acc f = f (masks l acc)
  | [], _, _ => rfl
  | o :: r, acc, f => by rw [masksK, force_eq, snocF_eq, masksK_eq r]; rfl

def fastOk (ops : Array Oper) : Bool := masksK ops.toList [] fun ms =>
  regOk ops ms && ops.toList.all (fun o => !shapeAlloc o.op) &&
  (List.range ops.size).all fun k => !isAt shapeStore ops.toList k || (List.range ops.size).all fun i => !isAt shapeLoad ops.toList i || !loose ms i k
theorem fastOk_eq (ops : Array Oper) : fastOk ops = staticOk ops := by rw [fastOk, masksK_eq]; rfl

def fastFree (ops : Array Oper) : Bool := masksK ops.toList [] fun ms =>
  (List.range ops.size).all fun i => !isAt shapeMove ops.toList i || noLoose ops.toList ms i

theorem fastFree_ok {ops : Array Oper} (h : fastFree ops = true) : allFree ops = true := by
  rw [fastFree, masksK_eq] at h
  simp only [List.all_eq_true, List.mem_range, Bool.or_eq_true, Bool.not_eq_true'] at h
  unfold allFree
  have key : ∀ (l : List Oper) (i : Nat), ops.toList.drop i = l → (flags ops i l).all (fun x => x.1) = true := by
    intro l
    induction l with
    | nil => intro _ _; rfl
    | cons o r ih =>
      intro i hd
      have ho : ops.toList[i]? = some o := by
        have := congrArg List.head? hd
        rw [List.head?_drop] at this
        simpa using this
      have hd' : ops.toList.drop (i + 1) = r := by rw [← List.drop_drop, hd]; rfl
      have hi : i < ops.size := by
        have := (List.getElem?_eq_some_iff.1 ho).1
        simpa using this
      simp only [flags, List.all_cons, Bool.and_eq_true, Bool.or_eq_true, Bool.not_eq_true']
      refine ⟨?_, ih (i + 1) hd'⟩
      have := h i hi
      rw [isAt, ho] at this
      simpa [freeAt] using this
  exact key _ 0 (by simp)

theorem fast_both {ops : Array Oper} (h : (fastOk ops && fastFree ops) = true) : (staticOk ops && allFree ops) = true := by
  simp only [Bool.and_eq_true, fastOk_eq] at h ⊢
  exact ⟨h.1, fastFree_ok h.2⟩

section
variable {P : Program} {E : PExt} {rd : Option Nat} {fl : Nat} {fr : List PD} {ms : List Nat} {σ : List SObj} {Q : PO → Prop} {ops : Array Oper}
theorem Wp.drawF {id : Nat} {fr1 : List PD} {σ1 : List SObj} (hs : (fastOk ops && fastFree ops) = true) (h : pseq P (pcallE E) fl ops ops.toList fr σ = some (fr1, σ1)) (k : Q ⟨.normal, fr1, ms, σ1⟩) : Wp P E rd (.region id ops true) fl fr ms σ Q :=
  ⟨_, .draw (N := 0) (fun _ _ => by rw [pdraw_free (fast_both hs)]; exact pseq_up h), k⟩
theorem Wp.drawFO {id : Nat} (hs : (fastOk ops && fastFree ops) = true) (h : WpO P E fl ops (ops.toList.map fun o => (true, o)) fr σ (fun fr' σ' => Q ⟨.normal, fr', ms, σ'⟩)) : Wp P E rd (.region id ops true) fl fr ms σ Q := by
  obtain ⟨N, fr', σ', h1, h2⟩ := h.ex
  exact ⟨_, .draw (N := N) (fun n hn => by rw [pdraw_free (fast_both hs), pseq_pd]; exact h1 n hn), h2⟩
/-- No call moves the store on. -/
theorem Wp.drawP {id : Nat} {fr1 : List PD} {σ1 : List SObj} (hU : Uni E) (hs : (fastOk ops && noOwn ops) = true) (h : pseq P (pcallP E) fl ops ops.toList fr σ = some (fr1, σ1)) (k : Q ⟨.normal, fr1, ms, σ1⟩) : Wp P E rd (.region id ops true) fl fr ms σ Q := by
  simp only [Bool.and_eq_true, fastOk_eq] at hs
  exact .draw hs.1 (pdseq_pure hU _ 0 _ _ _ hs.2 h) k
/-- Where some call stands loose of a load. -/
theorem Wp.drawB {id : Nat} (bs : List Bool) {fr1 : List PD} {σ1 : List SObj} (hs : (staticOk ops && (flags ops 0 ops.toList).map Prod.fst == bs) = true) (h : pdseq P (pcallE E) fl ops (bs.zip ops.toList) fr σ = some (fr1, σ1)) (k : Q ⟨.normal, fr1, ms, σ1⟩) :
    Wp P E rd (.region id ops true) fl fr ms σ Q := by
  simp only [Bool.and_eq_true, beq_iff_eq] at hs
  have e : bs.zip ops.toList = flags ops 0 ops.toList := by
    rw [← hs.2]
    have := List.zip_unzip (flags ops 0 ops.toList)
    rw [List.unzip_eq_map] at this
    simpa [flags_snd] using this
  rw [e] at h
  exact Wp.draw hs.1 h k
end

attribute [simp] pleave pargs pcallP
end Go.Kz
