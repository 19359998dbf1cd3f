/-
  Stepping through a region an operation at a time: the operands by reduction, the operator by simp.
-/
import Derived.Test.YtclleofcjnggaaaDoorKzZf
set_option linter.all false
namespace Go.Kz

/-- The operations run, and K holds of frame and store. -/
structure SQ (P : Program) (call : PCall) (fl : Nat) (ops : Array Oper) (l : List Oper) (fr : List PD) (σ : List SObj) (K : List PD → List SObj → Prop) : Prop where
  ex : ∃ fr' σ', pseq P call fl ops l fr σ = some (fr', σ') ∧ K fr' σ'

/-- The operand's value, found by reduction. -/
def lk : List PD → Nat → Option PD
  | [], _ => none
  | x :: _, 0 => some x
  | _ :: xs, n + 1 => lk xs n
def evalO (fr : List PD) : Operand → Option PD
  | .tmp t => lk fr t
  | .const v => ofValue v
  | .func f => some (.func f [])
  | .global g => match gcells g with
    | some ds => some (.eptr ds 0)
    | none => none
def evalsO (fr : List PD) : List Operand → Option (List PD)
  | [] => some []
  | x :: xs => match evalO fr x, evalsO fr xs with
    | some p, some ps => some (p :: ps)
    | _, _ => none
def evalPartsO (fr : List PD) : List (Nat × Operand) → Option (List (Nat × PD))
  | [] => some []
  | (i, x) :: r => match evalO fr x, evalPartsO fr r with
    | some p, some ps => some ((i, p) :: ps)
    | _, _ => none
def optO (fr : List PD) : Option Operand → Option (Option (Option PD))
  | none => some none
  | some x => match evalO fr x with
    | some p => some (some (some p))
    | none => none

theorem lk_eq : ∀ (fr : List PD) (t : Nat), lk fr t = fr[t]?
  | [], _ => by simp [lk]
  | _ :: _, 0 => by simp [lk]
  | _ :: xs, n + 1 => by simp [lk, lk_eq xs n]

theorem evalO_ok {fr : List PD} {x : Operand} {p : PD} (h : evalO fr x = some p) : peval fr x = some p := by
  cases x with
  | tmp t =>
    simp only [evalO, lk_eq] at h
    simp only [peval, List.getD_eq_getElem?_getD, h, Option.getD_some]
  | _ => exact h
theorem evalsO_ok {fr : List PD} : ∀ {xs : List Operand} {ps : List PD}, evalsO fr xs = some ps → pevals fr xs = some ps
  | [], _, h => h
  | x :: xs, ps, h => by
    simp only [evalsO] at h
    split at h
    · rename_i p qs h1 h2
      simp only [pevals, evalO_ok h1, evalsO_ok h2]
      exact h
    · cases h
theorem evalPartsO_ok {fr : List PD} : ∀ {xs : List (Nat × Operand)} {ps : List (Nat × PD)}, evalPartsO fr xs = some ps → pevalParts fr xs = some ps
  | [], _, h => h
  | (i, x) :: xs, ps, h => by
    simp only [evalPartsO] at h
    split at h
    · rename_i p qs h1 h2
      simp only [pevalParts, evalO_ok h1, evalPartsO_ok h2]
      exact h
    · cases h
theorem optO_ok {fr : List PD} {x : Option Operand} {p : Option (Option PD)} (h : optO fr x = some p) : x.map (peval fr) = p := by
  cases x with
  | none => simpa [optO] using h
  | some x =>
    simp only [optO] at h
    split at h
    · rename_i q hq
      simp only [Option.some.injEq] at h; subst h
      show some (peval fr x) = _
      rw [evalO_ok hq]
    · cases h

section
variable {P : Program} {E : PExt} {call : PCall} {rd : Option Nat} {fl : Nat} {fr fr1 : List PD} {ms : List Nat} {σ σ1 : List SObj} {Q : PO → Prop} {ops : Array Oper} {K : List PD → List SObj → Prop} {l : List Oper} {dst : Option Tmp}
  {ty : TypeId} {pos : String} {edges : Array Edge} {guard : Option (Nat × Bool)} {t : TypeId} {x y : Operand} {p q r : PD}

theorem SQ.nil (h : K fr σ) : SQ P call fl ops [] fr σ K := ⟨fr, σ, rfl, h⟩

theorem SQ.step {o : Oper} (hw : Region.wanted o (pyield ops fr) = true) (h : pstep P call fl fr σ o.op = some (p, σ1)) (k : SQ P call fl ops l (pput fr o.dst p) σ1 K) : SQ P call fl ops (o :: l) fr σ K := by
  obtain ⟨fr', σ', h1, h2⟩ := k.ex
  exact ⟨fr', σ', by simp only [pseq, hw, if_true, h, h1], h2⟩

theorem SQ.pass {o : Oper} (hw : Region.wanted o (pyield ops fr) = false) (hf : pput fr o.dst (.tup []) = fr1) (k : SQ P call fl ops l fr1 σ K) : SQ P call fl ops (o :: l) fr σ K := by
  subst hf
  obtain ⟨fr', σ', h1, h2⟩ := k.ex
  exact ⟨fr', σ', by simp only [pseq, hw, Bool.false_eq_true, if_false, h1], h2⟩

theorem pstep_val {op : Op} (hc : pcallee fr op = none) (h : pval P fr op = some p) : pstep P call fl fr σ op = some (p, σ) := by
  unfold pstep pop; rw [hc, h]
theorem pstep_mem {op : Op} (hc : pcallee fr op = none) (hv : pval P fr op = none) (h : pmem P fl fr σ op = some (p, σ1)) : pstep P call fl fr σ op = some (p, σ1) := by
  unfold pstep pop; rw [hc]; simp only [hv]; exact h

theorem SQ.move (hw : Region.wanted ⟨dst, .move x, ty, pos, edges, guard⟩ (pyield ops fr) = true) (hx : evalO fr x = some p) (hf : pput fr dst p = fr1) (k : SQ P call fl ops l fr1 σ K) : SQ P call fl ops (⟨dst, .move x, ty, pos, edges, guard⟩ :: l) fr σ K :=
  .step hw (pstep_val rfl (evalO_ok hx)) (hf ▸ k)
theorem SQ.assign (hw : Region.wanted ⟨dst, .assign x, ty, pos, edges, guard⟩ (pyield ops fr) = true) (hx : evalO fr x = some p) (hf : pput fr dst p = fr1) (k : SQ P call fl ops l fr1 σ K) : SQ P call fl ops (⟨dst, .assign x, ty, pos, edges, guard⟩ :: l) fr σ K :=
  .step hw (pstep_val rfl (evalO_ok hx)) (hf ▸ k)
theorem SQ.pick {c : Operand} {b : Bool} (hw : Region.wanted ⟨dst, .pick c x y, ty, pos, edges, guard⟩ (pyield ops fr) = true) (hc : evalO fr c = some (.bool b)) (hx : cond b (evalO fr x) (evalO fr y) = some p) (hf : pput fr dst p = fr1) (k : SQ P call fl ops l fr1 σ K) :
    SQ P call fl ops (⟨dst, .pick c x y, ty, pos, edges, guard⟩ :: l) fr σ K :=
  .step hw (pstep_val rfl (by simp only [pval, evalO_ok hc]; cases b <;> exact evalO_ok hx)) (hf ▸ k)
theorem SQ.binOp {op : BinOp} {u : TypeId} (hw : Region.wanted ⟨dst, .binOp op t x y u, ty, pos, edges, guard⟩ (pyield ops fr) = true) (hx : evalO fr x = some p) (hy : evalO fr y = some q) (hr : pbin P op t p q = some r) (hf : pput fr dst r = fr1) (k : SQ P call fl ops l fr1 σ K) :
    SQ P call fl ops (⟨dst, .binOp op t x y u, ty, pos, edges, guard⟩ :: l) fr σ K :=
  .step hw (pstep_val rfl (by simp only [pval, evalO_ok hx, evalO_ok hy, hr])) (hf ▸ k)
theorem SQ.unOp {op : UnOp} (hw : Region.wanted ⟨dst, .unOp op t x, ty, pos, edges, guard⟩ (pyield ops fr) = true) (hx : evalO fr x = some p) (hr : pun op p = some r) (hf : pput fr dst r = fr1) (k : SQ P call fl ops l fr1 σ K) :
    SQ P call fl ops (⟨dst, .unOp op t x, ty, pos, edges, guard⟩ :: l) fr σ K :=
  .step hw (pstep_val rfl (by simp only [pval, evalO_ok hx, hr])) (hf ▸ k)
theorem SQ.convert {u : TypeId} (hw : Region.wanted ⟨dst, .convert u t x, ty, pos, edges, guard⟩ (pyield ops fr) = true) (hx : evalO fr x = some p) (hr : pconv P u t p = some r) (hf : pput fr dst r = fr1) (k : SQ P call fl ops l fr1 σ K) :
    SQ P call fl ops (⟨dst, .convert u t x, ty, pos, edges, guard⟩ :: l) fr σ K :=
  .step hw (pstep_val rfl (by simp only [pval, evalO_ok hx, hr])) (hf ▸ k)
theorem SQ.makeFunc {f : FuncId} {cap : Array Operand} {cs : List PD} (hw : Region.wanted ⟨dst, .makeFunc (.func f) #[] cap, ty, pos, edges, guard⟩ (pyield ops fr) = true) (hx : evalsO fr cap.toList = some cs) (hf : pput fr dst (.func f cs) = fr1) (k : SQ P call fl ops l fr1 σ K) :
    SQ P call fl ops (⟨dst, .makeFunc (.func f) #[] cap, ty, pos, edges, guard⟩ :: l) fr σ K :=
  .step hw (pstep_val rfl (by simp [pval, evalsO_ok hx])) (hf ▸ k)
theorem SQ.slice {lo hi mx : Option Operand} {lo' hi' mx' : Option (Option PD)} (hw : Region.wanted ⟨dst, .slice t x lo hi mx, ty, pos, edges, guard⟩ (pyield ops fr) = true) (hx : evalO fr x = some p) (h1 : optO fr lo = some lo') (h2 : optO fr hi = some hi') (h3 : optO fr mx = some mx')
    (hr : pslice P t p lo' hi' mx' = some r) (hf : pput fr dst r = fr1) (k : SQ P call fl ops l fr1 σ K) : SQ P call fl ops (⟨dst, .slice t x lo hi mx, ty, pos, edges, guard⟩ :: l) fr σ K := by
  exact .step hw (pstep_val rfl (by simp only [pval, evalO_ok hx, optO_ok h1, optO_ok h2, optO_ok h3, hr])) (hf ▸ k)
theorem SQ.fieldAddr {f : Nat} (hw : Region.wanted ⟨dst, .fieldAddr t x f, ty, pos, edges, guard⟩ (pyield ops fr) = true) (hx : evalO fr x = some p) (hr : pfieldAddr P t p f = some r) (hf : pput fr dst r = fr1) (k : SQ P call fl ops l fr1 σ K) :
    SQ P call fl ops (⟨dst, .fieldAddr t x f, ty, pos, edges, guard⟩ :: l) fr σ K :=
  .step hw (pstep_val rfl (by simp only [pval, evalO_ok hx, hr])) (hf ▸ k)
theorem SQ.field {f : Nat} (hw : Region.wanted ⟨dst, .field t x f, ty, pos, edges, guard⟩ (pyield ops fr) = true) (hx : evalO fr x = some p) (hr : pfield P t p f = some r) (hf : pput fr dst r = fr1) (k : SQ P call fl ops l fr1 σ K) :
    SQ P call fl ops (⟨dst, .field t x f, ty, pos, edges, guard⟩ :: l) fr σ K :=
  .step hw (pstep_val rfl (by simp only [pval, evalO_ok hx, hr])) (hf ▸ k)
theorem SQ.indexAddr (hw : Region.wanted ⟨dst, .indexAddr t x y, ty, pos, edges, guard⟩ (pyield ops fr) = true) (hx : evalO fr x = some p) (hy : evalO fr y = some q) (hr : pindexAddr P t p q = some r) (hf : pput fr dst r = fr1) (k : SQ P call fl ops l fr1 σ K) :
    SQ P call fl ops (⟨dst, .indexAddr t x y, ty, pos, edges, guard⟩ :: l) fr σ K :=
  .step hw (pstep_val rfl (by simp only [pval, evalO_ok hx, evalO_ok hy, hr])) (hf ▸ k)
theorem SQ.index (hw : Region.wanted ⟨dst, .index t x y, ty, pos, edges, guard⟩ (pyield ops fr) = true) (hx : evalO fr x = some p) (hy : evalO fr y = some q) (hr : pindex P t p q = some r) (hf : pput fr dst r = fr1) (k : SQ P call fl ops l fr1 σ K) :
    SQ P call fl ops (⟨dst, .index t x y, ty, pos, edges, guard⟩ :: l) fr σ K :=
  .step hw (pstep_val rfl (by simp only [pval, evalO_ok hx, evalO_ok hy, hr])) (hf ▸ k)
theorem SQ.extract {i : Nat} {vs : List PD} (hw : Region.wanted ⟨dst, .extract x i, ty, pos, edges, guard⟩ (pyield ops fr) = true) (hx : evalO fr x = some (.tup vs)) (hr : vs[i]? = some r) (hf : pput fr dst r = fr1) (k : SQ P call fl ops l fr1 σ K) :
    SQ P call fl ops (⟨dst, .extract x i, ty, pos, edges, guard⟩ :: l) fr σ K :=
  .step hw (pstep_val rfl (by simp only [pval, evalO_ok hx, hr])) (hf ▸ k)
theorem SQ.nilCheck {id off : Nat} (hw : Region.wanted ⟨dst, .nilCheck x, ty, pos, edges, guard⟩ (pyield ops fr) = true) (hx : evalO fr x = some (.ptr id off)) (hf : pput fr dst (.ptr id off) = fr1) (k : SQ P call fl ops l fr1 σ K) :
    SQ P call fl ops (⟨dst, .nilCheck x, ty, pos, edges, guard⟩ :: l) fr σ K :=
  .step hw (pstep_val rfl (by simp only [pval, evalO_ok hx])) (hf ▸ k)
theorem SQ.build {parts : Array (Nat × Operand)} {ps : List (Nat × PD)} (hw : Region.wanted ⟨dst, .build t parts, ty, pos, edges, guard⟩ (pyield ops fr) = true) (hx : evalPartsO fr parts.toList = some ps) (hr : pbuild P t ps = some r) (hf : pput fr dst r = fr1) (k : SQ P call fl ops l fr1 σ K) :
    SQ P call fl ops (⟨dst, .build t parts, ty, pos, edges, guard⟩ :: l) fr σ K :=
  .step hw (pstep_val rfl (by simp only [pval, evalPartsO_ok hx, hr])) (hf ▸ k)
theorem SQ.builtin {b : Builtin} {args : Array Operand} {ts : Array TypeId} {ps : List PD} (hw : Region.wanted ⟨dst, .call { callee := .builtin b, args := args, argTypes := ts }, ty, pos, edges, guard⟩ (pyield ops fr) = true) (hx : evalsO fr args.toList = some ps) (hr : pbuiltin P b ts ps = some r)
    (hf : pput fr dst r = fr1) (k : SQ P call fl ops l fr1 σ K) : SQ P call fl ops (⟨dst, .call { callee := .builtin b, args := args, argTypes := ts }, ty, pos, edges, guard⟩ :: l) fr σ K :=
  .step hw (pstep_val rfl (by simp only [pval, evalsO_ok hx, hr])) (hf ▸ k)

theorem SQ.load (hw : Region.wanted ⟨dst, .load t x, ty, pos, edges, guard⟩ (pyield ops fr) = true) (hx : evalO fr x = some p) (hr : pload P σ t p = some r) (hf : pput fr dst r = fr1) (k : SQ P call fl ops l fr1 σ K) : SQ P call fl ops (⟨dst, .load t x, ty, pos, edges, guard⟩ :: l) fr σ K :=
  .step hw (pstep_mem rfl rfl (by simp only [pmem, evalO_ok hx, hr])) (hf ▸ k)
theorem SQ.store (hw : Region.wanted ⟨dst, .store t x y, ty, pos, edges, guard⟩ (pyield ops fr) = true) (hx : evalO fr x = some p) (hy : evalO fr y = some q) (hr : pstore P fl σ t p q = some σ1) (hf : pput fr dst (.tup []) = fr1) (k : SQ P call fl ops l fr1 σ1 K) :
    SQ P call fl ops (⟨dst, .store t x y, ty, pos, edges, guard⟩ :: l) fr σ K :=
  .step hw (pstep_mem rfl rfl (by simp only [pmem, evalO_ok hx, evalO_ok hy, hr])) (hf ▸ k)
theorem SQ.alloc (hw : Region.wanted ⟨dst, .alloc t, ty, pos, edges, guard⟩ (pyield ops fr) = true) (hx : pzero P t = some p) (hp : p.cells.all PD.plain = true) (hr : σ ++ [.box p] = σ1) {n : Nat} (hn : σ.length = n) (hf : pput fr dst (.ptr n 0) = fr1) (k : SQ P call fl ops l fr1 σ1 K) :
    SQ P call fl ops (⟨dst, .alloc t, ty, pos, edges, guard⟩ :: l) fr σ K := by
  subst hr hn
  exact .step hw (pstep_mem rfl rfl (by simp only [pmem, hx, hp, if_true])) (hf ▸ k)
theorem SQ.box (hw : Region.wanted ⟨dst, .box t x, ty, pos, edges, guard⟩ (pyield ops fr) = true) (hx : evalO fr x = some p) (hp : p.cells.all PD.plain = true) (hr : σ ++ [.box p] = σ1) {n : Nat} (hn : σ.length = n) (hf : pput fr dst (.ptr n 0) = fr1) (k : SQ P call fl ops l fr1 σ1 K) :
    SQ P call fl ops (⟨dst, .box t x, ty, pos, edges, guard⟩ :: l) fr σ K := by
  subst hr hn
  exact .step hw (pstep_mem rfl rfl (by simp only [pmem, evalO_ok hx, hp, if_true])) (hf ▸ k)
theorem SQ.buildSlice {len : Nat} {parts : Array (Nat × Operand)} {ps : List (Nat × PD)} (hw : Region.wanted ⟨dst, .buildSlice t len parts, ty, pos, edges, guard⟩ (pyield ops fr) = true) (hx : evalPartsO fr parts.toList = some ps) (hr : pnewSlice P t len (ps.map fun q => (q.1, q.2.strip)) = some r)
    (hf : pput fr dst r = fr1) (k : SQ P call fl ops l fr1 σ K) : SQ P call fl ops (⟨dst, .buildSlice t len parts, ty, pos, edges, guard⟩ :: l) fr σ K :=
  .step hw (pstep_mem rfl rfl (by simp only [pmem, evalPartsO_ok hx, hr])) (hf ▸ k)
theorem SQ.append (hw : Region.wanted ⟨dst, .call { callee := .builtin .append, args := #[x, y], argTypes := #[t, t] }, ty, pos, edges, guard⟩ (pyield ops fr) = true) (hx : evalO fr x = some p) (hy : evalO fr y = some q)
    (hr : pappend P fl σ t p q.strip = some (r, σ1)) (hf : pput fr dst r = fr1) (k : SQ P call fl ops l fr1 σ1 K) : SQ P call fl ops (⟨dst, .call { callee := .builtin .append, args := #[x, y], argTypes := #[t, t] }, ty, pos, edges, guard⟩ :: l) fr σ K := by
  refine .step hw (pstep_mem rfl ?_ ?_) (hf ▸ k)
  · simp only [pval, pevals, evalO_ok hx, evalO_ok hy, pbuiltin]
  · simp only [pmem, pevals, evalO_ok hx, evalO_ok hy, if_true, hr]

theorem SQ.fcall {g : Operand} {args : Array Operand} {ts : Array TypeId} {f : FuncId} {cap ps : List PD} (hw : Region.wanted ⟨dst, .call { callee := .value g, args := args, argTypes := ts }, ty, pos, edges, guard⟩ (pyield ops fr) = true) (hg : evalO fr g = some (.func f cap))
    (hx : evalsO fr args.toList = some ps) (hr : call fl (.inl f) (ps ++ cap) σ = some (r, σ1)) (hf : pput fr dst r = fr1) (k : SQ P call fl ops l fr1 σ1 K) : SQ P call fl ops (⟨dst, .call { callee := .value g, args := args, argTypes := ts }, ty, pos, edges, guard⟩ :: l) fr σ K := by
  refine .step hw ?_ (hf ▸ k)
  simp only [pstep, pcallee, evalO_ok hg, evalsO_ok hx, hr]

/-! ### whole regions -/
theorem Run.bodyL {f : FuncId} {fn : Func} {c : Code} {args fr : List PD} {p : PD} (hE : E f = none) (hf : P.funcs[f]? = some fn) (hb : fn.body = some c) (hfr : args ++ List.replicate (fn.ntmps - args.length) (.tup []) = fr)
    (h : Wp P E none c 0 fr [] [] (fun r => ∃ p1 σ1, pfinish P 0 fn r = some (p1, σ1) ∧ p1.strip = p)) : Run P E f args p := by
  subst hfr
  exact Run.body hE hf hb h
theorem WpC.bodyL {f : FuncId} {fn : Func} {c : Code} {args : List PD} {R : PD → List SObj → Prop} (hE : E f = none) (hf : P.funcs[f]? = some fn) (hb : fn.body = some c) (hfr : args ++ List.replicate (fn.ntmps - args.length) (.tup []) = fr)
    (h : Wp P E none c fl fr [] σ (fun r => ∃ p1 σ1, pfinish P fl fn r = some (p1, σ1) ∧ R p1 σ1)) : WpC P E fl (.inl f) args σ R := by
  subst hfr
  exact WpC.body hE hf hb h

theorem Wp.regionS {id : Nat} (h : SQ P (pcallE E) fl ops ops.toList fr σ (fun fr' σ' => Q ⟨.normal, fr', ms, σ'⟩)) : Wp P E rd (.region id ops false) fl fr ms σ Q := by
  obtain ⟨fr', σ', h1, h2⟩ := h.ex
  exact .region h1 h2
theorem Wp.drawPS {id : Nat} (hU : Uni E) (hs : (fastOk ops && noOwn ops) = true) (h : SQ P (pcallP E) fl ops ops.toList fr σ (fun fr' σ' => Q ⟨.normal, fr', ms, σ'⟩)) : Wp P E rd (.region id ops true) fl fr ms σ Q := by
  obtain ⟨fr', σ', h1, h2⟩ := h.ex
  exact .drawP hU hs h1 h2
theorem Wp.drawFS {id : Nat} (hs : (fastOk ops && fastFree ops) = true) (h : SQ P (pcallE E) fl ops ops.toList fr σ (fun fr' σ' => Q ⟨.normal, fr', ms, σ'⟩)) : Wp P E rd (.region id ops true) fl fr ms σ Q := by
  obtain ⟨fr', σ', h1, h2⟩ := h.ex
  exact .drawF hs h1 h2

/-- A region with one call that is known by its run: the k operations before it, it, and the rest. -/
theorem Wp.regionY (k : Nat) {id : Nat} {o : Oper} {rest : List Oper} (hk : ops.toList = ops.toList.take k ++ o :: rest) (h : SQ P (pcallE E) fl ops (ops.toList.take k) fr σ (fun fr1 σ1 => Region.wanted o (pyield ops fr1) = true ∧ ∃ tg args, pcallee fr1 o.op = some (tg, args) ∧
      WpC P E fl tg args σ1 (fun p σ2 => ∃ fr2, pput fr1 o.dst p = fr2 ∧ SQ P (pcallE E) fl ops rest fr2 σ2 (fun fr' σ' => Q ⟨.normal, fr', ms, σ'⟩)))) : Wp P E rd (.region id ops false) fl fr ms σ Q := by
  obtain ⟨fr1, σ1, h1, hw, tg, args, hc, h2⟩ := h.ex
  obtain ⟨p, σ2, ⟨N, h3⟩, fr2, hf2, h4⟩ := h2.ex
  subst hf2
  obtain ⟨fr', σ', h5, h6⟩ := h4.ex
  refine .regionO ⟨N, fr', σ', fun n hn => ?_, h6⟩
  rw [← pseq_pd, hk]
  have e : ∀ (l l' : List Oper) (fr : List PD) (σ : List SObj), pseq P (pcall P E n) fl ops (l ++ l') fr σ = (match pseq P (pcall P E n) fl ops l fr σ with | some (fr1, σ1) => pseq P (pcall P E n) fl ops l' fr1 σ1 | none => none) := by
    intro l
    induction l with
    | nil => intro l' fr σ; rfl
    | cons o l ih =>
      intro l' fr σ
      simp only [List.cons_append, pseq]
      split
      · cases pstep P (pcall P E n) fl fr σ o.op with
        | none => rfl
        | some q => obtain ⟨p, σ'⟩ := q; simp only; exact ih l' _ _
      · exact ih l' _ _
  rw [e, pseq_up h1]
  simp only [pseq, hw, if_true, pstep, hc, h3 n hn]
  exact pseq_up h5
theorem YQ {o : Oper} {rest : List Oper} {tg : FuncId ⊕ Nat} {args : List PD} {K : List PD → List SObj → Prop} (hw : Region.wanted o (pyield ops fr) = true) (hc : pcallee fr o.op = some (tg, args))
    (h : WpC P E fl tg args σ (fun p σ2 => ∃ fr2, pput fr o.dst p = fr2 ∧ SQ P (pcallE E) fl ops rest fr2 σ2 K)) : Region.wanted o (pyield ops fr) = true ∧ ∃ tg args, pcallee fr o.op = some (tg, args) ∧ WpC P E fl tg args σ (fun p σ2 => ∃ fr2, pput fr o.dst p = fr2 ∧ SQ P (pcallE E) fl ops rest fr2 σ2 K) :=
  ⟨hw, tg, args, hc, h⟩

theorem Rounds.here {id : Nat} {K : List SObj → Prop} {items : List (List PD)} {σ σ2 : List SObj} (h : Rounds P E fl id K items σ σ2) : K σ := by cases h <;> assumption
theorem Rounds.inv {id : Nat} {K : List SObj → Prop} {a : List PD} {items : List (List PD)} {σ σ2 : List SObj} (h : Rounds P E fl id K (a :: items) σ σ2) :
    (∃ σ1, EvC P E fl (.inr id) a σ (.bool true) σ1 ∧ Rounds P E fl id K items σ1 σ2) ∨ EvC P E fl (.inr id) a σ (.bool false) σ2 := by
  cases h with
  | more h1 h2 h3 => exact .inl ⟨_, h2, h3⟩
  | stop h1 h2 => exact .inr h2
theorem Rounds.inv_nil {id : Nat} {K : List SObj → Prop} {σ σ2 : List SObj} (h : Rounds P E fl id K [] σ σ2) : σ2 = σ := by cases h; rfl

/-- What is to hold behind one time round of a loop with an invariant. -/
structure LoopI (I : Nat → List PD → List SObj → Prop) (m : Nat) (ms : List Nat) (Q : PO → Prop) (r : PO) : Prop where
  nx : r.x = .normal → r.ms = ms ∧ ∃ m', m' < m ∧ I m' r.fr r.σ
  out : r.x ≠ .normal → Q r

theorem LoopI.normal {I : Nat → List PD → List SObj → Prop} {m : Nat} (m' : Nat) (h : m' < m) (k : I m' fr σ) : LoopI I m ms Q ⟨.normal, fr, ms, σ⟩ := ⟨fun _ => ⟨rfl, m', h, k⟩, fun e => absurd rfl e⟩
theorem LoopI.ret {I : Nat → List PD → List SObj → Prop} {m : Nat} {ms' : List Nat} (h : Q ⟨.ret, fr, ms', σ⟩) : LoopI I m ms Q ⟨.ret, fr, ms', σ⟩ := ⟨fun e => (by cases e), fun _ => h⟩
theorem LoopI.exit {I : Nat → List PD → List SObj → Prop} {m k : Nat} {ms' : List Nat} (h : Q ⟨.exit k, fr, ms', σ⟩) : LoopI I m ms Q ⟨.exit k, fr, ms', σ⟩ := ⟨fun e => (by cases e), fun _ => h⟩

theorem Wp.loopI {b : Code} (I : Nat → List PD → List SObj → Prop) (h : ∀ m fr σ, I m fr σ → Wp P E rd b fl fr ms σ (LoopI I m ms Q)) : ∀ m {fr σ}, I m fr σ → Wp P E rd (.loop b) fl fr ms σ Q := by
  intro m
  induction m using Nat.strongRecOn with
  | ind m ih =>
    intro fr σ hi
    refine Wp.loop ((h m fr σ hi).mono fun r hr => ⟨fun e => ?_, fun e => hr.out e⟩)
    obtain ⟨e1, m', h1, h2⟩ := hr.nx e
    rw [e1]
    exact ih m' h1 h2
end
end Go.Kz
