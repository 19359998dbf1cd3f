/-
  Part P3 of the way: an interpreter over pure data, its soundness, walks through functions.
-/
import Derived.Test.YtngmkfjeekpnpaaDoorP2
import Derived.ProofKit
import Derived.LaidMore
import Derived.OpenShut
import Derived.Stop.Joined
import Derived.ChangeArms
import Derived.DataReads
import Derived.Handed
set_option linter.all false

/-
  Stepping through a region an operation at a time: the operands by reduction, the operator by simp.
-/
namespace Go.Kz

/-- The operations run, and K holds of frame and store. -/
structure SQ (P : Program) (call : PCall) (fl : Nat) (ops : Array Oper) (l : List Oper) (fr : List PD) (σ : List SObj) (K : List PD → List SObj → Prop) : Prop where
  ex : ∃ fr' σ', pseq P call fl ops l fr σ = some (fr', σ') ∧ K fr' σ'

/-- The operand's value, found by reduction. -/
def lk : List PD → Nat → Option PD
  | [], _ => none
  | x :: _, 0 => some x
  | _ :: xs, n + 1 => lk xs n
def evalO (fr : List PD) : Operand → Option PD
  | .tmp t => lk fr t
  | .const v => ofValue v
  | .func f => some (.func f [])
  | .global g => match gcells g with
    | some ds => some (.eptr ds 0)
    | none => none
def evalsO (fr : List PD) : List Operand → Option (List PD)
  | [] => some []
  | x :: xs => match evalO fr x, evalsO fr xs with
    | some p, some ps => some (p :: ps)
    | _, _ => none
def evalPartsO (fr : List PD) : List (Nat × Operand) → Option (List (Nat × PD))
  | [] => some []
  | (i, x) :: r => match evalO fr x, evalPartsO fr r with
    | some p, some ps => some ((i, p) :: ps)
    | _, _ => none
def optO (fr : List PD) : Option Operand → Option (Option (Option PD))
  | none => some none
  | some x => match evalO fr x with
    | some p => some (some (some p))
    | none => none

theorem lk_eq : ∀ (fr : List PD) (t : Nat), lk fr t = fr[t]?
  | [], _ => by simp [lk]
  | _ :: _, 0 => by simp [lk]
  | _ :: xs, n + 1 => by simp [lk, lk_eq xs n]

theorem evalO_ok {fr : List PD} {x : Operand} {p : PD} (h : evalO fr x = some p) : peval fr x = some p := by
  cases x with
  | tmp t =>
    simp only [evalO, lk_eq] at h
    simp only [peval, List.getD_eq_getElem?_getD, h, Option.getD_some]
  | _ => exact h
theorem evalsO_ok {fr : List PD} : ∀ {xs : List Operand} {ps : List PD}, evalsO fr xs = some ps → pevals fr xs = some ps
  | [], _, h => h
  | x :: xs, ps, h => by
    simp only [evalsO] at h
    split at h
    · rename_i p qs h1 h2
      simp only [pevals, evalO_ok h1, evalsO_ok h2]
      exact h
    · cases h
theorem evalPartsO_ok {fr : List PD} : ∀ {xs : List (Nat × Operand)} {ps : List (Nat × PD)}, evalPartsO fr xs = some ps → pevalParts fr xs = some ps
  | [], _, h => h
  | (i, x) :: xs, ps, h => by
    simp only [evalPartsO] at h
    split at h
    · rename_i p qs h1 h2
      simp only [pevalParts, evalO_ok h1, evalPartsO_ok h2]
      exact h
    · cases h
theorem optO_ok {fr : List PD} {x : Option Operand} {p : Option (Option PD)} (h : optO fr x = some p) : x.map (peval fr) = p := by
  cases x with
  | none => simpa [optO] using h
  | some x =>
    simp only [optO] at h
    split at h
    · rename_i q hq
      simp only [Option.some.injEq] at h; subst h
      show some (peval fr x) = _
      rw [evalO_ok hq]
    · cases h

section
variable {P : Program} {E : PExt} {call : PCall} {rd : Option Nat} {fl : Nat} {fr fr1 : List PD} {ms : List Nat} {σ σ1 : List SObj} {Q : PO → Prop} {ops : Array Oper} {K : List PD → List SObj → Prop} {l : List Oper} {dst : Option Tmp}
  {ty : TypeId} {pos : String} {edges : Array Edge} {guard : Option (Nat × Bool)} {t : TypeId} {x y : Operand} {p q r : PD}

theorem SQ.nil (h : K fr σ) : SQ P call fl ops [] fr σ K := ⟨fr, σ, rfl, h⟩

theorem SQ.step {o : Oper} (hw : Region.wanted o (pyield ops fr) = true) (h : pstep P call fl fr σ o.op = some (p, σ1)) (k : SQ P call fl ops l (pput fr o.dst p) σ1 K) : SQ P call fl ops (o :: l) fr σ K := by
  obtain ⟨fr', σ', h1, h2⟩ := k.ex
  exact ⟨fr', σ', by simp only [pseq, hw, if_true, h, h1], h2⟩

theorem SQ.pass {o : Oper} (hw : Region.wanted o (pyield ops fr) = false) (hf : pput fr o.dst (.tup []) = fr1) (k : SQ P call fl ops l fr1 σ K) : SQ P call fl ops (o :: l) fr σ K := by
  subst hf
  obtain ⟨fr', σ', h1, h2⟩ := k.ex
  exact ⟨fr', σ', by simp only [pseq, hw, Bool.false_eq_true, if_false, h1], h2⟩

theorem pstep_val {op : Op} (hc : pcallee fr op = none) (h : pval P fr op = some p) : pstep P call fl fr σ op = some (p, σ) := by
  unfold pstep pop; rw [hc, h]
theorem pstep_mem {op : Op} (hc : pcallee fr op = none) (hv : pval P fr op = none) (h : pmem P fl fr σ op = some (p, σ1)) : pstep P call fl fr σ op = some (p, σ1) := by
  unfold pstep pop; rw [hc]; simp only [hv]; exact h

theorem SQ.move (hw : Region.wanted ⟨dst, .move x, ty, pos, edges, guard⟩ (pyield ops fr) = true) (hx : evalO fr x = some p) (hf : pput fr dst p = fr1) (k : SQ P call fl ops l fr1 σ K) : SQ P call fl ops (⟨dst, .move x, ty, pos, edges, guard⟩ :: l) fr σ K :=
  .step hw (pstep_val rfl (evalO_ok hx)) (hf ▸ k)
theorem SQ.assign (hw : Region.wanted ⟨dst, .assign x, ty, pos, edges, guard⟩ (pyield ops fr) = true) (hx : evalO fr x = some p) (hf : pput fr dst p = fr1) (k : SQ P call fl ops l fr1 σ K) : SQ P call fl ops (⟨dst, .assign x, ty, pos, edges, guard⟩ :: l) fr σ K :=
  .step hw (pstep_val rfl (evalO_ok hx)) (hf ▸ k)
theorem SQ.pick {c : Operand} {b : Bool} (hw : Region.wanted ⟨dst, .pick c x y, ty, pos, edges, guard⟩ (pyield ops fr) = true) (hc : evalO fr c = some (.bool b)) (hx : cond b (evalO fr x) (evalO fr y) = some p) (hf : pput fr dst p = fr1) (k : SQ P call fl ops l fr1 σ K) :
    SQ P call fl ops (⟨dst, .pick c x y, ty, pos, edges, guard⟩ :: l) fr σ K :=
  .step hw (pstep_val rfl (by simp only [pval, evalO_ok hc]; cases b <;> exact evalO_ok hx)) (hf ▸ k)
theorem SQ.binOp {op : BinOp} {u : TypeId} (hw : Region.wanted ⟨dst, .binOp op t x y u, ty, pos, edges, guard⟩ (pyield ops fr) = true) (hx : evalO fr x = some p) (hy : evalO fr y = some q) (hr : pbin P op t p q = some r) (hf : pput fr dst r = fr1) (k : SQ P call fl ops l fr1 σ K) :
    SQ P call fl ops (⟨dst, .binOp op t x y u, ty, pos, edges, guard⟩ :: l) fr σ K :=
  .step hw (pstep_val rfl (by simp only [pval, evalO_ok hx, evalO_ok hy, hr])) (hf ▸ k)
theorem pnil_val {op : BinOp} {e : TypeId} {b : Bool} {u : TypeId} (hx : evalO fr x = some p) (hu : P.underlying t = some (.slice e)) (hb : pisnil p = some b) (ho : op = .eql ∨ op = .neq) :
    pval P fr (.binOp op t x (.const (.slice none 0 0)) u) = some (.bool (if op = .eql then b else !b)) := by
  have hy : peval fr (.const (.slice none 0 0)) = some (.slice 0 [] .full) := rfl
  simp only [pval, evalO_ok hx, hy]
  have hn : pbin P op t p (.slice 0 [] .full) = none := by
    unfold pisnil at hb
    rcases ho with rfl | rfl
    all_goals
      split at hb
      · simp [pbin, peq, peqIn, hu]
      · simp [pbin, peq, peqIn, hu]
      · cases hb
  rw [hn]
  rcases ho with rfl | rfl <;> simp [pnilcmp, hu, hb]
theorem SQ.isnilE {e : TypeId} {b : Bool} {u : TypeId} (hw : Region.wanted ⟨dst, .binOp .eql t x (.const (.slice none 0 0)) u, ty, pos, edges, guard⟩ (pyield ops fr) = true) (hx : evalO fr x = some p) (hu : P.underlying t = some (.slice e)) (hb : pisnil p = some b) (hf : pput fr dst (.bool b) = fr1) (k : SQ P call fl ops l fr1 σ K) :
    SQ P call fl ops (⟨dst, .binOp .eql t x (.const (.slice none 0 0)) u, ty, pos, edges, guard⟩ :: l) fr σ K :=
  .step hw (pstep_val rfl (pnil_val hx hu hb (.inl rfl))) (hf ▸ k)
theorem SQ.isnilN {e : TypeId} {b : Bool} {u : TypeId} (hw : Region.wanted ⟨dst, .binOp .neq t x (.const (.slice none 0 0)) u, ty, pos, edges, guard⟩ (pyield ops fr) = true) (hx : evalO fr x = some p) (hu : P.underlying t = some (.slice e)) (hb : pisnil p = some b) (hf : pput fr dst (.bool (!b)) = fr1) (k : SQ P call fl ops l fr1 σ K) :
    SQ P call fl ops (⟨dst, .binOp .neq t x (.const (.slice none 0 0)) u, ty, pos, edges, guard⟩ :: l) fr σ K :=
  .step hw (pstep_val rfl (pnil_val hx hu hb (.inr rfl))) (hf ▸ k)
theorem SQ.make {e : TypeId} {k1 k2 : IntKind} {a b : Int} (hw : Region.wanted ⟨dst, .makeSlice t x y, ty, pos, edges, guard⟩ (pyield ops fr) = true) (hx : evalO fr x = some (.int k1 a)) (hy : evalO fr y = some (.int k2 b)) (hu : P.underlying t = some (.slice e)) (ha : 0 ≤ a ∧ 0 ≤ b)
    (hr : pmake P σ t e a.toNat b.toNat = some (r, σ1)) (hf : pput fr dst r = fr1) (k : SQ P call fl ops l fr1 σ1 K) : SQ P call fl ops (⟨dst, .makeSlice t x y, ty, pos, edges, guard⟩ :: l) fr σ K :=
  .step hw (pstep_mem rfl rfl (by simp only [pmem, evalO_ok hx, evalO_ok hy, hu, pasNat, ha.1, ha.2, if_true, hr])) (hf ▸ k)
theorem SQ.convertR {u : TypeId} {id off n size : Nat} (hw : Region.wanted ⟨dst, .convert u t x, ty, pos, edges, guard⟩ (pyield ops fr) = true) (hx : evalO fr x = some (.sref id off n size)) (hc : tconv u t = true) (hr : prowStr P σ u t (.sref id off n size) = some r) (hf : pput fr dst r = fr1) (k : SQ P call fl ops l fr1 σ K) :
    SQ P call fl ops (⟨dst, .convert u t x, ty, pos, edges, guard⟩ :: l) fr σ K := by
  have h1 : pconv P u t (.sref id off n size) = none := by
    unfold pconv
    split <;> first | rfl | contradiction
  have h2 : pcopies P u t (.sref id off n size) = none := by
    unfold pcopies
    split <;> first | rfl | contradiction
  exact .step hw (pstep_mem rfl (by simp only [pval, evalO_ok hx, h1]) (by simp only [pmem, evalO_ok hx, hc, if_true, h2, hr])) (hf ▸ k)
theorem SQ.unOp {op : UnOp} (hw : Region.wanted ⟨dst, .unOp op t x, ty, pos, edges, guard⟩ (pyield ops fr) = true) (hx : evalO fr x = some p) (hr : pun op p = some r) (hf : pput fr dst r = fr1) (k : SQ P call fl ops l fr1 σ K) :
    SQ P call fl ops (⟨dst, .unOp op t x, ty, pos, edges, guard⟩ :: l) fr σ K :=
  .step hw (pstep_val rfl (by simp only [pval, evalO_ok hx, hr])) (hf ▸ k)
/-- A conversion: of numbers, of texts, or one that copies bytes. -/
def pconvAll (P : Program) (u t : TypeId) (p : PD) : Option PD := match pconv P u t p with
  | some r => some r
  | none => if tconv u t = true then pcopies P u t p else none
attribute [simp] pconvAll
theorem SQ.convert {u : TypeId} (hw : Region.wanted ⟨dst, .convert u t x, ty, pos, edges, guard⟩ (pyield ops fr) = true) (hx : evalO fr x = some p) (hr : pconvAll P u t p = some r) (hf : pput fr dst r = fr1) (k : SQ P call fl ops l fr1 σ K) :
    SQ P call fl ops (⟨dst, .convert u t x, ty, pos, edges, guard⟩ :: l) fr σ K :=
  .step hw (by
    unfold pconvAll at hr
    unfold pstep pop
    simp only [pcallee, pval, evalO_ok hx]
    split at hr
    · rename_i r' h'
      simp only [Option.some.injEq] at hr
      subst hr
      rw [h']
    · rename_i h'
      rw [h']
      split at hr
      · rename_i hc
        simp only [pmem, evalO_ok hx, hr]
        rw [if_pos hc]
      · cases hr) (hf ▸ k)
theorem SQ.makeFunc {f : FuncId} {cap : Array Operand} {cs : List PD} (hw : Region.wanted ⟨dst, .makeFunc (.func f) #[] cap, ty, pos, edges, guard⟩ (pyield ops fr) = true) (hx : evalsO fr cap.toList = some cs) (hf : pput fr dst (.func f cs) = fr1) (k : SQ P call fl ops l fr1 σ K) :
    SQ P call fl ops (⟨dst, .makeFunc (.func f) #[] cap, ty, pos, edges, guard⟩ :: l) fr σ K :=
  .step hw (pstep_val rfl (by simp [pval, evalsO_ok hx])) (hf ▸ k)
theorem SQ.slice {lo hi mx : Option Operand} {lo' hi' mx' : Option (Option PD)} (hw : Region.wanted ⟨dst, .slice t x lo hi mx, ty, pos, edges, guard⟩ (pyield ops fr) = true) (hx : evalO fr x = some p) (h1 : optO fr lo = some lo') (h2 : optO fr hi = some hi') (h3 : optO fr mx = some mx')
    (hr : pslice P t p lo' hi' mx' = some r) (hf : pput fr dst r = fr1) (k : SQ P call fl ops l fr1 σ K) : SQ P call fl ops (⟨dst, .slice t x lo hi mx, ty, pos, edges, guard⟩ :: l) fr σ K := by
  exact .step hw (pstep_val rfl (by simp only [pval, evalO_ok hx, optO_ok h1, optO_ok h2, optO_ok h3, hr])) (hf ▸ k)
theorem SQ.fieldAddr {f : Nat} (hw : Region.wanted ⟨dst, .fieldAddr t x f, ty, pos, edges, guard⟩ (pyield ops fr) = true) (hx : evalO fr x = some p) (hr : pfieldAddr P t p f = some r) (hf : pput fr dst r = fr1) (k : SQ P call fl ops l fr1 σ K) :
    SQ P call fl ops (⟨dst, .fieldAddr t x f, ty, pos, edges, guard⟩ :: l) fr σ K :=
  .step hw (pstep_val rfl (by simp only [pval, evalO_ok hx, hr])) (hf ▸ k)
theorem SQ.field {f : Nat} (hw : Region.wanted ⟨dst, .field t x f, ty, pos, edges, guard⟩ (pyield ops fr) = true) (hx : evalO fr x = some p) (hr : pfield P t p f = some r) (hf : pput fr dst r = fr1) (k : SQ P call fl ops l fr1 σ K) :
    SQ P call fl ops (⟨dst, .field t x f, ty, pos, edges, guard⟩ :: l) fr σ K :=
  .step hw (pstep_val rfl (by simp only [pval, evalO_ok hx, hr])) (hf ▸ k)
theorem SQ.indexAddr (hw : Region.wanted ⟨dst, .indexAddr t x y, ty, pos, edges, guard⟩ (pyield ops fr) = true) (hx : evalO fr x = some p) (hy : evalO fr y = some q) (hr : pindexAddr P t p q = some r) (hf : pput fr dst r = fr1) (k : SQ P call fl ops l fr1 σ K) :
    SQ P call fl ops (⟨dst, .indexAddr t x y, ty, pos, edges, guard⟩ :: l) fr σ K :=
  .step hw (pstep_val rfl (by simp only [pval, evalO_ok hx, evalO_ok hy, hr])) (hf ▸ k)
theorem SQ.index (hw : Region.wanted ⟨dst, .index t x y, ty, pos, edges, guard⟩ (pyield ops fr) = true) (hx : evalO fr x = some p) (hy : evalO fr y = some q) (hr : pindex P t p q = some r) (hf : pput fr dst r = fr1) (k : SQ P call fl ops l fr1 σ K) :
    SQ P call fl ops (⟨dst, .index t x y, ty, pos, edges, guard⟩ :: l) fr σ K :=
  .step hw (pstep_val rfl (by simp only [pval, evalO_ok hx, evalO_ok hy, hr])) (hf ▸ k)
theorem SQ.extract {i : Nat} {vs : List PD} (hw : Region.wanted ⟨dst, .extract x i, ty, pos, edges, guard⟩ (pyield ops fr) = true) (hx : evalO fr x = some (.tup vs)) (hr : vs[i]? = some r) (hf : pput fr dst r = fr1) (k : SQ P call fl ops l fr1 σ K) :
    SQ P call fl ops (⟨dst, .extract x i, ty, pos, edges, guard⟩ :: l) fr σ K :=
  .step hw (pstep_val rfl (by simp only [pval, evalO_ok hx, hr])) (hf ▸ k)
def PD.isPtr : PD → Bool
  | .ptr _ _ => true
  | .eptr _ _ => true
  | _ => false
theorem SQ.nilCheckP (hw : Region.wanted ⟨dst, .nilCheck x, ty, pos, edges, guard⟩ (pyield ops fr) = true) (hx : evalO fr x = some p) (hp : p.isPtr = true) (hf : pput fr dst p = fr1) (k : SQ P call fl ops l fr1 σ K) :
    SQ P call fl ops (⟨dst, .nilCheck x, ty, pos, edges, guard⟩ :: l) fr σ K :=
  .step hw (pstep_val rfl (by
    simp only [pval, evalO_ok hx]
    cases p <;> first | rfl | (cases hp; done))) (hf ▸ k)
theorem SQ.nilCheck {id off : Nat} (hw : Region.wanted ⟨dst, .nilCheck x, ty, pos, edges, guard⟩ (pyield ops fr) = true) (hx : evalO fr x = some (.ptr id off)) (hf : pput fr dst (.ptr id off) = fr1) (k : SQ P call fl ops l fr1 σ K) :
    SQ P call fl ops (⟨dst, .nilCheck x, ty, pos, edges, guard⟩ :: l) fr σ K :=
  .step hw (pstep_val rfl (by simp only [pval, evalO_ok hx])) (hf ▸ k)
theorem SQ.build {parts : Array (Nat × Operand)} {ps : List (Nat × PD)} (hw : Region.wanted ⟨dst, .build t parts, ty, pos, edges, guard⟩ (pyield ops fr) = true) (hx : evalPartsO fr parts.toList = some ps) (hr : pbuild P t ps = some r) (hf : pput fr dst r = fr1) (k : SQ P call fl ops l fr1 σ K) :
    SQ P call fl ops (⟨dst, .build t parts, ty, pos, edges, guard⟩ :: l) fr σ K :=
  .step hw (pstep_val rfl (by simp only [pval, evalPartsO_ok hx, hr])) (hf ▸ k)
theorem SQ.builtin {b : Builtin} {args : Array Operand} {ts : Array TypeId} {ps : List PD} (hw : Region.wanted ⟨dst, .call { callee := .builtin b, args := args, argTypes := ts }, ty, pos, edges, guard⟩ (pyield ops fr) = true) (hx : evalsO fr args.toList = some ps) (hr : pbuiltin P b ts ps = some r)
    (hf : pput fr dst r = fr1) (k : SQ P call fl ops l fr1 σ K) : SQ P call fl ops (⟨dst, .call { callee := .builtin b, args := args, argTypes := ts }, ty, pos, edges, guard⟩ :: l) fr σ K :=
  .step hw (pstep_val rfl (by simp only [pval, evalsO_ok hx, hr])) (hf ▸ k)

theorem SQ.load (hw : Region.wanted ⟨dst, .load t x, ty, pos, edges, guard⟩ (pyield ops fr) = true) (hx : evalO fr x = some p) (hr : pload P σ t p = some r) (hf : pput fr dst r = fr1) (k : SQ P call fl ops l fr1 σ K) : SQ P call fl ops (⟨dst, .load t x, ty, pos, edges, guard⟩ :: l) fr σ K :=
  .step hw (pstep_mem rfl rfl (by simp only [pmem, evalO_ok hx, hr])) (hf ▸ k)
theorem SQ.store (hw : Region.wanted ⟨dst, .store t x y, ty, pos, edges, guard⟩ (pyield ops fr) = true) (hx : evalO fr x = some p) (hy : evalO fr y = some q) (hr : pstore P fl σ t p q = some σ1) (hf : pput fr dst (.tup []) = fr1) (k : SQ P call fl ops l fr1 σ1 K) :
    SQ P call fl ops (⟨dst, .store t x y, ty, pos, edges, guard⟩ :: l) fr σ K :=
  .step hw (pstep_mem rfl rfl (by simp only [pmem, evalO_ok hx, evalO_ok hy, hr])) (hf ▸ k)
theorem SQ.alloc {p' : PD} (hw : Region.wanted ⟨dst, .alloc t, ty, pos, edges, guard⟩ (pyield ops fr) = true) (hx : pzero P t = some p) (hp : p.cells.all PD.plain = true) (hb : boxed t p = p') (hr : σ ++ [.box p'] = σ1) {n : Nat} (hn : σ.length = n) (hf : pput fr dst (.ptr n 0) = fr1) (k : SQ P call fl ops l fr1 σ1 K) :
    SQ P call fl ops (⟨dst, .alloc t, ty, pos, edges, guard⟩ :: l) fr σ K := by
  subst hb hr hn
  exact .step hw (pstep_mem rfl rfl (by simp only [pmem, hx, hp, if_true])) (hf ▸ k)
theorem SQ.box (hw : Region.wanted ⟨dst, .box t x, ty, pos, edges, guard⟩ (pyield ops fr) = true) (hx : evalO fr x = some p) (hp : p.cells.all PD.plain = true) (hr : σ ++ [.box p] = σ1) {n : Nat} (hn : σ.length = n) (hf : pput fr dst (.ptr n 0) = fr1) (k : SQ P call fl ops l fr1 σ1 K) :
    SQ P call fl ops (⟨dst, .box t x, ty, pos, edges, guard⟩ :: l) fr σ K := by
  subst hr hn
  exact .step hw (pstep_mem rfl rfl (by simp only [pmem, evalO_ok hx, hp, if_true])) (hf ▸ k)
theorem SQ.buildSlice {len : Nat} {parts : Array (Nat × Operand)} {ps : List (Nat × PD)} (hw : Region.wanted ⟨dst, .buildSlice t len parts, ty, pos, edges, guard⟩ (pyield ops fr) = true) (hx : evalPartsO fr parts.toList = some ps) (hr : pnewSlice P t len (ps.map fun q => (q.1, q.2.strip)) = some r)
    (hf : pput fr dst r = fr1) (k : SQ P call fl ops l fr1 σ K) : SQ P call fl ops (⟨dst, .buildSlice t len parts, ty, pos, edges, guard⟩ :: l) fr σ K :=
  .step hw (pstep_mem rfl rfl (by simp only [pmem, evalPartsO_ok hx, hr])) (hf ▸ k)
theorem SQ.append (hw : Region.wanted ⟨dst, .call { callee := .builtin .append, args := #[x, y], argTypes := #[t, t] }, ty, pos, edges, guard⟩ (pyield ops fr) = true) (hx : evalO fr x = some p) (hy : evalO fr y = some q)
    (hr : pappend P fl σ t p q.strip = some (r, σ1)) (hf : pput fr dst r = fr1) (k : SQ P call fl ops l fr1 σ1 K) : SQ P call fl ops (⟨dst, .call { callee := .builtin .append, args := #[x, y], argTypes := #[t, t] }, ty, pos, edges, guard⟩ :: l) fr σ K := by
  refine .step hw (pstep_mem rfl ?_ ?_) (hf ▸ k)
  · simp only [pval, pevals, evalO_ok hx, evalO_ok hy, pbuiltin]
  · simp only [pmem, pevals, evalO_ok hx, evalO_ok hy, if_true, hr]

theorem SQ.fcall {g : Operand} {args : Array Operand} {ts : Array TypeId} {f : FuncId} {cap ps : List PD} (hw : Region.wanted ⟨dst, .call { callee := .value g, args := args, argTypes := ts }, ty, pos, edges, guard⟩ (pyield ops fr) = true) (hg : evalO fr g = some (.func f cap))
    (hx : evalsO fr args.toList = some ps) (hr : call fl (.inl f) (ps ++ cap) σ = some (r, σ1)) (hf : pput fr dst r = fr1) (k : SQ P call fl ops l fr1 σ1 K) : SQ P call fl ops (⟨dst, .call { callee := .value g, args := args, argTypes := ts }, ty, pos, edges, guard⟩ :: l) fr σ K := by
  refine .step hw ?_ (hf ▸ k)
  simp only [pstep, pcallee, evalO_ok hg, evalsO_ok hx, hr]

/-! ### whole regions -/
theorem Run.bodyL {f : FuncId} {fn : Func} {c : Code} {args fr : List PD} {p : PD} (hE : E f = none) (hf : P.funcs[f]? = some fn) (hb : fn.body = some c) (hfr : args ++ List.replicate (fn.ntmps - args.length) (.tup []) = fr)
    (h : Wp P E none c 0 fr [] [] (fun r => ∃ p1 σ1, pfinish P 0 fn r = some (p1, σ1) ∧ p1.strip = p)) : Run P E f args p := by
  subst hfr
  exact Run.body hE hf hb h
theorem WpC.bodyL {f : FuncId} {fn : Func} {c : Code} {args : List PD} {R : PD → List SObj → Prop} (hE : E f = none) (hf : P.funcs[f]? = some fn) (hb : fn.body = some c) (hfr : args ++ List.replicate (fn.ntmps - args.length) (.tup []) = fr)
    (h : Wp P E none c fl fr [] σ (fun r => ∃ p1 σ1, pfinish P fl fn r = some (p1, σ1) ∧ R p1 σ1)) : WpC P E fl (.inl f) args σ R := by
  subst hfr
  exact WpC.body hE hf hb h

theorem Wp.regionS {id : Nat} (h : SQ P (pcallE E) fl ops ops.toList fr σ (fun fr' σ' => Q ⟨.normal, fr', ms, σ'⟩)) : Wp P E rd (.region id ops false) fl fr ms σ Q := by
  obtain ⟨fr', σ', h1, h2⟩ := h.ex
  exact .region h1 h2
theorem Wp.drawPS {id : Nat} (hU : Uni E) (hs : (fastOk ops && noOwn ops) = true) (h : SQ P (pcallP E) fl ops ops.toList fr σ (fun fr' σ' => Q ⟨.normal, fr', ms, σ'⟩)) : Wp P E rd (.region id ops true) fl fr ms σ Q := by
  obtain ⟨fr', σ', h1, h2⟩ := h.ex
  exact .drawP hU hs h1 h2
theorem Wp.drawFS {id : Nat} (hs : (fastOk ops && fastFree ops) = true) (h : SQ P (pcallE E) fl ops ops.toList fr σ (fun fr' σ' => Q ⟨.normal, fr', ms, σ'⟩)) : Wp P E rd (.region id ops true) fl fr ms σ Q := by
  obtain ⟨fr', σ', h1, h2⟩ := h.ex
  exact .drawF hs h1 h2

/-- A region with one call that is known by its run: the k operations before it, it, and the rest. -/
theorem Wp.regionY (k : Nat) {id : Nat} {o : Oper} {rest : List Oper} (hk : ops.toList = ops.toList.take k ++ o :: rest) (h : SQ P (pcallE E) fl ops (ops.toList.take k) fr σ (fun fr1 σ1 => Region.wanted o (pyield ops fr1) = true ∧ ∃ tg args, pcallee fr1 o.op = some (tg, args) ∧
      WpC P E fl tg args σ1 (fun p σ2 => ∃ fr2, pput fr1 o.dst p = fr2 ∧ SQ P (pcallE E) fl ops rest fr2 σ2 (fun fr' σ' => Q ⟨.normal, fr', ms, σ'⟩)))) : Wp P E rd (.region id ops false) fl fr ms σ Q := by
  obtain ⟨fr1, σ1, h1, hw, tg, args, hc, h2⟩ := h.ex
  obtain ⟨p, σ2, ⟨N, h3⟩, fr2, hf2, h4⟩ := h2.ex
  subst hf2
  obtain ⟨fr', σ', h5, h6⟩ := h4.ex
  refine .regionO ⟨N, fr', σ', fun n hn => ?_, h6⟩
  rw [← pseq_pd, hk]
  have e : ∀ (l l' : List Oper) (fr : List PD) (σ : List SObj), pseq P (pcall P E n) fl ops (l ++ l') fr σ = (match pseq P (pcall P E n) fl ops l fr σ with | some (fr1, σ1) => pseq P (pcall P E n) fl ops l' fr1 σ1 | none => none) := by
    intro l
    induction l with
    | nil => intro l' fr σ; rfl
    | cons o l ih =>
      intro l' fr σ
      simp only [List.cons_append, pseq]
      split
      · cases pstep P (pcall P E n) fl fr σ o.op with
        | none => rfl
        | some q => obtain ⟨p, σ'⟩ := q; simp only; exact ih l' _ _
      · exact ih l' _ _
  rw [e, pseq_up h1]
  simp only [pseq, hw, if_true, pstep, hc, h3 n hn]
  exact pseq_up h5
theorem YQ {o : Oper} {rest : List Oper} {tg : FuncId ⊕ Nat} {args : List PD} {K : List PD → List SObj → Prop} (hw : Region.wanted o (pyield ops fr) = true) (hc : pcallee fr o.op = some (tg, args))
    (h : WpC P E fl tg args σ (fun p σ2 => ∃ fr2, pput fr o.dst p = fr2 ∧ SQ P (pcallE E) fl ops rest fr2 σ2 K)) : Region.wanted o (pyield ops fr) = true ∧ ∃ tg args, pcallee fr o.op = some (tg, args) ∧ WpC P E fl tg args σ (fun p σ2 => ∃ fr2, pput fr o.dst p = fr2 ∧ SQ P (pcallE E) fl ops rest fr2 σ2 K) :=
  ⟨hw, tg, args, hc, h⟩

theorem Rounds.here {id : Nat} {K : List SObj → Prop} {items : List (List PD)} {σ σ2 : List SObj} (h : Rounds P E fl id K items σ σ2) : K σ := by cases h <;> assumption
theorem Rounds.inv {id : Nat} {K : List SObj → Prop} {a : List PD} {items : List (List PD)} {σ σ2 : List SObj} (h : Rounds P E fl id K (a :: items) σ σ2) :
    (∃ σ1, EvC P E fl (.inr id) a σ (.bool true) σ1 ∧ Rounds P E fl id K items σ1 σ2) ∨ EvC P E fl (.inr id) a σ (.bool false) σ2 := by
  cases h with
  | more h1 h2 h3 => exact .inl ⟨_, h2, h3⟩
  | stop h1 h2 => exact .inr h2
theorem Rounds.inv_nil {id : Nat} {K : List SObj → Prop} {σ σ2 : List SObj} (h : Rounds P E fl id K [] σ σ2) : σ2 = σ := by cases h; rfl

/-- What is to hold behind one time round of a loop with an invariant. -/
structure LoopI (I : Nat → List PD → List SObj → Prop) (m : Nat) (ms : List Nat) (Q : PO → Prop) (r : PO) : Prop where
  nx : r.x = .normal → r.ms = ms ∧ ∃ m', m' < m ∧ I m' r.fr r.σ
  out : r.x ≠ .normal → Q r

theorem LoopI.normal {I : Nat → List PD → List SObj → Prop} {m : Nat} (m' : Nat) (h : m' < m) (k : I m' fr σ) : LoopI I m ms Q ⟨.normal, fr, ms, σ⟩ := ⟨fun _ => ⟨rfl, m', h, k⟩, fun e => absurd rfl e⟩
theorem LoopI.ret {I : Nat → List PD → List SObj → Prop} {m : Nat} {ms' : List Nat} (h : Q ⟨.ret, fr, ms', σ⟩) : LoopI I m ms Q ⟨.ret, fr, ms', σ⟩ := ⟨fun e => (by cases e), fun _ => h⟩
theorem LoopI.exit {I : Nat → List PD → List SObj → Prop} {m k : Nat} {ms' : List Nat} (h : Q ⟨.exit k, fr, ms', σ⟩) : LoopI I m ms Q ⟨.exit k, fr, ms', σ⟩ := ⟨fun e => (by cases e), fun _ => h⟩

theorem Wp.loopI {b : Code} (I : Nat → List PD → List SObj → Prop) (h : ∀ m fr σ, I m fr σ → Wp P E rd b fl fr ms σ (LoopI I m ms Q)) : ∀ m {fr σ}, I m fr σ → Wp P E rd (.loop b) fl fr ms σ Q := by
  intro m
  induction m using Nat.strongRecOn with
  | ind m ih =>
    intro fr σ hi
    refine Wp.loop ((h m fr σ hi).mono fun r hr => ⟨fun e => ?_, fun e => hr.out e⟩)
    obtain ⟨e1, m', h1, h2⟩ := hr.nx e
    rw [e1]
    exact ih m' h1 h2
end
end Go.Kz

/-
  Ranges over functions with the loop's record held abstract.
-/
namespace Go.Kz

section
variable {P : Program} {E : PExt} {rd : Option Nat} {fl : Nat} {fr frA : List PD} {ms : List Nat} {σ : List SObj} {Q : PO → Prop}

/-- How a round ends. -/
def RoundR (R : PD → List SObj → Prop) (id : Nat) (L : SObj) (fr0 : List PD) (ps : List Tmp) (asg bd : Code) (r : PO) : Prop :=
  match r.x with
  | .normal => R (.bool true) (r.σ.set id L)
  | .ret => R (.bool false) (r.σ.set id (.loop (.done .ret) fr0 ps asg bd))
  | .exit k => R (.bool false) (r.σ.set id (.loop (.done (.exit k)) fr0 ps asg bd))

theorem WpC.roundL {id : Nat} {args : List PD} {R : PD → List SObj → Prop} {fr0 : List PD} {ps : List Tmp} {asg bd : Code} {L : SObj} (hL : L = .loop .ready fr0 ps asg bd) (hfl : fl ≤ id) (h0 : σ[id]? = some L) (hl : args.length = ps.length) (hfr : pargs fr0 ps args = frA)
    (h : ∀ LB, LB = SObj.loop .busy fr0 ps asg bd → Wp P E (some id) asg fl frA [] σ (fun r => r.x = .normal ∧ r.σ[id]? = some L ∧ ∃ σB, r.σ.set id LB = σB ∧
      Wp P E (some id) bd fl r.fr r.ms σB (fun r2 => r2.σ[id]? = some LB ∧ RoundR R id L fr0 ps asg bd r2))) : WpC P E fl (.inr id) args σ R := by
  subst hL hfr
  refine WpC.round hfl h0 hl ((h _ rfl).mono fun r hr => ?_)
  obtain ⟨e1, e2, σB, rfl, hw⟩ := hr
  refine ⟨e1, _, _, _, _, e2, hw.mono fun r2 h2 => ⟨_, _, _, _, h2.1, ?_⟩⟩
  have h3 := h2.2
  unfold RoundR at h3
  cases hx : r2.x <;> simp only [hx] at h3 ⊢ <;> exact h3

theorem Wp.rangeFuncL {g : Operand} {ps : Array Tmp} {asg bd : Code} {gf : FuncId} {cap : List PD} {K : List SObj → Prop} {items : List (List PD)} {n : Nat} {σ1 : SObj → List SObj} (hit : Iter P E gf cap K items) (hg : evalO fr g = some (.func gf cap)) (hn : σ.length = n) (hfl : fl ≤ n)
    (hσ : ∀ L, σ ++ [.mark] ++ [L] = σ1 L)
    (h : ∀ L, L = SObj.loop .ready fr ps.toList asg bd → RoundsQ P E fl (n + 1) K items (σ1 L) (fun σ2 => ∃ r, pleave (n + 1) fr (n :: ms) σ2 = some r ∧ Q r)) : Wp P E none (.rangeFunc g ps asg bd) fl fr ms σ Q := by
  subst hn
  have := h _ rfl
  rw [← hσ] at this
  exact Wp.rangeFunc (evalO_ok hg) hfl hit this

theorem RoundsQ.ind {α : Type} {id : Nat} {K R : List SObj → Prop} (item : α → List PD) (I : List α → List α → List SObj → Prop)
    (h : ∀ done a rest σ, I done (a :: rest) σ → K σ ∧ WpC P E fl (.inr id) (item a) σ (fun p σ1 => (p = .bool true ∧ I (done ++ [a]) rest σ1) ∨ (p = .bool false ∧ R σ1))) (h0 : ∀ done σ, I done [] σ → K σ ∧ R σ) :
    ∀ rest done σ, I done rest σ → RoundsQ P E fl id K (rest.map item) σ R
  | [], done, σ, hi => .nil (h0 done σ hi).1 (h0 done σ hi).2
  | a :: rest, done, σ, hi => .cons (h done a rest σ hi).1 ((h done a rest σ hi).2.mono fun p σ1 hp => hp.imp (fun ⟨e, k⟩ => ⟨e, RoundsQ.ind item I h h0 rest _ _ k⟩) (fun x => x))

end
end Go.Kz

/-
  From a pure run that answers true to the law: what stands behind the call.
-/
namespace Go.Kz
open Go.RowKit Go.ChangeShapes

/-- A closed call, run once. -/
theorem ExtOk.addOnce {P : Program} {E : PExt} (hE : ExtOk P E) (hP : P.follows .mixedOrders = true) {f : FuncId} {b : Bool} {N : Nat} {σ1 : List SObj} (h : pcall P E N 0 (.inl f) [] [] = some (.bool b, σ1)) :
    ExtOk P (E.add f (entry (gf0 Em.bool (some b)))) := by
  intro F fl f' g' args c vs p σ' hF hg hgo hs hX hv
  unfold PExt.add at hg
  split at hg
  · rename_i e
    subst e
    simp only [Option.some.injEq] at hg; subst hg
    match args, hgo, hv with
    | [], hgo, hv =>
      simp only [entry, gf0, Option.some.injEq, Prod.mk.injEq] at hgo
      obtain ⟨rfl, rfl⟩ := hgo
      have hv0 : VRs c.bare vs [] := ⟨hv.1, fun i v d _ h2 => by simp at h2⟩
      have := (pcall_ok hE hP hF N).fn (c := c.bare) h hs.bare (fun _ _ h => h.elim) hv0
      refine ⟨this.1, fun m => CallsIn.mono (this.2 m) fun e w' he => ?_⟩
      cases e with
      | returned v =>
        obtain ⟨c1, rfl, rfl, hs1, nx, hvv, _⟩ := he
        have hgr : c.w.grownBy c1.w none := ⟨nx.os, nx.tape, nx.output, nx.size, fun k hk _ => nx.frame k hk (fun _ h => h.elim)⟩
        refine ⟨c.at c1.w, rfl, rfl, hs.grow hgr, Nx.grow hs hgr, ?_, fun _ h => .inl h⟩
        rw [hvv.inv_bool]
        exact .bool b
      | panicked ch => exact he.elim
      | outgrown => exact he.elim
  · exact hE hF hg hgo hs hX hv

theorem Run.calls {P : Program} {E : PExt} (hE : ExtOk P E) (hP : P.follows .mixedOrders = true) (hN : ∀ (f : FuncId) fn, P.funcs[f]? = some fn → (fn.name == "runtime.NumGoroutine") = false)
    {f : FuncId} {args : List PD} {vs : Array Value} {w : World} {b : Bool} (h : Run P E f args (.bool b)) (hg : Gl (.start w)) (hv : VRs (.start w) vs.toList args) :
    Calls P f vs w fun e w' => e = .returned (.bool b) ∧ Below w.heap.size w w' := by
  obtain ⟨p1, σ1, ⟨N, hN'⟩, hp⟩ := h
  have hb : p1 = .bool b := by
    cases p1 with
    | slice n xs tok => cases xs <;> simp [PD.strip] at hp
    | _ => simpa [PD.strip] using hp
  subst hb
  have := calls_bool hE hP hN (hN' N (Nat.le_refl _)) hg hv
  simpa using this

section
variable {H : Type} {enc : TypeId × Value → H} {P : Program}

theorem trodAll_below (hl : laidOutB P = true) {W W' : World} (hb : Below W.heap.size W W') : ∀ (ts : List TypeId) (vs : List Value) (ds : List (DataW H)) (ps : List MemPlace), (∀ t ∈ ts, P.readableRec t = true ∧ t < P.types.size) → (∀ x ∈ ps, x.block < W.heap.size) →
    DataW.TrodAll enc P W 0 (fun _ => true) true ts vs ds ps → DataW.TrodAll enc P W' 0 (fun b => decide (b < W.heap.size)) true ts vs ds ps
  | [], [], [], _, _, _, h => h
  | t :: ts, v :: vs, d :: ds, ps, ht, hp, h => by
    obtain ⟨p, q, h1, h2, rfl⟩ := h
    obtain ⟨h3, h4⟩ := ht t (by simp)
    exact ⟨p, q, Below.trod hl h3 h4 h1 hb (fun x hx => hp x (by simp [hx])), trodAll_below hl hb ts vs ds q (fun t' h' => ht t' (by simp [h'])) (fun x hx => hp x (by simp [hx])) h2, rfl⟩
  | [], [], _ :: _, _, _, _, h => h.elim
  | [], _ :: _, _, _, _, _, h => by cases h
  | _ :: _, [], _, _, _, _, h => by cases h
  | _ :: _, _ :: _, [], _, _, _, h => h.elim

/-- The law's answer is true, and its arguments read as they did. -/
theorem law_post (hl : laidOutB P = true) {f : Func} {s : ChangeSpec} {W W' : World} {args : Array Value} {ds gs : List (DataW H)} {before : List MemPlace} {tb : TypeId} (hvars : s.vars = [])
    (hW : DataW.Whole enc P f.params.toList s.vars false W args.toList ds gs before) (hb : Below W.heap.size W W') (hres : f.resultTypes = #[tb]) (htb : P.underlying tb = some .bool)
    (hps : (f.params.toList.all fun t => P.readableRec t && decide (t < P.types.size)) = true) (hs : ∀ ds : List (DataW H), gs = [] → ds.length = f.params.size → s.fn H (ds ++ gs) = { results := [.lit (.bool true)], args := ds }) :
    s.post enc P f false true false false W args (.bool true) W' := by
  have hW' := hW
  obtain ⟨p, q, hA, hV, rfl, hfz, hnd⟩ := hW
  rw [hvars] at hV
  obtain ⟨rfl, rfl⟩ : gs = [] ∧ q = [] := by
    cases gs with
    | nil => exact ⟨rfl, hV⟩
    | cons g r => exact absurd hV (by intro h; cases h)
  have hlen : ds.length = f.params.size := by
    have : ∀ (ts : List TypeId) (vs : List Value) (ds : List (DataW H)) (ps : List MemPlace), DataW.TrodAll enc P W 0 (fun _ => true) true ts vs ds ps → ds.length = ts.length := by
      intro ts
      induction ts with
      | nil =>
        intro vs ds ps h
        cases vs <;> cases ds <;> first | rfl | (exact h.elim) | cases h
      | cons t ts ih =>
        intro vs ds ps h
        cases vs with
        | nil => cases h
        | cons v vs =>
          cases ds with
          | nil => exact h.elim
          | cons d ds =>
            obtain ⟨p, q, _, h2, _⟩ := h
            simp [ih vs ds q h2]
    have := this _ _ _ _ hA
    simpa using this
  have e := hs ds rfl hlen
  have hlt : ∀ x ∈ p, x.block < W.heap.size := fun x hx => by simpa using hW'.lt x (by simpa using hx)
  refine ⟨ds, [], _, [], p, [], hW', ?_, ?_, ?_, hb.frame _, fun h => by cases h⟩
  · rw [e, hres]; exact trodAll_mk1 (shut_bool htb true)
  · rw [e]
    exact trodAll_below hl hb _ _ _ _ (fun t ht => by simpa using List.all_eq_true.1 hps t ht) hlt hA
  · rw [e, hvars]; rfl

end
end Go.Kz

/-
  The rules for operations, with their conditions marked by how they are shown.
-/
namespace Go.Kz

/-- By simp. -/
structure By (p : Prop) : Prop where
  h : p
/-- A frame. -/
structure Fr (p : Prop) : Prop where
  h : p
/-- A guard. -/
structure Wt (p : Prop) : Prop where
  h : p
/-- A store. -/
structure Ns (p : Prop) : Prop where
  h : p
theorem By.i {p : Prop} (h : p) : By p := ⟨h⟩
theorem Fr.i {p : Prop} (h : p) : Fr p := ⟨h⟩
theorem Wt.i {p : Prop} (h : p) : Wt p := ⟨h⟩
theorem Ns.i {p : Prop} (h : p) : Ns p := ⟨h⟩

section
variable {P : Program} {E : PExt} {call : PCall} {rd : Option Nat} {fl : Nat} {fr fr1 : List PD} {ms : List Nat} {σ σ1 : List SObj} {Q : PO → Prop} {ops : Array Oper} {K : List PD → List SObj → Prop} {l : List Oper} {dst : Option Tmp}
  {ty : TypeId} {pos : String} {edges : Array Edge} {guard : Option (Nat × Bool)} {t : TypeId} {x y : Operand} {p q r : PD}

theorem SL.move (hw : Wt (Region.wanted ⟨dst, .move x, ty, pos, edges, guard⟩ (pyield ops fr) = true)) (hx : evalO fr x = some p) (hf : Fr (pput fr dst p = fr1)) (k : SQ P call fl ops l fr1 σ K) : SQ P call fl ops (⟨dst, .move x, ty, pos, edges, guard⟩ :: l) fr σ K := SQ.move hw.h hx hf.h k
theorem SL.assign (hw : Wt (Region.wanted ⟨dst, .assign x, ty, pos, edges, guard⟩ (pyield ops fr) = true)) (hx : evalO fr x = some p) (hf : Fr (pput fr dst p = fr1)) (k : SQ P call fl ops l fr1 σ K) : SQ P call fl ops (⟨dst, .assign x, ty, pos, edges, guard⟩ :: l) fr σ K := SQ.assign hw.h hx hf.h k
theorem SL.pick {c : Operand} {b : Bool} (hw : Wt (Region.wanted ⟨dst, .pick c x y, ty, pos, edges, guard⟩ (pyield ops fr) = true)) (hc : evalO fr c = some (.bool b)) (hx : cond b (evalO fr x) (evalO fr y) = some p) (hf : Fr (pput fr dst p = fr1)) (k : SQ P call fl ops l fr1 σ K) :
    SQ P call fl ops (⟨dst, .pick c x y, ty, pos, edges, guard⟩ :: l) fr σ K := SQ.pick hw.h hc hx hf.h k
theorem SL.binOp {op : BinOp} {u : TypeId} (hw : Wt (Region.wanted ⟨dst, .binOp op t x y u, ty, pos, edges, guard⟩ (pyield ops fr) = true)) (hx : evalO fr x = some p) (hy : evalO fr y = some q) (hr : By (pbin P op t p q = some r)) (hf : Fr (pput fr dst r = fr1)) (k : SQ P call fl ops l fr1 σ K) :
    SQ P call fl ops (⟨dst, .binOp op t x y u, ty, pos, edges, guard⟩ :: l) fr σ K := SQ.binOp hw.h hx hy hr.h hf.h k
theorem SL.isnilE {e : TypeId} {b : Bool} {u : TypeId} (hw : Wt (Region.wanted ⟨dst, .binOp .eql t x (.const (.slice none 0 0)) u, ty, pos, edges, guard⟩ (pyield ops fr) = true)) (hx : evalO fr x = some p) (hu : By (P.underlying t = some (.slice e))) (hb : By (pisnil p = some b)) (hf : Fr (pput fr dst (.bool b) = fr1)) (k : SQ P call fl ops l fr1 σ K) :
    SQ P call fl ops (⟨dst, .binOp .eql t x (.const (.slice none 0 0)) u, ty, pos, edges, guard⟩ :: l) fr σ K := SQ.isnilE hw.h hx hu.h hb.h hf.h k
theorem SL.isnilN {e : TypeId} {b : Bool} {u : TypeId} (hw : Wt (Region.wanted ⟨dst, .binOp .neq t x (.const (.slice none 0 0)) u, ty, pos, edges, guard⟩ (pyield ops fr) = true)) (hx : evalO fr x = some p) (hu : By (P.underlying t = some (.slice e))) (hb : By (pisnil p = some b)) (hf : Fr (pput fr dst (.bool (!b)) = fr1)) (k : SQ P call fl ops l fr1 σ K) :
    SQ P call fl ops (⟨dst, .binOp .neq t x (.const (.slice none 0 0)) u, ty, pos, edges, guard⟩ :: l) fr σ K := SQ.isnilN hw.h hx hu.h hb.h hf.h k
theorem SL.make {e : TypeId} {k1 k2 : IntKind} {a b : Int} (hw : Wt (Region.wanted ⟨dst, .makeSlice t x y, ty, pos, edges, guard⟩ (pyield ops fr) = true)) (hx : evalO fr x = some (.int k1 a)) (hy : evalO fr y = some (.int k2 b)) (hu : By (P.underlying t = some (.slice e))) (ha : Wt (0 ≤ a ∧ 0 ≤ b))
    (hr : By (pmake P σ t e a.toNat b.toNat = some (r, σ1))) (hf : Fr (pput fr dst r = fr1)) (k : SQ P call fl ops l fr1 σ1 K) : SQ P call fl ops (⟨dst, .makeSlice t x y, ty, pos, edges, guard⟩ :: l) fr σ K := SQ.make hw.h hx hy hu.h ha.h hr.h hf.h k
theorem SL.convertR {u : TypeId} {id off n size : Nat} (hx : evalO fr x = some (.sref id off n size)) (hw : Wt (Region.wanted ⟨dst, .convert u t x, ty, pos, edges, guard⟩ (pyield ops fr) = true)) (hc : By (tconv u t = true)) (hr : By (prowStr P σ u t (.sref id off n size) = some r)) (hf : Fr (pput fr dst r = fr1)) (k : SQ P call fl ops l fr1 σ K) :
    SQ P call fl ops (⟨dst, .convert u t x, ty, pos, edges, guard⟩ :: l) fr σ K := SQ.convertR hw.h hx hc.h hr.h hf.h k
theorem SL.unOp {op : UnOp} (hw : Wt (Region.wanted ⟨dst, .unOp op t x, ty, pos, edges, guard⟩ (pyield ops fr) = true)) (hx : evalO fr x = some p) (hr : By (pun op p = some r)) (hf : Fr (pput fr dst r = fr1)) (k : SQ P call fl ops l fr1 σ K) :
    SQ P call fl ops (⟨dst, .unOp op t x, ty, pos, edges, guard⟩ :: l) fr σ K := SQ.unOp hw.h hx hr.h hf.h k
theorem SL.convert {u : TypeId} (hw : Wt (Region.wanted ⟨dst, .convert u t x, ty, pos, edges, guard⟩ (pyield ops fr) = true)) (hx : evalO fr x = some p) (hr : By (pconvAll P u t p = some r)) (hf : Fr (pput fr dst r = fr1)) (k : SQ P call fl ops l fr1 σ K) :
    SQ P call fl ops (⟨dst, .convert u t x, ty, pos, edges, guard⟩ :: l) fr σ K := SQ.convert hw.h hx hr.h hf.h k
theorem SL.makeFunc {f : FuncId} {cap : Array Operand} {cs : List PD} (hw : Wt (Region.wanted ⟨dst, .makeFunc (.func f) #[] cap, ty, pos, edges, guard⟩ (pyield ops fr) = true)) (hx : evalsO fr cap.toList = some cs) (hf : Fr (pput fr dst (.func f cs) = fr1)) (k : SQ P call fl ops l fr1 σ K) :
    SQ P call fl ops (⟨dst, .makeFunc (.func f) #[] cap, ty, pos, edges, guard⟩ :: l) fr σ K := SQ.makeFunc hw.h hx hf.h k
theorem SL.slice {lo hi mx : Option Operand} {lo' hi' mx' : Option (Option PD)} (hw : Wt (Region.wanted ⟨dst, .slice t x lo hi mx, ty, pos, edges, guard⟩ (pyield ops fr) = true)) (hx : evalO fr x = some p) (h1 : optO fr lo = some lo') (h2 : optO fr hi = some hi') (h3 : optO fr mx = some mx')
    (hr : By (pslice P t p lo' hi' mx' = some r)) (hf : Fr (pput fr dst r = fr1)) (k : SQ P call fl ops l fr1 σ K) : SQ P call fl ops (⟨dst, .slice t x lo hi mx, ty, pos, edges, guard⟩ :: l) fr σ K := SQ.slice hw.h hx h1 h2 h3 hr.h hf.h k
theorem SL.fieldAddr {f : Nat} (hw : Wt (Region.wanted ⟨dst, .fieldAddr t x f, ty, pos, edges, guard⟩ (pyield ops fr) = true)) (hx : evalO fr x = some p) (hr : By (pfieldAddr P t p f = some r)) (hf : Fr (pput fr dst r = fr1)) (k : SQ P call fl ops l fr1 σ K) :
    SQ P call fl ops (⟨dst, .fieldAddr t x f, ty, pos, edges, guard⟩ :: l) fr σ K := SQ.fieldAddr hw.h hx hr.h hf.h k
theorem SL.field {f : Nat} (hw : Wt (Region.wanted ⟨dst, .field t x f, ty, pos, edges, guard⟩ (pyield ops fr) = true)) (hx : evalO fr x = some p) (hr : By (pfield P t p f = some r)) (hf : Fr (pput fr dst r = fr1)) (k : SQ P call fl ops l fr1 σ K) :
    SQ P call fl ops (⟨dst, .field t x f, ty, pos, edges, guard⟩ :: l) fr σ K := SQ.field hw.h hx hr.h hf.h k
theorem SL.indexAddr (hw : Wt (Region.wanted ⟨dst, .indexAddr t x y, ty, pos, edges, guard⟩ (pyield ops fr) = true)) (hx : evalO fr x = some p) (hy : evalO fr y = some q) (hr : By (pindexAddr P t p q = some r)) (hf : Fr (pput fr dst r = fr1)) (k : SQ P call fl ops l fr1 σ K) :
    SQ P call fl ops (⟨dst, .indexAddr t x y, ty, pos, edges, guard⟩ :: l) fr σ K := SQ.indexAddr hw.h hx hy hr.h hf.h k
theorem SL.index (hw : Wt (Region.wanted ⟨dst, .index t x y, ty, pos, edges, guard⟩ (pyield ops fr) = true)) (hx : evalO fr x = some p) (hy : evalO fr y = some q) (hr : By (pindex P t p q = some r)) (hf : Fr (pput fr dst r = fr1)) (k : SQ P call fl ops l fr1 σ K) :
    SQ P call fl ops (⟨dst, .index t x y, ty, pos, edges, guard⟩ :: l) fr σ K := SQ.index hw.h hx hy hr.h hf.h k
theorem SL.extract {i : Nat} {vs : List PD} (hw : Wt (Region.wanted ⟨dst, .extract x i, ty, pos, edges, guard⟩ (pyield ops fr) = true)) (hx : evalO fr x = some (.tup vs)) (hr : vs[i]? = some r) (hf : Fr (pput fr dst r = fr1)) (k : SQ P call fl ops l fr1 σ K) :
    SQ P call fl ops (⟨dst, .extract x i, ty, pos, edges, guard⟩ :: l) fr σ K := SQ.extract hw.h hx hr hf.h k
theorem SL.nilCheck (hw : Wt (Region.wanted ⟨dst, .nilCheck x, ty, pos, edges, guard⟩ (pyield ops fr) = true)) (hx : evalO fr x = some p) (hp : Wt (p.isPtr = true)) (hf : Fr (pput fr dst p = fr1)) (k : SQ P call fl ops l fr1 σ K) :
    SQ P call fl ops (⟨dst, .nilCheck x, ty, pos, edges, guard⟩ :: l) fr σ K := SQ.nilCheckP hw.h hx hp.h hf.h k
theorem SL.build {parts : Array (Nat × Operand)} {ps : List (Nat × PD)} (hw : Wt (Region.wanted ⟨dst, .build t parts, ty, pos, edges, guard⟩ (pyield ops fr) = true)) (hx : evalPartsO fr parts.toList = some ps) (hr : By (pbuild P t ps = some r)) (hf : Fr (pput fr dst r = fr1)) (k : SQ P call fl ops l fr1 σ K) :
    SQ P call fl ops (⟨dst, .build t parts, ty, pos, edges, guard⟩ :: l) fr σ K := SQ.build hw.h hx hr.h hf.h k
theorem SL.builtin {b : Builtin} {args : Array Operand} {ts : Array TypeId} {ps : List PD} (hw : Wt (Region.wanted ⟨dst, .call { callee := .builtin b, args := args, argTypes := ts }, ty, pos, edges, guard⟩ (pyield ops fr) = true)) (hx : evalsO fr args.toList = some ps) (hr : By (pbuiltin P b ts ps = some r))
    (hf : Fr (pput fr dst r = fr1)) (k : SQ P call fl ops l fr1 σ K) : SQ P call fl ops (⟨dst, .call { callee := .builtin b, args := args, argTypes := ts }, ty, pos, edges, guard⟩ :: l) fr σ K := SQ.builtin hw.h hx hr.h hf.h k
theorem SL.load (hw : Wt (Region.wanted ⟨dst, .load t x, ty, pos, edges, guard⟩ (pyield ops fr) = true)) (hx : evalO fr x = some p) (hr : By (pload P σ t p = some r)) (hf : Fr (pput fr dst r = fr1)) (k : SQ P call fl ops l fr1 σ K) : SQ P call fl ops (⟨dst, .load t x, ty, pos, edges, guard⟩ :: l) fr σ K := SQ.load hw.h hx hr.h hf.h k
theorem SL.store (hw : Wt (Region.wanted ⟨dst, .store t x y, ty, pos, edges, guard⟩ (pyield ops fr) = true)) (hx : evalO fr x = some p) (hy : evalO fr y = some q) (hr : By (pstore P fl σ t p q = some σ1)) (hf : Fr (pput fr dst (.tup []) = fr1)) (k : SQ P call fl ops l fr1 σ1 K) :
    SQ P call fl ops (⟨dst, .store t x y, ty, pos, edges, guard⟩ :: l) fr σ K := SQ.store hw.h hx hy hr.h hf.h k
theorem SL.alloc {p' : PD} (hw : Wt (Region.wanted ⟨dst, .alloc t, ty, pos, edges, guard⟩ (pyield ops fr) = true)) (hx : By (pzero P t = some p)) (hp : p.cells.all PD.plain = true) (hb : By (boxed t p = p')) (hr : Ns (σ ++ [.box p'] = σ1)) {n : Nat} (hn : Ns (σ.length = n)) (hf : Fr (pput fr dst (.ptr n 0) = fr1)) (k : SQ P call fl ops l fr1 σ1 K) :
    SQ P call fl ops (⟨dst, .alloc t, ty, pos, edges, guard⟩ :: l) fr σ K := SQ.alloc hw.h hx.h hp hb.h hr.h hn.h hf.h k
theorem SL.box (hw : Wt (Region.wanted ⟨dst, .box t x, ty, pos, edges, guard⟩ (pyield ops fr) = true)) (hx : evalO fr x = some p) (hp : p.cells.all PD.plain = true) (hr : Ns (σ ++ [.box p] = σ1)) {n : Nat} (hn : Ns (σ.length = n)) (hf : Fr (pput fr dst (.ptr n 0) = fr1)) (k : SQ P call fl ops l fr1 σ1 K) :
    SQ P call fl ops (⟨dst, .box t x, ty, pos, edges, guard⟩ :: l) fr σ K := SQ.box hw.h hx hp hr.h hn.h hf.h k
theorem SL.buildSlice {len : Nat} {parts : Array (Nat × Operand)} {ps : List (Nat × PD)} (hw : Wt (Region.wanted ⟨dst, .buildSlice t len parts, ty, pos, edges, guard⟩ (pyield ops fr) = true)) (hx : evalPartsO fr parts.toList = some ps) (hr : By (pnewSlice P t len (ps.map fun q => (q.1, q.2.strip)) = some r))
    (hf : Fr (pput fr dst r = fr1)) (k : SQ P call fl ops l fr1 σ K) : SQ P call fl ops (⟨dst, .buildSlice t len parts, ty, pos, edges, guard⟩ :: l) fr σ K := SQ.buildSlice hw.h hx hr.h hf.h k
theorem SL.append (hw : Wt (Region.wanted ⟨dst, .call { callee := .builtin .append, args := #[x, y], argTypes := #[t, t] }, ty, pos, edges, guard⟩ (pyield ops fr) = true)) (hx : evalO fr x = some p) (hy : evalO fr y = some q)
    (hr : By (pappend P fl σ t p q.strip = some (r, σ1))) (hf : Fr (pput fr dst r = fr1)) (k : SQ P call fl ops l fr1 σ1 K) : SQ P call fl ops (⟨dst, .call { callee := .builtin .append, args := #[x, y], argTypes := #[t, t] }, ty, pos, edges, guard⟩ :: l) fr σ K := SQ.append hw.h hx hy hr.h hf.h k
theorem SL.fcall {g : Operand} {args : Array Operand} {ts : Array TypeId} {f : FuncId} {cap ps : List PD} (hw : Wt (Region.wanted ⟨dst, .call { callee := .value g, args := args, argTypes := ts }, ty, pos, edges, guard⟩ (pyield ops fr) = true)) (hg : evalO fr g = some (.func f cap))
    (hx : evalsO fr args.toList = some ps) (hr : By (call fl (.inl f) (ps ++ cap) σ = some (r, σ1))) (hf : Fr (pput fr dst r = fr1)) (k : SQ P call fl ops l fr1 σ1 K) : SQ P call fl ops (⟨dst, .call { callee := .value g, args := args, argTypes := ts }, ty, pos, edges, guard⟩ :: l) fr σ K := SQ.fcall hw.h hg hx hr.h hf.h k

theorem SL.pass {op : Op} {g : Nat × Bool} (hw : Wt (Region.wanted ⟨dst, op, ty, pos, edges, some g⟩ (pyield ops fr) = false)) (hf : Fr (pput fr dst (.tup []) = fr1)) (k : SQ P call fl ops l fr1 σ K) : SQ P call fl ops (⟨dst, op, ty, pos, edges, some g⟩ :: l) fr σ K :=
  SQ.pass (o := ⟨dst, op, ty, pos, edges, some g⟩) hw.h hf.h k

/-- Every call names its function. -/
def noDyn (ops : Array Oper) : Bool := ops.toList.all fun o => match o.op with
  | .call { callee := .value (.tmp _), .. } => false
  | _ => true
theorem WL.reg {id : Nat} {y : Code} (_hs : noDyn ops = true) (h : SQ P (pcallE E) fl ops ops.toList fr σ (fun fr' σ' => Wp P E rd y fl fr' ms σ' Q)) : Wp P E rd (.seq (.region id ops false) y) fl fr ms σ Q := by
  obtain ⟨fr', σ', h1, h2⟩ := h.ex
  exact .seq (.region h1 (.normal h2))
theorem WL.drawP {id : Nat} {y : Code} (hU : Uni E) (_hd : noDyn ops = true) (hs : (fastOk ops && noOwn ops) = true) (h : SQ P (pcallP E) fl ops ops.toList fr σ (fun fr' σ' => Wp P E rd y fl fr' ms σ' Q)) : Wp P E rd (.seq (.region id ops true) y) fl fr ms σ Q := by
  obtain ⟨fr', σ', h1, h2⟩ := h.ex
  exact .seq (.drawP hU hs h1 (.normal h2))
theorem WL.drawF {id : Nat} {y : Code} (_hd : noDyn ops = true) (hs : (fastOk ops && fastFree ops) = true) (h : SQ P (pcallE E) fl ops ops.toList fr σ (fun fr' σ' => Wp P E rd y fl fr' ms σ' Q)) : Wp P E rd (.seq (.region id ops true) y) fl fr ms σ Q := by
  obtain ⟨fr', σ', h1, h2⟩ := h.ex
  exact .seq (.drawF hs h1 (.normal h2))
theorem WL.reg1 {id : Nat} (_hs : noDyn ops = true) (h : SQ P (pcallE E) fl ops ops.toList fr σ (fun fr' σ' => Q ⟨.normal, fr', ms, σ'⟩)) : Wp P E rd (.region id ops false) fl fr ms σ Q := .regionS h
theorem WL.skip {y : Code} (h : Wp P E rd y fl fr ms σ Q) : Wp P E rd (.seq .skip y) fl fr ms σ Q := .seq (.skip (.normal h))
theorem WL.ct {g : Operand} {x y : Code} (hg : evalO fr g = some (.bool true)) (h1 : Wp P E rd x fl fr ms σ Q) : Wp P E rd (.cond g x y) fl fr ms σ Q := .cond_true (evalO_ok hg) h1
theorem WL.cf {g : Operand} {x y : Code} (hg : evalO fr g = some (.bool false)) (h1 : Wp P E rd y fl fr ms σ Q) : Wp P E rd (.cond g x y) fl fr ms σ Q := .cond_false (evalO_ok hg) h1
/-- A frame of which only some places are known. -/
theorem exF {c : Prop} {σ σ' : List SObj} {fr : List PD} {A : (Nat → PD) → List PD} (hc : c) (h : fr = A (fun n => fr.getD n (.tup []))) (hs : σ = σ') : ∃ g : Nat → PD, c ∧ fr = A g ∧ σ = σ' := ⟨_, hc, h, hs⟩

end
end Go.Kz

/-
  A drawn region with one call that is known by its run.
-/
namespace Go.Kz

theorem WL.drawP1 {P : Program} {E : PExt} {rd : Option Nat} {fl : Nat} {fr : List PD} {ms : List Nat} {σ : List SObj} {Q : PO → Prop} {ops : Array Oper} {id : Nat} (hU : Uni E) (_hd : noDyn ops = true) (hs : (fastOk ops && noOwn ops) = true) (h : SQ P (pcallP E) fl ops ops.toList fr σ (fun fr' σ' => Q ⟨.normal, fr', ms, σ'⟩)) :
    Wp P E rd (.region id ops true) fl fr ms σ Q := .drawPS hU hs h
theorem WL.drawF1 {P : Program} {E : PExt} {rd : Option Nat} {fl : Nat} {fr : List PD} {ms : List Nat} {σ : List SObj} {Q : PO → Prop} {ops : Array Oper} {id : Nat} (_hd : noDyn ops = true) (hs : (fastOk ops && fastFree ops) = true) (h : SQ P (pcallE E) fl ops ops.toList fr σ (fun fr' σ' => Q ⟨.normal, fr', ms, σ'⟩)) :
    Wp P E rd (.region id ops true) fl fr ms σ Q := .drawFS hs h

theorem Wp.drawY {P : Program} {E : PExt} {rd : Option Nat} {fl : Nat} {fr : List PD} {ms : List Nat} {σ : List SObj} {Q : PO → Prop} {ops : Array Oper} (k : Nat) {id : Nat} {o : Oper} {rest : List Oper} (hs : (fastOk ops && fastFree ops) = true) (hk : ops.toList = ops.toList.take k ++ o :: rest)
    (h : SQ P (pcallE E) fl ops (ops.toList.take k) fr σ (fun fr1 σ1 => Region.wanted o (pyield ops fr1) = true ∧ ∃ tg args, pcallee fr1 o.op = some (tg, args) ∧
      WpC P E fl tg args σ1 (fun p σ2 => ∃ fr2, pput fr1 o.dst p = fr2 ∧ SQ P (pcallE E) fl ops rest fr2 σ2 (fun fr' σ' => Q ⟨.normal, fr', ms, σ'⟩)))) : Wp P E rd (.region id ops true) fl fr ms σ Q := by
  obtain ⟨fr1, σ1, h1, hw, tg, args, hc, h2⟩ := h.ex
  obtain ⟨p, σ2, ⟨N, h3⟩, fr2, hf2, h4⟩ := h2.ex
  subst hf2
  obtain ⟨fr', σ', h5, h6⟩ := h4.ex
  refine .drawFO hs ⟨N, fr', σ', fun n hn => ?_, h6⟩
  rw [← pseq_pd, hk]
  have e : ∀ (l l' : List Oper) (fr : List PD) (σ : List SObj), pseq P (pcall P E n) fl ops (l ++ l') fr σ = (match pseq P (pcall P E n) fl ops l fr σ with | some (fr1, σ1) => pseq P (pcall P E n) fl ops l' fr1 σ1 | none => none) := by
    intro l
    induction l with
    | nil => intro l' fr σ; rfl
    | cons o l ih =>
      intro l' fr σ
      simp only [List.cons_append, pseq]
      split
      · cases pstep P (pcall P E n) fl fr σ o.op with
        | none => rfl
        | some q => obtain ⟨p, σ'⟩ := q; simp only; exact ih l' _ _
      · exact ih l' _ _
  rw [e, pseq_up h1]
  simp only [pseq, hw, if_true, pstep, hc, h3 n hn]
  exact pseq_up h5

end Go.Kz

/-
  '==' at structs and arrays of plain cells.
-/
namespace Go.Kz

/-- How a cell is compared. -/
inductive CK where
  | b
  | i (k : IntKind)
  | s

def andO (c : Bool) : Option Bool → Option Bool
  | some d => some (c && d)
  | none => none

def cmpK : List CK → List PD → List PD → Option Bool
  | [], [], [] => some true
  | .b :: ks, .bool a :: xs, .bool b :: ys => andO (decide (a = b)) (cmpK ks xs ys)
  | .i k :: ks, .int k1 a :: xs, .int k2 b :: ys => if k1 = k ∧ k2 = k then andO (decide (a = b)) (cmpK ks xs ys) else none
  | .s :: ks, .str a :: xs, .str b :: ys => andO (decide (a = b)) (cmpK ks xs ys)
  | _, _, _ => none

def pplanF (pl : TypeId → Option (List CK)) (P : Program) : Nat → List Field → Option (List CK)
  | _, [] => some []
  | off, f :: fs => if f.name = "_" ∨ f.offset ≠ off then none else
    match pl f.type, psize P f.type with
    | some ks, some n => if ks.length = n ∧ 0 < n then (match pplanF pl P (off + n) fs with | some r => some (ks ++ r) | none => none) else none
    | _, _ => none

/-- The cells of a type, where all are plain. -/
def pplan (P : Program) : Nat → TypeId → Option (List CK)
  | 0, _ => none
  | d + 1, t => match P.underlying t with
    | some .bool => some [.b]
    | some (.int k) => some [.i k]
    | some .string => some [.s]
    | some (.struct fs) => if P.stoodInHeld t then none else pplanF (pplan P d) P 0 fs.toList
    | some (.array len e) => match pplan P d e, psize P e with
      | some ks, some n => if ks.length = n ∧ 0 < n then some (List.replicate len ks).flatten else none
      | _, _ => none
    | _ => none

/-- A datum of a type, with its cells. -/
def CellsAs (P : Program) (t : TypeId) (x : PD) (xs : List PD) : Prop := (pagg P t = some true ∧ x = .agg xs) ∨ (pagg P t = some false ∧ xs = [x])

theorem cmpK_nil : ∀ {xs ys : List PD} {b : Bool}, cmpK [] xs ys = some b → b = true
  | [], [], b, h => by simp only [cmpK, Option.some.injEq] at h; exact h.symm
  | [], _ :: _, _, h => by simp [cmpK] at h
  | _ :: _, _, _, h => by simp [cmpK] at h

theorem cmpK_append : ∀ (ks r : List CK) (xs ys : List PD) (b : Bool), cmpK (ks ++ r) xs ys = some b →
    ∃ b1 b2, cmpK ks (xs.take ks.length) (ys.take ks.length) = some b1 ∧ cmpK r (xs.drop ks.length) (ys.drop ks.length) = some b2 ∧ b = (b1 && b2) ∧ ks.length ≤ xs.length ∧ ks.length ≤ ys.length
  | [], r, xs, ys, b, h => ⟨true, b, rfl, h, by simp, by simp, by simp⟩
  | k :: ks, r, xs, ys, b, h => by
    have key : ∀ (c : Bool) (us vs : List PD), andO c (cmpK (ks ++ r) us vs) = some b → ∃ b1 b2, andO c (cmpK ks (us.take ks.length) (vs.take ks.length)) = some b1 ∧ cmpK r (us.drop ks.length) (vs.drop ks.length) = some b2 ∧ b = (b1 && b2) ∧ ks.length ≤ us.length ∧ ks.length ≤ vs.length := by
      intro c us vs hc
      cases h1 : cmpK (ks ++ r) us vs with
      | none => rw [h1] at hc; cases hc
      | some d =>
        rw [h1] at hc
        simp only [andO, Option.some.injEq] at hc
        obtain ⟨b1, b2, e1, e2, e3, e4, e5⟩ := cmpK_append ks r us vs d h1
        exact ⟨c && b1, b2, by rw [e1]; rfl, e2, by rw [← hc, e3, Bool.and_assoc], e4, e5⟩
    match k, xs, ys, h with
    | .b, .bool a :: xs, .bool a' :: ys, h =>
      obtain ⟨b1, b2, e1, e2, e3, e4, e5⟩ := key _ xs ys h
      exact ⟨b1, b2, e1, e2, e3, by simpa using e4, by simpa using e5⟩
    | .i k, .int k1 a :: xs, .int k2 a' :: ys, h =>
      simp only [List.cons_append, cmpK] at h
      split at h
      · rename_i hk
        obtain ⟨b1, b2, e1, e2, e3, e4, e5⟩ := key _ xs ys h
        exact ⟨b1, b2, by simpa only [List.length_cons, List.take_succ_cons, cmpK, if_pos hk] using e1, e2, e3, by simpa using e4, by simpa using e5⟩
      · cases h
    | .s, .str a :: xs, .str a' :: ys, h =>
      obtain ⟨b1, b2, e1, e2, e3, e4, e5⟩ := key _ xs ys h
      exact ⟨b1, b2, e1, e2, e3, by simpa using e4, by simpa using e5⟩

section
variable {P : Program}

theorem plan_agg {d : Nat} {t : TypeId} {ks : List CK} (h : pplan P d t = some ks) : (pagg P t = some true) ∨ (pagg P t = some false ∧ ks.length = 1) := by
  cases d with
  | zero => cases h
  | succ d =>
    unfold pplan at h
    unfold pagg
    split at h <;> rename_i hu <;> try simp only [hu]
    · right; simp only [Option.some.injEq] at h; subst h; exact ⟨trivial, rfl⟩
    · right; simp only [Option.some.injEq] at h; subst h; exact ⟨trivial, rfl⟩
    · right; simp only [Option.some.injEq] at h; subst h; exact ⟨trivial, rfl⟩
    · left; trivial
    · left; trivial
    · cases h

theorem plan_part {d : Nat} {t : TypeId} {ks : List CK} (h : pplan P d t = some ks) (hs : psize P t = some ks.length) {xs : List PD} {off : Nat} (hl : off + ks.length ≤ xs.length) : ∃ x, ppart P t xs off = some x ∧ CellsAs P t x ((xs.drop off).take ks.length) := by
  rcases plan_agg h with ha | ⟨ha, h1⟩
  · exact ⟨_, by simp only [ppart, ha, hs, hl, if_true], .inl ⟨ha, rfl⟩⟩
  · rw [h1] at hl
    have hlt : off < xs.length := by omega
    refine ⟨xs[off], by simp only [ppart, ha, hs, List.getElem?_eq_getElem hlt], .inr ⟨ha, ?_⟩⟩
    rw [h1, List.drop_eq_getElem_cons hlt]
    rfl

theorem peqIn_plan : ∀ (d : Nat) (t : TypeId) (ks : List CK) (x y : PD) (xs ys : List PD) (b : Bool), pplan P d t = some ks → CellsAs P t x xs → CellsAs P t y ys → cmpK ks xs ys = some b → peqIn P d t x y = some b
  | 0, _, _, _, _, _, _, _, h, _, _, _ => by cases h
  | d + 1, t, ks, x, y, xs, ys, b, h, hx, hy, hc => by
    unfold pplan at h
    unfold peqIn
    have fin : ∀ {z : PD} {zs : List PD}, CellsAs P t z zs → pagg P t = some true → z = .agg zs := fun hz ha => by
      rcases hz with ⟨_, e⟩ | ⟨e, _⟩
      · exact e
      · rw [ha] at e; cases e
    have one : ∀ {z : PD} {zs : List PD}, CellsAs P t z zs → pagg P t = some false → zs = [z] := fun hz ha => by
      rcases hz with ⟨e, _⟩ | ⟨_, e⟩
      · rw [ha] at e; cases e
      · exact e
    split at h <;> rename_i hu <;> try simp only [hu]
    · simp only [Option.some.injEq] at h; subst h
      have ha : pagg P t = some false := by simp only [pagg, hu]
      rw [one hx ha, one hy ha] at hc
      cases x <;> cases y <;> simp only [cmpK, reduceCtorEq] at hc ⊢
      simpa [andO, BEq.beq] using hc
    · rename_i k
      simp only [Option.some.injEq] at h; subst h
      have ha : pagg P t = some false := by simp only [pagg, hu]
      rw [one hx ha, one hy ha] at hc
      cases x <;> cases y <;> simp only [cmpK, reduceCtorEq] at hc ⊢
      split at hc
      · rename_i hk
        rw [if_pos (hk.1.trans hk.2.symm)]
        simpa [andO, BEq.beq] using hc
      · cases hc
    · simp only [Option.some.injEq] at h; subst h
      have ha : pagg P t = some false := by simp only [pagg, hu]
      rw [one hx ha, one hy ha] at hc
      cases x <;> cases y <;> simp only [cmpK, reduceCtorEq] at hc ⊢
      simp only [andO, Bool.and_true, Option.some.injEq] at hc
      rw [← hc]; congr 1; rw [Bool.eq_iff_iff]; simp
    · rename_i fs
      split at h
      · cases h
      · rename_i hst
        have ha : pagg P t = some true := by simp only [pagg, hu]
        obtain rfl := fin hx ha
        obtain rfl := fin hy ha
        simp only [hst, Bool.false_eq_true, if_false]
        have key : ∀ (fs : List Field) (off : Nat) (r : List CK) (b : Bool), pplanF (pplan P d) P off fs = some r → cmpK r (xs.drop off) (ys.drop off) = some b → peqFields (peqIn P d) P xs ys fs = some b := by
          intro fs
          induction fs with
          | nil =>
            intro off r b hr hb
            simp only [pplanF, Option.some.injEq] at hr
            subst hr
            unfold peqFields
            rw [cmpK_nil hb]
          | cons f fs ih =>
            intro off r b hr hb
            simp only [pplanF] at hr
            split at hr
            · cases hr
            · rename_i hn
              have hn1 : ¬ f.name = "_" := fun e => hn (.inl e)
              have hn2 : f.offset = off := by
                rcases Nat.decEq f.offset off with e | e
                · exact absurd (.inr e) hn
                · exact e
              split at hr
              · rename_i ks n h1 h2
                split at hr
                · rename_i hlen
                  split at hr
                  · rename_i r' h3
                    simp only [Option.some.injEq] at hr
                    subst hr
                    obtain ⟨b1, b2, e1, e2, e3, e4, e5⟩ := cmpK_append _ _ _ _ _ hb
                    obtain ⟨hlen, hpos⟩ := hlen
                    have hpart : ∀ {zs : List PD}, ks.length ≤ (zs.drop off).length → ∃ x, ppart P f.type zs off = some x ∧ CellsAs P f.type x ((zs.drop off).take ks.length) := by
                      intro zs hz
                      simp only [List.length_drop] at hz
                      exact plan_part h1 (by rw [h2, hlen]) (by omega)
                    obtain ⟨x1, p1, c1⟩ := hpart e4
                    obtain ⟨y1, p2, c2⟩ := hpart e5
                    have q := peqIn_plan d f.type ks x1 y1 _ _ b1 h1 c1 c2 e1
                    unfold peqFields
                    rw [if_neg hn1, hn2]
                    simp only [p1, p2, q]
                    rw [List.drop_drop, List.drop_drop, hlen] at e2
                    have q2 := ih (off + n) r' b2 h3 e2
                    cases b1 with
                    | true => simpa [e3] using q2
                    | false => simp [e3]
                  · cases hr
                · cases hr
              · cases hr
        exact key fs.toList 0 ks b h (by simpa using hc)
    · rename_i len e
      split at h
      · rename_i ks' n h1 h2
        split at h
        · rename_i hlen
          simp only [Option.some.injEq] at h
          subst h
          have ha : pagg P t = some true := by simp only [pagg, hu]
          obtain rfl := fin hx ha
          obtain rfl := fin hy ha
          simp only [h2]
          have key : ∀ (m i : Nat) (b : Bool), cmpK (List.replicate m ks').flatten (xs.drop (i * n)) (ys.drop (i * n)) = some b → peqArr (peqIn P d e) P e n xs ys i m = some b := by
            intro m
            induction m with
            | zero =>
              intro i b hb
              unfold peqArr
              simp only [List.replicate_zero, List.flatten_nil] at hb
              rw [cmpK_nil hb]
            | succ m ih =>
              intro i b hb
              rw [List.replicate_succ, List.flatten_cons] at hb
              obtain ⟨b1, b2, e1, e2, e3, e4, e5⟩ := cmpK_append _ _ _ _ _ hb
              obtain ⟨hlen, hpos⟩ := hlen
              have hpart : ∀ {zs : List PD}, ks'.length ≤ (zs.drop (i * n)).length → ∃ x, ppart P e zs (i * n) = some x ∧ CellsAs P e x ((zs.drop (i * n)).take ks'.length) := by
                intro zs hz
                simp only [List.length_drop] at hz
                exact plan_part h1 (by rw [h2, hlen]) (by omega)
              obtain ⟨x1, p1, c1⟩ := hpart e4
              obtain ⟨y1, p2, c2⟩ := hpart e5
              have q := peqIn_plan d e ks' x1 y1 _ _ b1 h1 c1 c2 e1
              unfold peqArr
              simp only [p1, p2, q]
              rw [List.drop_drop, List.drop_drop, hlen, ← Nat.succ_mul] at e2
              have q2 := ih (i + 1) b2 e2
              cases b1 with
              | true => simpa [e3] using q2
              | false => simp [e3]
          exact key len 0 b (by simpa using hc)
        · cases h
      · cases h
    · cases h

theorem pbin_eql_plan {t : TypeId} {ks : List CK} {xs ys : List PD} {b : Bool} (hg : P.eqGuardType P.depth t = false) (h : pplan P 12 t = some ks) (ha : pagg P t = some true) (hc : cmpK ks xs ys = some b) :
    pbin P .eql t (.agg xs) (.agg ys) = some (.bool b) := by
  have := peqIn_plan 12 t ks _ _ _ _ b h (.inl ⟨ha, rfl⟩) (.inl ⟨ha, rfl⟩) hc
  simp only [pbin, peq, hg, Bool.false_eq_true, if_false, this]
theorem pbin_neq_plan {t : TypeId} {ks : List CK} {xs ys : List PD} {b : Bool} (hg : P.eqGuardType P.depth t = false) (h : pplan P 12 t = some ks) (ha : pagg P t = some true) (hc : cmpK ks xs ys = some b) :
    pbin P .neq t (.agg xs) (.agg ys) = some (.bool (!b)) := by
  have := peqIn_plan 12 t ks _ _ _ _ b h (.inl ⟨ha, rfl⟩) (.inl ⟨ha, rfl⟩) hc
  simp only [pbin, peq, hg, Bool.false_eq_true, if_false, this]

end
end Go.Kz

/-
  Lists written out, as typed data.
-/
namespace Go.Kz

section
variable {α : Type} {e : Em α} {k : Nat} {tok : Tok}

noncomputable def Em.decs (e : Em α) : List PD → Option (List α)
  | [] => some []
  | p :: ps => match e.dec p, e.decs ps with
    | some x, some xs => some (x :: xs)
    | _, _ => none

theorem Em.decs_some : ∀ {ps : List PD} {xs : List α}, e.decs ps = some xs → ps.map PD.strip = xs.map e.emb
  | [], xs, h => by simp only [Em.decs, Option.some.injEq] at h; subst h; rfl
  | p :: ps, xs, h => by
    simp only [Em.decs] at h
    split at h
    · rename_i x ys h1 h2
      simp only [Option.some.injEq] at h; subst h
      simp only [List.map_cons, Em.of_dec h1, Em.decs_some h2]
    · cases h

theorem Em.decs_of : ∀ {ps : List PD} {xs : List α}, ps.map PD.strip = xs.map e.emb → e.decs ps = some xs
  | [], [], _ => rfl
  | [], _ :: _, h => by simp at h
  | _ :: _, [], h => by simp at h
  | p :: ps, x :: xs, h => by
    simp only [List.map_cons, List.cons.injEq] at h
    simp only [Em.decs, Em.dec_some h.1, Em.decs_of h.2]

@[simp] theorem decs_nil : e.decs [] = some [] := rfl
@[simp] theorem decs_cons {p : PD} {ps : List PD} : e.decs (p :: ps) = (match e.dec p, e.decs ps with | some x, some xs => some (x :: xs) | _, _ => none) := rfl
@[simp] theorem dec_list_cons {p : PD} {ps : List PD} : (e.list k).dec (.slice k (p :: ps) tok) = e.decs (p :: ps) := by
  cases h : e.decs (p :: ps) with
  | some xs =>
    have h1 := Em.decs_some h
    refine Em.dec_some ?_
    rw [PD.strip_slice, h1]
    cases xs with
    | nil => simp at h1
    | cons x xs => simp [sz]
  | none =>
    cases h2 : (e.list k).dec (.slice k (p :: ps) tok) with
    | none => rfl
    | some xs =>
      have h3 := Em.of_dec h2
      rw [PD.strip_slice] at h3
      simp only [emb_list, PD.slice.injEq, and_true] at h3
      rw [Em.decs_of h3.2] at h
      cases h

end
end Go.Kz

/-
  Arguments of plain data, of whatever type: what is handed stands for typed data.
-/
namespace Go.Kz
open Go.RowKit

def pureF (pl : TypeId → Bool) (P : Program) : Nat → List Field → Option Nat
  | off, [] => some off
  | off, f :: fs => if f.offset = off ∧ pl f.type = true then pureF pl P (off + P.cellsOf f.type) fs else none

/-- A type of plain data: booleans, integers, strings, slices, structs, arrays. -/
def pureT (P : Program) : Nat → TypeId → Bool
  | 0, _ => false
  | d + 1, t => match P.underlying t with
    | some .bool | some (.int _) | some .string => P.cellsOf t == 1
    | some (.slice e) => P.cellsOf t == 1 && pureT P d e && decide (0 < P.cellsOf e)
    | some (.struct fs) => pureF (pureT P d) P 0 fs.toList == some (P.cellsOf t)
    | some (.array n e) => pureT P d e && P.cellsOf t == n * P.cellsOf e
    | _ => false

def TypedF (T : TypeId → List PD → Prop) : List Field → List PD → Prop
  | [], ps => ps = []
  | f :: fs, ps => ∃ a b, ps = a ++ b ∧ T f.type a ∧ TypedF T fs b

/-- The datum of some cells. -/
def asPD (P : Program) (t : TypeId) (ps : List PD) : PD := match pagg P t with
  | some true => .agg ps
  | _ => ps.headD (.tup [])

/-- Cells of a type. -/
def Typed (P : Program) : Nat → TypeId → List PD → Prop
  | 0, _, _ => False
  | d + 1, t, ps => match P.underlying t with
    | some .bool => ∃ b, ps = [.bool b]
    | some (.int k) => ∃ n, ps = [.int k n] ∧ (Lit.int k n).wf = true
    | some .string => ∃ s, ps = [.str s] ∧ s.length ≤ maxLen
    | some (.slice e) => ∃ xs : List (List PD), xs.length ≤ maxLen ∧ (∀ x ∈ xs, Typed P d e x) ∧ ps = [.slice (sz (P.cellsOf e) xs) (xs.map (asPD P e)) .any]
    | some (.struct fs) => TypedF (Typed P d) fs.toList ps
    | some (.array n e) => ∃ xs : List (List PD), xs.length = n ∧ (∀ x ∈ xs, Typed P d e x) ∧ ps = xs.flatten
    | _ => False

theorem TypedF.length {P : Program} {d : Nat} (ih : ∀ t ps, pureT P d t = true → Typed P d t ps → ps.length = P.cellsOf t) : ∀ (fs : List Field) (off n : Nat) (ps : List PD), pureF (pureT P d) P off fs = some n → TypedF (Typed P d) fs ps → off + ps.length = n
  | [], off, n, ps, h, ht => by
    simp only [pureF, Option.some.injEq] at h
    simp only [TypedF] at ht
    subst ht h
    rfl
  | f :: fs, off, n, ps, h, ht => by
    simp only [pureF] at h
    split at h
    · rename_i hf
      obtain ⟨a, b, rfl, ha, hb⟩ := ht
      have h1 := ih _ _ hf.2 ha
      have h2 := TypedF.length ih fs _ n b h hb
      simp only [List.length_append]
      omega
    · cases h

theorem Typed.length {P : Program} : ∀ (d : Nat) (t : TypeId) (ps : List PD), pureT P d t = true → Typed P d t ps → ps.length = P.cellsOf t
  | 0, _, _, h, _ => by cases h
  | d + 1, t, ps, h, ht => by
    unfold pureT at h
    unfold Typed at ht
    split at h <;> rename_i hu <;> try simp only [hu] at ht
    · obtain ⟨b, rfl⟩ := ht; simp at h; simp [h]
    · obtain ⟨b, rfl, _⟩ := ht; simp at h; simp [h]
    · obtain ⟨b, rfl, _⟩ := ht; simp at h; simp [h]
    · obtain ⟨xs, _, _, rfl⟩ := ht; simp at h; simp [h]
    · simp only [beq_iff_eq] at h
      have := TypedF.length (Typed.length d) _ 0 _ ps h ht
      omega
    · rename_i n e
      simp only [Bool.and_eq_true, beq_iff_eq] at h
      obtain ⟨xs, h1, h2, rfl⟩ := ht
      rw [h.2, ← h1]
      have key : ∀ (xs : List (List PD)), (∀ x ∈ xs, Typed P d e x) → xs.flatten.length = xs.length * P.cellsOf e := by
        intro xs
        induction xs with
        | nil => intro _; simp
        | cons x xs ih =>
          intro hx
          rw [List.flatten_cons, List.length_append, Typed.length d e x h.1 (hx x (by simp)), ih (fun y hy => hx y (by simp [hy])), List.length_cons, Nat.succ_mul]
          omega
      exact key xs h2

section
variable {H : Type} {enc : TypeId × Value → H} {P : Program} {w : World} {base : Nat} {sp : Nat → Bool} {held : Bool}

/-- Cells stand for cells. -/
structure Stands (w : World) (cs : List Value) (ps : List PD) : Prop where
  vrs : VRs (.start w) cs ps
  one : ∀ v ∈ cs, v.oneCell' = true

theorem Stands.nil : Stands w [] [] := ⟨⟨rfl, by simp⟩, by simp⟩
theorem Stands.single {v : Value} {p : PD} (h : VR (.start w) v p) (ho : v.oneCell' = true) : Stands w [v] [p] :=
  ⟨⟨rfl, fun i u d h1 h2 => by cases i with
    | zero => simp at h1 h2; subst h1 h2; exact h
    | succ i => simp at h1⟩, by simpa using ho⟩
theorem Stands.append {a b : List Value} {ps qs : List PD} (h : Stands w a ps) (k : Stands w b qs) : Stands w (a ++ b) (ps ++ qs) :=
  ⟨h.vrs.append k.vrs, fun v hv => (List.mem_append.1 hv).elim (h.one v) (k.one v)⟩

theorem Stands.agg {cs : List Value} {ps : List PD} (h : Stands w cs ps) : VR (.start w) (.agg cs.toArray) (.agg ps) := .agg cs ps h.vrs.1 h.one h.vrs.2

theorem asPD_cells {t : TypeId} {d : Nat} {ps : List PD} (h : pureT P d t = true) (ht : Typed P d t ps) : (asPD P t ps).cells = ps := by
  cases d with
  | zero => cases h
  | succ d =>
    unfold pureT at h
    unfold Typed at ht
    unfold asPD pagg
    split at h <;> rename_i hu <;> try simp only [hu] at ht ⊢
    · obtain ⟨b, rfl⟩ := ht; rfl
    · obtain ⟨b, rfl, _⟩ := ht; rfl
    · obtain ⟨b, rfl, _⟩ := ht; rfl
    · obtain ⟨xs, _, _, rfl⟩ := ht; rfl
    · rfl
    · rfl

theorem trod_bool' {fuel : Nat} {t : TypeId} {cs : List Value} {x : DataW H × List MemPlace} (ht : P.underlying t = some .bool) (h : DataW.trod enc P w base sp held fuel t cs = some x) : ∃ b, cs = [.bool b] := by
  cases fuel with
  | zero => simp [DataW.trod] at h
  | succ n =>
    unfold DataW.trod at h
    rw [ht] at h
    split at h <;> simp_all

theorem trod_typed : ∀ (fuel d : Nat) (t : TypeId) (cs : List Value) (x : DataW H × List MemPlace), DataW.trod enc P w base sp held fuel t cs = some x → pureT P d t = true → ∃ ps, Typed P d t ps ∧ Stands w cs ps
  | _, 0, _, _, _, _, h => by cases h
  | fuel, d + 1, t, cs, x, hx, h => by
    unfold pureT at h
    split at h <;> rename_i hu <;> try simp only [Typed, hu]
    · obtain ⟨b, rfl⟩ := trod_bool' hu hx
      exact ⟨_, ⟨b, rfl⟩, Stands.single (.bool _) rfl⟩
    · rename_i k
      obtain ⟨n, rfl, _, hw⟩ := DataW.trod_int hu hx
      exact ⟨_, ⟨n, rfl, hw⟩, Stands.single (.int _ _) rfl⟩
    · obtain ⟨s, rfl, _, hs⟩ := DataW.trod_string hu hx
      refine ⟨_, ⟨s.data.toList, rfl, by rw [Array.length_toList]; exact hs⟩, Stands.single ?_ rfl⟩
      have : s = ⟨s.data.toList.toArray⟩ := by simp
      conv => lhs; rw [this]
      exact .str _
    · rename_i e
      simp only [Bool.and_eq_true, decide_eq_true_eq] at h
      obtain ⟨⟨_, he⟩, hpos⟩ := h
      rcases DataW.trod_slice hu hx with ⟨rfl, _⟩ | ⟨a, len, cap, elems, rest, n, rfl, rfl, hrest⟩
      · exact ⟨_, ⟨[], by simp, by simp, rfl⟩, Stands.single (.slice none 0 0 0 [] .any [] rfl (Nat.le_refl _) (Nat.zero_le _) (by simp) rfl (by simp) (by simp) (by simp) trivial) rfl⟩
      · obtain ⟨_, hlc, hcm, hel, hall, _, _⟩ := hrest.2
        have key : ∀ (k i : Nat), i + k = len → ∃ (ys : List (List PD)) (fl : List Value), ys.length = k ∧ (∀ y ∈ ys, Typed P d e y) ∧ Stands w fl ys.flatten ∧ fl.length = k * P.cellsOf e ∧
            ∀ (j : Nat) (v : Value), fl[j]? = some v → w.cell? (a.add (i * P.cellsOf e + j)) = some v := by
          intro k
          induction k with
          | zero => intro i _; exact ⟨[], [], rfl, by simp, Stands.nil, by simp, by simp⟩
          | succ k ih =>
            intro i hi
            obtain ⟨ys, fl, h1, h2, h3, h4, h5⟩ := ih (i + 1) (by omega)
            have h6 := hall i (by omega)
            have hlt : i < elems.length := by omega
            rw [List.getElem?_eq_getElem hlt, Option.bind_eq_some_iff] at h6
            obtain ⟨vs, h7, h8⟩ := h6
            obtain ⟨_, h9, h10⟩ := World.cells?_some h7
            obtain ⟨qs, h11, h12⟩ := trod_typed n d e _ _ h8 he
            refine ⟨qs :: ys, vs ++ fl, by simp [h1], by simpa using ⟨h11, h2⟩, by rw [List.flatten_cons]; exact h12.append h3, by rw [List.length_append, h9, h4, Nat.succ_mul]; omega, fun j v hv => ?_⟩
            rcases Nat.lt_or_ge j vs.length with hj | hj
            · rw [List.getElem?_append_left hj] at hv
              have := h10 j (by omega)
              rw [add_add'] at this
              rw [this, hv]
            · rw [List.getElem?_append_right hj] at hv
              have := h5 _ v hv
              rw [h9] at this hj
              rw [← this, Nat.succ_mul]
              congr 2
              omega
        obtain ⟨ys, fl, h1, h2, h3, h4, h5⟩ := key len 0 (by omega)
        have hcells : ∀ y ∈ ys, (asPD P e y).cells = y := fun y hy => asPD_cells he (h2 y hy)
        have hflat : (ys.map (asPD P e)).flatMap PD.cells = ys.flatten := by
          have : ∀ (ys : List (List PD)), (∀ y ∈ ys, (asPD P e y).cells = y) → (ys.map (asPD P e)).flatMap PD.cells = ys.flatten := by
            intro ys
            induction ys with
            | nil => intro _; rfl
            | cons y ys ih =>
              intro hy
              rw [List.map_cons, List.flatMap_cons, List.flatten_cons, hy y (by simp), ih (fun z hz => hy z (by simp [hz]))]
          exact this ys hcells
        refine ⟨_, ⟨ys, by omega, h2, rfl⟩, Stands.single (.slice (some a) len cap _ _ .any fl (by simp [h1]) hlc hcm ?_ ?_ h3.one ?_ ?_ trivial) rfl⟩
        · intro x hx
          obtain ⟨y, hy, rfl⟩ := List.mem_map.1 hx
          rw [hcells y hy, Typed.length d e y he (h2 y hy), sz_ne (List.ne_nil_of_mem hy)]
        · rw [h4]
          cases ys with
          | nil => simp at h1; subst h1; simp
          | cons y ys => simp [sz]
        · intro j v hv
          have := h5 j v hv
          rw [Nat.zero_mul, Nat.zero_add] at this
          exact ⟨a, rfl, this, av_start _⟩
        · intro j v p hv hp
          rw [hflat] at hp
          exact h3.vrs.2 j v p hv hp
    · rename_i fs
      simp only [beq_iff_eq] at h
      obtain ⟨xs, n, rfl, _, hl, hn, hf⟩ := DataW.trod_struct hu hx
      have key : ∀ (gs : List Field) (i : Nat) (off m : Nat), gs = fs.toList.drop i → pureF (pureT P d) P off gs = some m → m ≤ cs.length → off ≤ m ∧ ∃ ps, TypedF (Typed P d) gs ps ∧ Stands w ((cs.drop off).take (m - off)) ps := by
        intro gs
        induction gs with
        | nil =>
          intro i off m _ hp hm
          simp only [pureF, Option.some.injEq] at hp
          subst hp
          exact ⟨Nat.le_refl _, [], rfl, by simpa using Stands.nil⟩
        | cons g gs ih =>
          intro i off m hg hp hm
          simp only [pureF] at hp
          split at hp
          · rename_i hc
            have hgi : fs[i]? = some g := by
              have : (fs.toList.drop i)[0]? = some g := by rw [← hg]; rfl
              simpa using this
            have hgs : gs = fs.toList.drop (i + 1) := by
              rw [← List.tail_drop, ← hg]; rfl
            obtain ⟨h1, ps, h2, h3⟩ := ih (i + 1) _ m hgs hp hm
            have h4 := hf i g hgi
            have hlt : i < xs.length := by
              rw [hn]
              exact (Array.getElem?_eq_some_iff.1 hgi).1
            rw [List.getElem?_eq_getElem hlt] at h4
            obtain ⟨qs, h5, h6⟩ := trod_typed n d g.type _ _ h4 hc.2
            refine ⟨by omega, qs ++ ps, ⟨qs, ps, rfl, h5, h2⟩, ?_⟩
            rw [hc.1] at h6
            have e : (cs.drop off).take (m - off) = (cs.drop off).take (P.cellsOf g.type) ++ (cs.drop (off + P.cellsOf g.type)).take (m - (off + P.cellsOf g.type)) := by
              have : m - off = P.cellsOf g.type + (m - (off + P.cellsOf g.type)) := by omega
              rw [this, List.take_add, List.drop_drop]
            rw [e]
            exact h6.append h3
          · cases hp
      obtain ⟨_, ps, h1, h2⟩ := key fs.toList 0 0 _ (by simp) h (by omega)
      refine ⟨ps, h1, ?_⟩
      simpa [← hl] using h2
    · rename_i n e
      simp only [Bool.and_eq_true, beq_iff_eq] at h
      obtain ⟨xs, m, rfl, _, hl, hn, hf⟩ := DataW.trod_array hu hx
      have key : ∀ (k i : Nat), i + k = n → ∃ ys : List (List PD), ys.length = k ∧ (∀ y ∈ ys, Typed P d e y) ∧ Stands w (cs.drop (i * P.cellsOf e)) ys.flatten := by
        intro k
        induction k with
        | zero =>
          intro i hi
          have : cs.drop (i * P.cellsOf e) = [] := List.drop_eq_nil_of_le (by rw [hl, h.2]; simp at hi; subst hi; omega)
          exact ⟨[], rfl, by simp, by rw [this]; exact Stands.nil⟩
        | succ k ih =>
          intro i hi
          obtain ⟨ys, h1, h2, h3⟩ := ih (i + 1) (by omega)
          have h4 := hf i (by omega)
          have hlt : i < xs.length := by omega
          rw [List.getElem?_eq_getElem hlt] at h4
          obtain ⟨qs, h5, h6⟩ := trod_typed m d e _ _ h4 h.1
          refine ⟨qs :: ys, by simp [h1], by simpa using ⟨h5, h2⟩, ?_⟩
          rw [List.flatten_cons]
          have e' : cs.drop (i * P.cellsOf e) = (cs.drop (i * P.cellsOf e)).take (P.cellsOf e) ++ cs.drop ((i + 1) * P.cellsOf e) := by
            rw [Nat.succ_mul, ← List.drop_drop, List.take_append_drop]
          rw [e']
          exact h6.append h3
      obtain ⟨ys, h1, h2, h3⟩ := key n 0 (by omega)
      exact ⟨_, ⟨ys, h1, h2, rfl⟩, by simpa using h3⟩
    · cases h

end
end Go.Kz

/-
  What is handed, as typed data.
-/
namespace Go.Kz
open Go.RowKit

section
variable {H : Type} {enc : TypeId × Value → H} {P : Program} {w : World} {base : Nat} {sp : Nat → Bool} {held : Bool}

theorem arg_typed {n : Nat} {t : TypeId} {v : Value} {d : DataW H} {ms : List MemPlace} (hp : pureT P n t = true) (hv : Value.okWide P w .any base t v) (h : DataW.Trod enc P w 0 sp held t v d ms) :
    ∃ qs, Typed P n t qs ∧ VR (.start w) v (asPD P t qs) := by
  obtain ⟨fuel, h⟩ := h
  obtain ⟨qs, h1, h2⟩ := trod_typed fuel n t _ _ h hp
  refine ⟨qs, h1, ?_⟩
  have hlen := Typed.length n t qs hp h1
  cases n with
  | zero => cases hp
  | succ n =>
    have cell : pagg P t = some false → (∀ cs, v ≠ .agg cs) → VR (.start w) v (asPD P t qs) := fun ha hna => by
      have hc : v.cells = #[v] := by
        cases v <;> first | rfl | exact absurd rfl (hna _)
      rw [hc] at h2
      obtain ⟨hl, hr⟩ := h2.vrs
      match qs, hl with
      | [q], _ =>
        have := hr 0 v q rfl rfl
        simpa only [asPD, ha, List.headD_cons] using this
    have row : pagg P t = some true → (∃ cs, v = .agg cs) → VR (.start w) v (asPD P t qs) := fun ha ⟨cs, e⟩ => by
      subst e
      have := h2.agg
      simpa only [asPD, ha, Value.cells] using this
    unfold pureT at hp
    unfold Value.okWide at hv
    split at hp <;> rename_i hu
    · refine cell (by simp only [pagg, hu]) (fun cs e => ?_)
      subst e
      simp [hu, Cell.okWide, Cell.ok] at hv
    · refine cell (by simp only [pagg, hu]) (fun cs e => ?_)
      subst e
      simp [hu, Cell.okWide, Cell.ok] at hv
    · refine cell (by simp only [pagg, hu]) (fun cs e => ?_)
      subst e
      simp [hu, Cell.okWide, Cell.ok] at hv
    · refine cell (by simp only [pagg, hu]) (fun cs e => ?_)
      subst e
      simp [hu, Cell.okWide, Cell.ok] at hv
    · rw [hu] at hv
      obtain ⟨cs, e, _⟩ := hv
      exact row (by simp only [pagg, hu]) ⟨cs, e⟩
    · rw [hu] at hv
      obtain ⟨cs, e, _⟩ := hv
      exact row (by simp only [pagg, hu]) ⟨cs, e⟩
    · cases hp

end

section
variable {P : Program}

theorem typed_int {d : Nat} {t : TypeId} {k : IntKind} {qs : List PD} (hu : P.underlying t = some (.int k)) (h : Typed P (d + 1) t qs) : ∃ n, qs = [.int k n] ∧ (Lit.int k n).wf = true := by
  simpa only [Typed, hu] using h
theorem typed_bool {d : Nat} {t : TypeId} {qs : List PD} (hu : P.underlying t = some .bool) (h : Typed P (d + 1) t qs) : ∃ b, qs = [.bool b] := by
  simpa only [Typed, hu] using h
theorem typed_str {d : Nat} {t : TypeId} {qs : List PD} (hu : P.underlying t = some .string) (h : Typed P (d + 1) t qs) : ∃ s, qs = [.str s] ∧ s.length ≤ maxLen := by
  simpa only [Typed, hu] using h
theorem typed_struct {d : Nat} {t : TypeId} {fs : Array Field} {qs : List PD} (hu : P.underlying t = some (.struct fs)) (h : Typed P (d + 1) t qs) : TypedF (Typed P d) fs.toList qs := by
  simpa only [Typed, hu] using h
theorem typed_list {α : Type} {em : Em α} {R : α → Prop} {d : Nat} {t e : TypeId} {k : Nat} {qs : List PD} (hu : P.underlying t = some (.slice e)) (hk : P.cellsOf e = k) (hf : ∀ x, Typed P d e x → ∃ y, asPD P e x = em.emb y ∧ R y) (h : Typed P (d + 1) t qs) :
    ∃ ys, qs = [(em.list k).emb ys] ∧ ys.length ≤ maxLen ∧ ∀ y ∈ ys, R y := by
  simp only [Typed, hu] at h
  obtain ⟨xs, h1, h2, rfl⟩ := h
  have key : ∀ xs : List (List PD), (∀ x ∈ xs, Typed P d e x) → ∃ ys : List α, ys.length = xs.length ∧ xs.map (asPD P e) = ys.map em.emb ∧ ∀ y ∈ ys, R y := by
    intro xs
    induction xs with
    | nil => intro _; exact ⟨[], rfl, rfl, by simp⟩
    | cons x xs ih =>
      intro hx
      obtain ⟨ys, h3, h4, h5⟩ := ih (fun z hz => hx z (by simp [hz]))
      obtain ⟨y, h6, h7⟩ := hf x (hx x (by simp))
      exact ⟨y :: ys, by simp [h3], by simp [h4, h6], by simpa using ⟨h7, h5⟩⟩
  obtain ⟨ys, h3, h4, h5⟩ := key xs h2
  refine ⟨ys, ?_, by omega, h5⟩
  rw [emb_list, h4, hk]
  have : sz k xs = sz k ys := by simp only [sz, h3]
  rw [this]

theorem asPD_one {t : TypeId} {q : PD} (ha : pagg P t = some false) : asPD P t [q] = q := by simp only [asPD, ha, List.headD_cons]
theorem asPD_agg {t : TypeId} {qs : List PD} (ha : pagg P t = some true) : asPD P t qs = .agg qs := by simp only [asPD, ha]

theorem typedF_cons {T : TypeId → List PD → Prop} {f : Field} {fs : List Field} {ps : List PD} (h : TypedF T (f :: fs) ps) : ∃ a b, ps = a ++ b ∧ T f.type a ∧ TypedF T fs b := h
theorem typedF_nil {T : TypeId → List PD → Prop} {ps : List PD} (h : TypedF T [] ps) : ps = [] := h

theorem wf_u64 {z : Int} (hz : (Lit.int .u64 z).wf = true) : ∃ a : BitVec 64, z = (a.toNat : Int) := by
  simp only [Lit.wf, IntKind.min, IntKind.max, IntKind.signed, IntKind.bits] at hz
  have h5 : 0 ≤ z ∧ z < 18446744073709551616 := by
    simp at hz
    omega
  refine ⟨BitVec.ofNat 64 z.toNat, ?_⟩
  rw [BitVec.toNat_ofNat, Nat.mod_eq_of_lt (by omega)]
  omega
theorem wf_i64 {z : Int} (hz : (Lit.int .i64 z).wf = true) : -9223372036854775808 ≤ z ∧ z ≤ 9223372036854775807 := by
  simp only [Lit.wf, IntKind.min, IntKind.max, IntKind.signed, IntKind.bits] at hz
  simp at hz
  omega
theorem wf_u8 {z : Int} (hz : (Lit.int .u8 z).wf = true) : 0 ≤ z ∧ z ≤ 255 := by
  simp only [Lit.wf, IntKind.min, IntKind.max, IntKind.signed, IntKind.bits] at hz
  simp at hz
  omega
theorem wf_u16 {z : Int} (hz : (Lit.int .u16 z).wf = true) : 0 ≤ z ∧ z ≤ 65535 := by
  simp only [Lit.wf, IntKind.min, IntKind.max, IntKind.signed, IntKind.bits] at hz
  simp at hz
  omega

theorem vrs_nil {c : Cx} : VRs c [] [] := ⟨rfl, by simp⟩
theorem vrs_cons {c : Cx} {v : Value} {p : PD} {vs : List Value} {ps : List PD} (h : VR c v p) (hs : VRs c vs ps) : VRs c (v :: vs) (p :: ps) :=
  ⟨by simp [hs.1], fun i u d hu hd => by
    cases i with
    | zero => simp at hu hd; subst hu hd; exact h
    | succ i => exact hs.2 i u d (by simpa using hu) (by simpa using hd)⟩

theorem trodAll_cons' {H : Type} {enc : TypeId × Value → H} {w : World} {base : Nat} {sp : Nat → Bool} {held : Bool} {t : TypeId} {ts : List TypeId} {vs : List Value} {ds : List (DataW H)} {ps : List MemPlace} (h : DataW.TrodAll enc P w base sp held (t :: ts) vs ds ps) :
    ∃ v vs' d ds' p q, vs = v :: vs' ∧ ds = d :: ds' ∧ DataW.Trod enc P w base sp held t v d p ∧ DataW.TrodAll enc P w base sp held ts vs' ds' q := by
  match vs, ds, h with
  | v :: vs, d :: ds, h =>
    obtain ⟨p, q, h1, h2, _⟩ := h
    exact ⟨v, vs, d, ds, p, q, rfl, rfl, h1, h2⟩
theorem trodAll_nil' {H : Type} {enc : TypeId × Value → H} {w : World} {base : Nat} {sp : Nat → Bool} {held : Bool} {vs : List Value} {ds : List (DataW H)} {ps : List MemPlace} (h : DataW.TrodAll enc P w base sp held [] vs ds ps) : vs = [] ∧ ds = [] := by
  match vs, ds, h with
  | [], [], _ => exact ⟨rfl, rfl⟩

end
end Go.Kz

/-
  Stores whose end is not known: objects that later rounds leave behind.
-/
namespace Go.Kz

section
variable {α : Type} {l r : List α} {x y : α} {n : Nat}
@[simp] theorem get_concat : (l ++ [x])[l.length]? = some x := List.getElem?_concat_length
@[simp] theorem set_concat : (l ++ [x]).set l.length y = l ++ [y] := by
  rw [List.set_append_right _ _ (Nat.le_refl _), Nat.sub_self]
  rfl
@[simp] theorem get_concat2 : (l ++ [x, y])[l.length]? = some x := by
  rw [List.getElem?_append_right (Nat.le_refl _), Nat.sub_self]
  rfl
@[simp] theorem get_concat3 : (l ++ [x, y])[l.length + 1]? = some y := by
  rw [List.getElem?_append_right (by omega), Nat.add_sub_cancel_left]
  rfl
@[simp] theorem set_concat2 {z : α} : (l ++ [x, y]).set l.length z = l ++ [z, y] := by
  rw [List.set_append_right _ _ (Nat.le_refl _), Nat.sub_self]
  rfl
@[simp] theorem set_concat3 {z : α} : (l ++ [x, y]).set (l.length + 1) z = l ++ [x, z] := by
  rw [List.set_append_right _ _ (by omega), Nat.add_sub_cancel_left]
  rfl
end
end Go.Kz

/-
  Types whose values are compared.
-/
namespace Go.Kz
open Go Go.Proofs
set_option maxRecDepth 10000
theorem Tryd.eg26 : Tryd.prog.eqGuardType Tryd.prog.depth 26 = false := by kernel_rfl
theorem Tryd.pl26 : pplan Tryd.prog 12 26 = some [.i .i64, .i .i64] := by kernel_rfl
theorem Tryd.pa26 : pagg Tryd.prog 26 = some true := by kernel_rfl
@[simp] theorem Tryd.eq26 {a0 b0 : Int} {a1 b1 : Int} : pbin Tryd.prog .eql 26 (.agg [.int .i64 a0, .int .i64 a1]) (.agg [.int .i64 b0, .int .i64 b1]) = some (.bool (decide (a0 = b0) && (decide (a1 = b1) && true))) := pbin_eql_plan Tryd.eg26 Tryd.pl26 Tryd.pa26 rfl
@[simp] theorem Tryd.ne26 {a0 b0 : Int} {a1 b1 : Int} : pbin Tryd.prog .neq 26 (.agg [.int .i64 a0, .int .i64 a1]) (.agg [.int .i64 b0, .int .i64 b1]) = some (.bool (!(decide (a0 = b0) && (decide (a1 = b1) && true)))) := pbin_neq_plan Tryd.eg26 Tryd.pl26 Tryd.pa26 rfl
theorem Tryd.eg39 : Tryd.prog.eqGuardType Tryd.prog.depth 39 = false := by kernel_rfl
theorem Tryd.pl39 : pplan Tryd.prog 12 39 = some [.i .i64, .i .i64] := by kernel_rfl
theorem Tryd.pa39 : pagg Tryd.prog 39 = some true := by kernel_rfl
@[simp] theorem Tryd.eq39 {a0 b0 : Int} {a1 b1 : Int} : pbin Tryd.prog .eql 39 (.agg [.int .i64 a0, .int .i64 a1]) (.agg [.int .i64 b0, .int .i64 b1]) = some (.bool (decide (a0 = b0) && (decide (a1 = b1) && true))) := pbin_eql_plan Tryd.eg39 Tryd.pl39 Tryd.pa39 rfl
@[simp] theorem Tryd.ne39 {a0 b0 : Int} {a1 b1 : Int} : pbin Tryd.prog .neq 39 (.agg [.int .i64 a0, .int .i64 a1]) (.agg [.int .i64 b0, .int .i64 b1]) = some (.bool (!(decide (a0 = b0) && (decide (a1 = b1) && true)))) := pbin_neq_plan Tryd.eg39 Tryd.pl39 Tryd.pa39 rfl
theorem Tryd.eg41 : Tryd.prog.eqGuardType Tryd.prog.depth 41 = false := by kernel_rfl
theorem Tryd.pl41 : pplan Tryd.prog 12 41 = some [.i .i64, .s, .i .i64, .i .i64, .i .i64, .i .i64, .i .i64] := by kernel_rfl
theorem Tryd.pa41 : pagg Tryd.prog 41 = some true := by kernel_rfl
@[simp] theorem Tryd.eq41 {a0 b0 : Int} {a1 b1 : List UInt8} {a2 b2 : Int} {a3 b3 : Int} {a4 b4 : Int} {a5 b5 : Int} {a6 b6 : Int} : pbin Tryd.prog .eql 41 (.agg [.int .i64 a0, .str a1, .int .i64 a2, .int .i64 a3, .int .i64 a4, .int .i64 a5, .int .i64 a6]) (.agg [.int .i64 b0, .str b1, .int .i64 b2, .int .i64 b3, .int .i64 b4, .int .i64 b5, .int .i64 b6]) = some (.bool (decide (a0 = b0) && (decide (a1 = b1) && (decide (a2 = b2) && (decide (a3 = b3) && (decide (a4 = b4) && (decide (a5 = b5) && (decide (a6 = b6) && true)))))))) := pbin_eql_plan Tryd.eg41 Tryd.pl41 Tryd.pa41 rfl
@[simp] theorem Tryd.ne41 {a0 b0 : Int} {a1 b1 : List UInt8} {a2 b2 : Int} {a3 b3 : Int} {a4 b4 : Int} {a5 b5 : Int} {a6 b6 : Int} : pbin Tryd.prog .neq 41 (.agg [.int .i64 a0, .str a1, .int .i64 a2, .int .i64 a3, .int .i64 a4, .int .i64 a5, .int .i64 a6]) (.agg [.int .i64 b0, .str b1, .int .i64 b2, .int .i64 b3, .int .i64 b4, .int .i64 b5, .int .i64 b6]) = some (.bool (!(decide (a0 = b0) && (decide (a1 = b1) && (decide (a2 = b2) && (decide (a3 = b3) && (decide (a4 = b4) && (decide (a5 = b5) && (decide (a6 = b6) && true))))))))) := pbin_neq_plan Tryd.eg41 Tryd.pl41 Tryd.pa41 rfl
theorem Tryd.eg46 : Tryd.prog.eqGuardType Tryd.prog.depth 46 = false := by kernel_rfl
theorem Tryd.pl46 : pplan Tryd.prog 12 46 = some [.i .u8, .i .i64, .s] := by kernel_rfl
theorem Tryd.pa46 : pagg Tryd.prog 46 = some true := by kernel_rfl
@[simp] theorem Tryd.eq46 {a0 b0 : Int} {a1 b1 : Int} {a2 b2 : List UInt8} : pbin Tryd.prog .eql 46 (.agg [.int .u8 a0, .int .i64 a1, .str a2]) (.agg [.int .u8 b0, .int .i64 b1, .str b2]) = some (.bool (decide (a0 = b0) && (decide (a1 = b1) && (decide (a2 = b2) && true)))) := pbin_eql_plan Tryd.eg46 Tryd.pl46 Tryd.pa46 rfl
@[simp] theorem Tryd.ne46 {a0 b0 : Int} {a1 b1 : Int} {a2 b2 : List UInt8} : pbin Tryd.prog .neq 46 (.agg [.int .u8 a0, .int .i64 a1, .str a2]) (.agg [.int .u8 b0, .int .i64 b1, .str b2]) = some (.bool (!(decide (a0 = b0) && (decide (a1 = b1) && (decide (a2 = b2) && true))))) := pbin_neq_plan Tryd.eg46 Tryd.pl46 Tryd.pa46 rfl
theorem Tryd.eg87 : Tryd.prog.eqGuardType Tryd.prog.depth 87 = false := by kernel_rfl
theorem Tryd.pl87 : pplan Tryd.prog 12 87 = some [.s, .s, .s] := by kernel_rfl
theorem Tryd.pa87 : pagg Tryd.prog 87 = some true := by kernel_rfl
@[simp] theorem Tryd.eq87 {a0 b0 : List UInt8} {a1 b1 : List UInt8} {a2 b2 : List UInt8} : pbin Tryd.prog .eql 87 (.agg [.str a0, .str a1, .str a2]) (.agg [.str b0, .str b1, .str b2]) = some (.bool (decide (a0 = b0) && (decide (a1 = b1) && (decide (a2 = b2) && true)))) := pbin_eql_plan Tryd.eg87 Tryd.pl87 Tryd.pa87 rfl
@[simp] theorem Tryd.ne87 {a0 b0 : List UInt8} {a1 b1 : List UInt8} {a2 b2 : List UInt8} : pbin Tryd.prog .neq 87 (.agg [.str a0, .str a1, .str a2]) (.agg [.str b0, .str b1, .str b2]) = some (.bool (!(decide (a0 = b0) && (decide (a1 = b1) && (decide (a2 = b2) && true))))) := pbin_neq_plan Tryd.eg87 Tryd.pl87 Tryd.pa87 rfl
theorem Tryd.eg107 : Tryd.prog.eqGuardType Tryd.prog.depth 107 = false := by kernel_rfl
theorem Tryd.pl107 : pplan Tryd.prog 12 107 = some [.i .i64, .i .i64, .i .i64] := by kernel_rfl
theorem Tryd.pa107 : pagg Tryd.prog 107 = some true := by kernel_rfl
@[simp] theorem Tryd.eq107 {a0 b0 : Int} {a1 b1 : Int} {a2 b2 : Int} : pbin Tryd.prog .eql 107 (.agg [.int .i64 a0, .int .i64 a1, .int .i64 a2]) (.agg [.int .i64 b0, .int .i64 b1, .int .i64 b2]) = some (.bool (decide (a0 = b0) && (decide (a1 = b1) && (decide (a2 = b2) && true)))) := pbin_eql_plan Tryd.eg107 Tryd.pl107 Tryd.pa107 rfl
@[simp] theorem Tryd.ne107 {a0 b0 : Int} {a1 b1 : Int} {a2 b2 : Int} : pbin Tryd.prog .neq 107 (.agg [.int .i64 a0, .int .i64 a1, .int .i64 a2]) (.agg [.int .i64 b0, .int .i64 b1, .int .i64 b2]) = some (.bool (!(decide (a0 = b0) && (decide (a1 = b1) && (decide (a2 = b2) && true))))) := pbin_neq_plan Tryd.eg107 Tryd.pl107 Tryd.pa107 rfl
end Go.Kz

/-
  Rows of one's own in a store of which little is known.
-/
namespace Go.Kz

@[simp] theorem sz_sz {α : Type} {k : Nat} {xs : List α} : sz (sz k xs) xs = sz k xs := by
  unfold sz
  split <;> rfl

/-- The room behind a slice: none, or the newest end of a row of n. -/
def RowAt (σ : List SObj) (tok : Tok) (e : TypeId) (k n : Nat) : Prop := (n = 0 ∧ tok = .full) ∨ (0 < n ∧ ∃ id, tok = .own id ∧ σ[id]? = some (.own e k n))
def Tok.not (tok : Tok) (id : Nat) : Prop := tok ≠ .own id

theorem RowAt.keep {σ σ' : List SObj} {tok : Tok} {e : TypeId} {k n : Nat} (h : RowAt σ tok e k n) (hk : ∀ id o, tok = .own id → σ[id]? = some o → σ'[id]? = some o) : RowAt σ' tok e k n := by
  rcases h with h | ⟨h0, id, h1, h2⟩
  · exact .inl h
  · exact .inr ⟨h0, id, h1, hk id _ h1 h2⟩
theorem RowAt.more {σ τ : List SObj} {tok : Tok} {e : TypeId} {k n : Nat} (h : RowAt σ tok e k n) : RowAt (σ ++ τ) tok e k n :=
  h.keep fun id o _ h => by
    rw [List.getElem?_append_left (List.getElem?_eq_some_iff.1 h).1]
    exact h

theorem pappend_row {P : Program} {σ : List SObj} {t e : TypeId} {k b s : Nat} {xs : List PD} {p : PD} {tk tok : Tok} (hu : P.underlying t = some (.slice e)) (hi : pelem P e = some (k, b)) (hs : xs = [] ∨ s = k) (hr : RowAt σ tok e k xs.length)
    (hm : xs.length + 1 ≤ 100000000000000) (hb : (xs.length + 1) * b ≤ 140737488355328) :
    ∃ tok' σ', pappend P 0 σ t (.slice s xs tok) (.slice k [p] tk) = some (.slice k (xs ++ [p]) tok', σ') ∧ RowAt σ' tok' e k (xs.length + 1) ∧ (∀ id o, tok ≠ .own id → σ[id]? = some o → σ'[id]? = some o) ∧ (∀ id, tok' = .own id → tok = .own id ∨ id = σ.length) := by
  unfold pelem at hi
  split at hi
  · rename_i i h1
    split at hi
    · rename_i z h2
      split at hi
      · rename_i h3
        simp only [Option.some.injEq, Prod.mk.injEq] at hi
        obtain ⟨rfl, rfl⟩ := hi
        have hs' : xs.length = 0 ∨ s = i.size := hs.imp (fun h => by rw [h]; rfl) (fun h => h)
        have e1 : [p].length = 1 := rfl
        have hmm : xs.length + 1 ≤ maxLen := by simp only [maxLen]; omega
        rcases hr with ⟨hn, rfl⟩ | ⟨hpos, id, rfl, hid⟩
        · refine ⟨.own σ.length, σ ++ [.own e i.size (xs.length + 1)], ?_, .inr ⟨by omega, _, rfl, List.getElem?_concat_length⟩, fun id o _ h => ?_, fun id h => ?_⟩
          · simp only [pappend, hu, h1, h2, e1, hs', h3.2, h3.1, hmm, hb, or_true, and_self, if_true, Nat.one_ne_zero, if_false]
          · rw [List.getElem?_append_left (List.getElem?_eq_some_iff.1 h).1]; exact h
          · right; simpa using h.symm
        · have hlt := (List.getElem?_eq_some_iff.1 hid).1
          have hsz : s = i.size := hs'.resolve_left (by omega)
          refine ⟨.own id, σ.set id (.own e i.size (xs.length + 1)), ?_, .inr ⟨by omega, id, rfl, by rw [List.getElem?_set_self hlt]⟩, fun j o hj h => ?_, fun j h => .inl h⟩
          · simp only [pappend, hu, h1, h2, e1, h3.2, h3.1, hmm, hb, or_true, and_self, if_true, Nat.one_ne_zero, if_false, hsz, Nat.zero_le, hid]
          · have hne : id ≠ j := fun e => hj (by rw [e])
            rw [List.getElem?_set_ne hne]; exact h
      · cases hi
    · cases hi
  · cases hi

theorem pappend_row2 {P : Program} {x : SObj} {J : List SObj} {t e : TypeId} {k b s : Nat} {xs : List PD} {p : PD} {tk tok : Tok} (hx : notOwn (some x)) (hu : P.underlying t = some (.slice e)) (hi : pelem P e = some (k, b)) (hs : xs = [] ∨ s = k) (hr : RowAt (x :: J) tok e k xs.length)
    (hm : xs.length + 1 ≤ 100000000000000) (hb : (xs.length + 1) * b ≤ 140737488355328) :
    ∃ tok' J', pappend P 0 (x :: J) t (.slice s xs tok) (.slice k [p] tk) = some (.slice k (xs ++ [p]) tok', x :: J') ∧ RowAt (x :: J') tok' e k (xs.length + 1) ∧
      ∀ tok2 e2 k2 n2, RowAt (x :: J) tok2 e2 k2 n2 → (∀ id, tok = .own id → tok2 ≠ .own id) → RowAt (x :: J') tok2 e2 k2 n2 ∧ (∀ id, tok' = .own id → tok2 ≠ .own id) := by
  obtain ⟨tok', σ', h1, h2, h3, h4⟩ := pappend_row (tk := tk) (p := p) hu hi hs hr hm hb
  have h0 : σ'[0]? = some x := by
    refine h3 0 x ?_ rfl
    intro e
    subst e
    rcases hr with ⟨_, e⟩ | ⟨_, id, e, h5⟩
    · cases e
    · simp only [Tok.own.injEq] at e
      subst e
      simp only [List.getElem?_cons_zero, Option.some.injEq] at h5
      subst h5
      exact hx
  match σ', h0 with
  | y :: J', h0 =>
    simp only [List.getElem?_cons_zero, Option.some.injEq] at h0
    subst h0
    refine ⟨tok', J', h1, h2, fun tok2 e2 k2 n2 hr2 hne => ⟨hr2.keep fun id o e h => h3 id o (fun e2 => hne id e2 e) h, fun id e e2 => ?_⟩⟩
    rcases h4 id e with e3 | e3
    · exact hne id e3 e2
    · subst e3
      rcases hr2 with ⟨_, e4⟩ | ⟨_, id', e4, h5⟩
      · rw [e4] at e2; cases e2
      · rw [e4] at e2
        simp only [Tok.own.injEq] at e2
        subst e2
        have := (List.getElem?_eq_some_iff.1 h5).1
        omega

theorem pappend_full {P : Program} {σ : List SObj} {t e : TypeId} {k b s : Nat} {p : PD} {tk : Tok} (hu : P.underlying t = some (.slice e)) (hi : pelem P e = some (k, b)) (hb : b ≤ 140737488355328) :
    pappend P 0 σ t (.slice s [] .full) (.slice k [p] tk) = some (.slice k [p] (.own σ.length), σ ++ [.own e k 1]) := by
  unfold pelem at hi
  split at hi
  · rename_i i h1
    split at hi
    · rename_i z h2
      split at hi
      · rename_i h3
        simp only [Option.some.injEq, Prod.mk.injEq] at hi
        obtain ⟨rfl, rfl⟩ := hi
        have hm : 0 + 1 ≤ maxLen := by simp only [maxLen]; omega
        have hb' : (0 + 1) * i.bytes ≤ 140737488355328 := by omega
        simp [pappend, hu, h1, h2, h3.2, h3.1]
        exact ⟨by simp only [maxLen]; omega, hb⟩
      · cases hi
    · cases hi
  · cases hi

theorem pappend_own {P : Program} {σ : List SObj} {t e : TypeId} {id k b : Nat} {xs : List PD} {p : PD} {tk : Tok} (hu : P.underlying t = some (.slice e)) (hi : pelem P e = some (k, b)) (hr : σ[id]? = some (.own e k xs.length))
    (hm : xs.length + 1 ≤ 100000000000000) (hb : (xs.length + 1) * b ≤ 140737488355328) :
    pappend P 0 σ t (.slice k xs (.own id)) (.slice k [p] tk) = some (.slice k (xs ++ [p]) (.own id), σ.set id (.own e k (xs.length + 1))) := by
  unfold pelem at hi
  split at hi
  · rename_i i h1
    split at hi
    · rename_i z h2
      split at hi
      · rename_i h3
        simp only [Option.some.injEq, Prod.mk.injEq] at hi
        obtain ⟨rfl, rfl⟩ := hi
        have e1 : [p].length = 1 := rfl
        have hmm : xs.length + 1 ≤ maxLen := by simp only [maxLen]; omega
        simp only [pappend, hu, h1, h2, e1, h3.2, h3.1, hmm, hb, or_true, and_self, if_true, Nat.one_ne_zero, if_false, Nat.zero_le, hr]
      · cases hi
    · cases hi
  · cases hi

/-- A drawn region whose loads and stores are told apart by the boxes' numbers: run as it stands. -/
theorem Wp.drawD {P : Program} {E : PExt} {rd : Option Nat} {fl : Nat} {fr : List PD} {ms : List Nat} {σ : List SObj} {Q : PO → Prop} {id : Nat} {ops : Array Oper} (fr1 : List PD) (σ1 : List SObj) (h : ∀ n, pdraw P (pcall P E n) fl ops fr σ = some (fr1, σ1)) (k : Q ⟨.normal, fr1, ms, σ1⟩) :
    Wp P E rd (.region id ops true) fl fr ms σ Q := ⟨_, .draw (N := 0) (fun n _ => h n), k⟩

/-- A drawn region that ends a function: both run as they stand. -/
theorem Wp.drawEnd {P : Program} {E : PExt} {fr : List PD} {ms : List Nat} {σ : List SObj} {id : Nat} {ops : Array Oper} {fn : Func} {p : PD} (hn : ∀ n, pdraw P (pcall P E n) 0 ops fr σ = pdraw P (fun _ _ _ _ => none) 0 ops fr σ)
    (h : (match pdraw P (fun _ _ _ _ => none) 0 ops fr σ with | some (fr1, σ1) => (match pfinish P 0 fn ⟨.ret, fr1, ms, σ1⟩ with | some (p1, _) => some p1.strip | none => none) | none => none) = some p) :
    Wp P E none (.seq (.region id ops true) .ret) 0 fr ms σ (fun r => ∃ p1 σ1, pfinish P 0 fn r = some (p1, σ1) ∧ p1.strip = p) := by
  split at h
  · rename_i fr1 σ1 h1
    refine Wp.seq (Wp.drawD fr1 σ1 (fun n => (hn n).trans h1) (SeqQ.normal (Wp.ret ?_)))
    split at h
    · rename_i p1 σ2 h2
      simp only [Option.some.injEq] at h
      exact ⟨p1, σ2, h2, h⟩
    · cases h
  · cases h

end Go.Kz

/-
  Drawn regions with an append whose calls stand loose of loads, but leave the store alone.
-/
namespace Go.Kz

def ownOp : Op → Bool
  | .box .. => true
  | .call { callee := .builtin .append, .. } => true
  | _ => false

/-- Boxes and appends stand loose of no load. -/
def mixOwn (ops : Array Oper) : Bool := masksK ops.toList [] fun ms =>
  (List.range ops.size).all fun i => !isAt ownOp ops.toList i || noLoose ops.toList ms i

section
variable {P : Program} {E : PExt} {fl : Nat} {fr : List PD} {σ : List SObj}

theorem pcallP_E (hU : Uni E) {tg : FuncId ⊕ Nat} {args : List PD} {x : PD × List SObj} (h : pcallP E fl tg args σ = some x) : pcallE E fl tg args σ = some x := by
  cases tg with
  | inr id => cases h
  | inl f =>
    simp only [pcallP] at h
    split at h
    · rename_i g hg
      split at h
      · rename_i p hp
        simp only [Option.some.injEq] at h; subst h
        simp only [pcallE, hg]
        exact hU f g args p hg hp fl σ
      · cases h
    · cases h

theorem pstep_PE (hU : Uni E) {op : Op} {x : PD × List SObj} (h : pstep P (pcallP E) fl fr σ op = some x) : pstep P (pcallE E) fl fr σ op = some x := by
  unfold pstep at *
  cases hc : pcallee fr op with
  | some q =>
    obtain ⟨tg, args⟩ := q
    simp only [hc] at h ⊢
    exact pcallP_E hU h
  | none =>
    simp only [hc] at h ⊢
    exact h

theorem pdseq_mix (hU : Uni E) {ops : Array Oper} : ∀ (l : List Oper) (i : Nat) (fr : List PD) (σ : List SObj) (x : List PD × List SObj), ops.toList.drop i = l → mixOwn ops = true →
    pseq P (pcallP E) fl ops l fr σ = some x → pdseq P (pcallE E) fl ops (flags ops i l) fr σ = some x
  | [], _, _, _, _, _, _, h => h
  | o :: l, i, fr, σ, x, hd, hm, h => by
    have ho : ops.toList[i]? = some o := by
      have := congrArg List.head? hd
      rw [List.head?_drop] at this
      simpa using this
    have hd' : ops.toList.drop (i + 1) = l := by rw [← List.drop_drop, hd]; rfl
    have hi : i < ops.size := by
      have := (List.getElem?_eq_some_iff.1 ho).1
      simpa using this
    have hown : ownOp o.op = false ∨ freeAt ops i = true := by
      have hm' := hm
      rw [mixOwn, masksK_eq] at hm'
      simp only [List.all_eq_true, List.mem_range, Bool.or_eq_true, Bool.not_eq_true'] at hm'
      have := hm' i hi
      rw [isAt, ho] at this
      simpa [freeAt] using this
    simp only [pseq] at h
    simp only [flags, pdseq]
    split at h
    · rename_i hw
      rw [if_pos hw]
      split at h
      · rename_i p σ1 hp
        cases hf : (!shapeMove o.op || freeAt ops i) with
        | true =>
          simp only [pstep_PE hU hp]
          exact pdseq_mix hU l (i + 1) _ _ _ hd' hm h
        | false =>
          simp only [Bool.or_eq_false_iff, Bool.not_eq_false'] at hf
          obtain ⟨hf1, hf2⟩ := hf
          rw [hf2] at hown
          have hop : ownOp o.op = false := by simpa using hown
          obtain ⟨e1, e2⟩ := pstep_pure (P := P) hU (fl' := max fl σ.length) (op := o.op) (by
            cases hq : o.op with
            | box t x => rw [hq] at hop; cases hop
            | call c =>
              obtain ⟨callee, args, ts⟩ := c
              cases callee with
              | builtin b => cases b <;> first | rfl | (rw [hq] at hop; cases hop)
              | value f => rfl
              | invoke r m => rfl
            | _ => rfl) hf1 hp
          simp only at e2
          subst e2
          simp only [e1, List.drop_length, List.append_nil]
          exact pdseq_mix hU l (i + 1) _ _ _ hd' hm h
      · cases h
    · rename_i hw
      rw [if_neg hw]
      exact pdseq_mix hU l (i + 1) _ _ _ hd' hm h

theorem WL.drawM1 {rd : Option Nat} {ms : List Nat} {Q : PO → Prop} {ops : Array Oper} {id : Nat} (hU : Uni E) (_hd : noDyn ops = true) (hs : (fastOk ops && mixOwn ops) = true) (h : SQ P (pcallP E) fl ops ops.toList fr σ (fun fr' σ' => Q ⟨.normal, fr', ms, σ'⟩)) :
    Wp P E rd (.region id ops true) fl fr ms σ Q := by
  simp only [Bool.and_eq_true, fastOk_eq] at hs
  obtain ⟨fr', σ', h1, h2⟩ := h.ex
  exact .draw hs.1 (pdseq_mix hU _ 0 _ _ _ (by simp) hs.2 h1) h2
theorem WL.drawM {rd : Option Nat} {ms : List Nat} {Q : PO → Prop} {ops : Array Oper} {id : Nat} {y : Code} (hU : Uni E) (_hd : noDyn ops = true) (hs : (fastOk ops && mixOwn ops) = true) (h : SQ P (pcallP E) fl ops ops.toList fr σ (fun fr' σ' => Wp P E rd y fl fr' ms σ' Q)) :
    Wp P E rd (.seq (.region id ops true) y) fl fr ms σ Q := by
  simp only [Bool.and_eq_true, fastOk_eq] at hs
  obtain ⟨fr', σ', h1, h2⟩ := h.ex
  exact .seq (.draw hs.1 (pdseq_mix hU _ 0 _ _ _ (by simp) hs.2 h1) (.normal h2))
end
end Go.Kz

/-
  Rows of one's own behind some objects and others of which little is known.
-/
namespace Go.Kz

theorem pappend_rowB {P : Program} {B J : List SObj} {t e : TypeId} {k b s : Nat} {xs : List PD} {p : PD} {tk tok : Tok} (hB : ∀ o ∈ B, notOwn (some o)) (hu : P.underlying t = some (.slice e)) (hi : pelem P e = some (k, b)) (hs : xs = [] ∨ s = k) (hr : RowAt (B ++ J) tok e k xs.length)
    (hm : xs.length + 1 ≤ 100000000000000) (hb : (xs.length + 1) * b ≤ 140737488355328) :
    ∃ tok' J', pappend P 0 (B ++ J) t (.slice s xs tok) (.slice k [p] tk) = some (.slice k (xs ++ [p]) tok', B ++ J') ∧ RowAt (B ++ J') tok' e k (xs.length + 1) ∧
      ∀ tok2 e2 k2 n2, RowAt (B ++ J) tok2 e2 k2 n2 → (∀ id, tok = .own id → tok2 ≠ .own id) → RowAt (B ++ J') tok2 e2 k2 n2 ∧ (∀ id, tok' = .own id → tok2 ≠ .own id) := by
  obtain ⟨tok', σ', h1, h2, h3, h4⟩ := pappend_row (tk := tk) (p := p) hu hi hs hr hm hb
  have hpre : ∀ (id : Nat) (o : SObj), B[id]? = some o → σ'[id]? = some o := by
    intro id o ho
    have ho2 : (B ++ J)[id]? = some o := by rw [List.getElem?_append_left (List.getElem?_eq_some_iff.1 ho).1]; exact ho
    refine h3 id o ?_ ho2
    intro e
    subst e
    rcases hr with ⟨_, e⟩ | ⟨_, id', e, h5⟩
    · cases e
    · simp only [Tok.own.injEq] at e
      subst e
      rw [ho2, Option.some.injEq] at h5
      subst h5
      exact hB _ (List.mem_of_getElem? ho)
  have hsp : σ' = B ++ σ'.drop B.length := by
    have : σ'.take B.length = B := by
      apply List.ext_getElem?
      intro i
      rw [List.getElem?_take]
      split
      · rename_i hlt
        rw [hpre i B[i] (by simp [hlt]), List.getElem?_eq_getElem hlt]
      · rename_i hge
        rw [List.getElem?_eq_none (by omega)]
    conv => lhs; rw [← List.take_append_drop B.length σ', this]
  refine ⟨tok', σ'.drop B.length, by rw [← hsp]; exact h1, by rw [← hsp]; exact h2, fun tok2 e2 k2 n2 hr2 hne => ?_⟩
  rw [← hsp]
  refine ⟨hr2.keep fun id o e h => h3 id o (fun e2 => hne id e2 e) h, fun id e e2 => ?_⟩
  rcases h4 id e with e3 | e3
  · exact hne id e3 e2
  · subst e3
    rcases hr2 with ⟨_, e4⟩ | ⟨_, id', e4, h5⟩
    · rw [e4] at e2; cases e2
    · rw [e4] at e2
      simp only [Tok.own.injEq] at e2
      subst e2
      have := (List.getElem?_eq_some_iff.1 h5).1
      omega

/-! ### bits of small integers -/
theorem shr_i64 {n i : Nat} (hn : n < 9223372036854775808) (hi : i < 64) : pshift .shr .i64 (n : Int) (i : Int) = some (.int .i64 ((n / 2 ^ i : Nat) : Int)) := by
  have h1 : ¬ ((i : Int) < 0) := by omega
  have h2 : min ((i : Int).toNat) IntKind.i64.bits = i := by simp [IntKind.bits]; omega
  simp only [pshift, h1, if_false, h2]
  have h3 : (0 : Int) ≤ 2 ^ i := Int.pow_nonneg (by omega)
  rw [Int.fdiv_eq_ediv_of_nonneg _ h3, Int.natCast_ediv, Int.natCast_pow]
  rfl
theorem and_one_i64 {n : Nat} (hn : n < 9223372036854775808) : pbits .and .i64 (n : Int) 1 = some ((n % 2 : Nat) : Int) := by
  show some (IntKind.i64.wrap ((BitVec.ofInt 64 (n : Int) &&& BitVec.ofInt 64 1).toNat : Int)) = _
  have h1 : (BitVec.ofInt 64 (n : Int)).toNat = n := by
    rw [BitVec.toNat_ofInt]
    omega
  have h2 : (BitVec.ofInt 64 1).toNat = 1 := by decide
  rw [BitVec.toNat_and, h1, h2, show (1 : Nat) = 2 ^ 1 - 1 from rfl, Nat.and_two_pow_sub_one_eq_mod]
  rw [wrap_i64 (by omega) (by omega)]
theorem shl_one_i64 {w : Nat} (hw : w < 62) : pshift .shl .i64 1 (w : Int) = some (.int .i64 ((2 ^ w : Nat) : Int)) := by
  have h1 : ¬ ((w : Int) < 0) := by omega
  have h2 : min ((w : Int).toNat) IntKind.i64.bits = w := by simp [IntKind.bits]; omega
  simp only [pshift, h1, if_false, h2]
  have h4 : (2 : Nat) ^ w ≤ 2 ^ 62 := Nat.pow_le_pow_right (by omega) (by omega)
  rw [Int.one_mul, wrap_i64 (by have : (0 : Int) ≤ 2 ^ w := Int.pow_nonneg (by omega); omega) (by
    have : ((2 ^ w : Nat) : Int) ≤ ((2 ^ 62 : Nat) : Int) := by exact_mod_cast h4
    rw [Int.natCast_pow] at this
    have e : ((2 ^ 62 : Nat) : Int) = 4611686018427387904 := rfl
    rw [e] at this
    have e2 : (((2 : Nat) : Int)) ^ w = (2 : Int) ^ w := rfl
    omega)]
  rw [Int.natCast_pow]
  rfl

end Go.Kz

/-
  Drawn regions with boxes of their own, in the written order.
-/
namespace Go.Kz

def allocSure (ops : Array Oper) : Bool := ops.toList.all fun o => !shapeAlloc o.op || o.guard.isNone
/-- As fastOk, boxes of its own allowed. -/
def fastA (ops : Array Oper) : Bool := masksK ops.toList [] fun ms =>
  regOk ops ms && (List.range ops.size).all fun k => !isAt shapeStore ops.toList k || (List.range ops.size).all fun i => !isAt shapeLoad ops.toList i || !loose ms i k

section
variable {P : Program} {E : PExt} {fl : Nat} {fr : List PD} {σ : List SObj}

theorem pstep_pure2 (hU : Uni E) {fl' : Nat} {σ2 : List SObj} {op : Op} {x : PD × List SObj} (hop : (match op with
  | .box .. => false
  | .call { callee := .builtin .append, .. } => false
  | _ => true) = true) (hm : shapeMove op = true) (h : pstep P (pcallP E) fl fr σ op = some x) : pstep P (pcallE E) fl' fr σ2 op = some (x.1, σ2) ∧ x.2 = σ := by
  refine ⟨?_, (pstep_pure hU (fl' := 0) hop hm h).2⟩
  unfold pstep at *
  cases hc : pcallee fr op with
  | some q =>
    obtain ⟨tg, args⟩ := q
    simp only [hc] at h ⊢
    cases tg with
    | inr id => cases h
    | inl f =>
      simp only [pcallP] at h
      split at h
      · rename_i g hg
        split at h
        · rename_i p hp
          simp only [Option.some.injEq] at h; subst h
          simp only [pcallE, hg]
          exact hU f g args p hg hp fl' σ2
        · cases h
      · cases h
  | none =>
    simp only [hc] at h ⊢
    exfalso
    cases op with
    | box t x => cases hop
    | call c =>
      obtain ⟨callee, args, ts⟩ := c
      cases callee with
      | value f => simp [pop, pval, pmem] at h
      | invoke r m => simp [shapeMove] at hm
      | builtin b => cases b <;> first | (simp [shapeMove] at hm; done) | cases hop
    | _ => simp [shapeMove] at hm

theorem pload_more {t : TypeId} {a p : PD} (hs : List SObj) (h : pload P σ t a = some p) : pload P (σ ++ hs) t a = some p :=
  pload_congr h fun id off e => by
    subst e
    rw [List.getElem?_append_left (pload_lt h)]

theorem pstore_more {t : TypeId} {a p : PD} {σ' : List SObj} (hs : List SObj) (h : pstore P fl σ t a p = some σ') : pstore P fl (σ ++ hs) t a p = some (σ' ++ hs) := by
  unfold pstore at h ⊢
  split at h
  · rename_i id off
    by_cases h1 : fl ≤ id
    · rw [if_pos h1] at h ⊢
      cases hq : σ[id]? with
      | none => simp [hq] at h
      | some o =>
        have hlt : id < σ.length := (List.getElem?_eq_some_iff.1 hq).1
        rw [List.getElem?_append_left hlt, hq]
        rw [hq] at h
        cases o with
        | box q =>
          cases hz : psize P t with
          | none => rw [hz] at h; cases h
          | some n =>
            rw [hz] at h
            simp only at h ⊢
            split at h
            · rename_i hc
              rw [if_pos hc]
              cases hset : q.setCells off p.cells with
              | none => rw [hset] at h; cases h
              | some q' =>
                rw [hset] at h
                simp only [Option.some.injEq] at h ⊢
                subst h
                rw [List.set_append_left _ _ hlt]
            · cases h
        | _ => cases h
    · rw [if_neg h1] at h; cases h
  · cases h

theorem pdraw_sure (hU : Uni E) {n : Nat} {ops : Array Oper} (ms : List Nat) (hsh : ∀ (i : Nat) o, ops[i]? = some o → (shapeA o.op || shapeLoad o.op || shapeAlloc o.op || shapeSlice o.op || shapeW o.op) = true) (hno : noOwn ops = true) (hsu : allocSure ops = true) :
    ∀ (l : List Oper) (i : Nat) (fr : List PD) (σ : List SObj) (x : List PD × List SObj), ops.toList.drop i = l → pseq P (pcallP E) fl ops l fr σ = some x →
      ∃ hs tr, phoist P l = some hs ∧ pdrawOps P (pcall P E n) fl ops ms i σ.length l fr (σ ++ hs) = some (tr, x.1, x.2)
  | [], _, fr, σ, x, _, h => by
    simp only [pseq, Option.some.injEq] at h
    subst h
    exact ⟨[], [], rfl, by simp [pdrawOps]⟩
  | o :: l, i, fr, σ, x, hd, h => by
    have ho : ops[i]? = some o := by
      have := congrArg List.head? hd
      rw [List.head?_drop] at this
      simpa using this
    have hd' : ops.toList.drop (i + 1) = l := by rw [← List.drop_drop, hd]; rfl
    have hmem : o ∈ ops.toList := Array.mem_toList_iff.2 (Array.mem_of_getElem? ho)
    have hshape := hsh i o ho
    have hown := List.all_eq_true.1 hno o hmem
    have hsure := List.all_eq_true.1 hsu o hmem
    simp only [pseq] at h
    by_cases hal : shapeAlloc o.op = true
    · have hg : o.guard = none := by
        rw [hal] at hsure
        simpa using hsure
      have hw : Region.wanted o (pyield ops fr) = true := by simp [Region.wanted, hg]
      rw [if_pos hw] at h
      obtain ⟨t, ht⟩ : ∃ t, o.op = .alloc t := by
        unfold shapeAlloc at hal
        split at hal
        · rename_i t e; exact ⟨t, e⟩
        · cases hal
      rw [ht] at h
      have hst : pstep P (pcallP E) fl fr σ (.alloc t) = (match pzero P t with | some p => if p.cells.all PD.plain then some (.ptr σ.length 0, σ ++ [.box (boxed t p)]) else none | none => none) := rfl
      rw [hst] at h
      cases hz : pzero P t with
      | none => rw [hz] at h; cases h
      | some p0 =>
        rw [hz] at h
        simp only at h
        by_cases hp : p0.cells.all PD.plain = true
        · rw [if_pos hp] at h
          simp only at h
          obtain ⟨hs, tr, e1, e2⟩ := pdraw_sure hU (n := n) ms hsh hno hsu l (i + 1) _ _ x hd' h
          refine ⟨.box (boxed t p0) :: hs, ⟨fr, σ ++ .box (boxed t p0) :: hs, .ptr σ.length 0, pfoot fr o.op⟩ :: tr, ?_, ?_⟩
          · unfold phoist
            rw [ht]
            simp only [hz, e1, hp, if_true]
          · simp only [pdrawOps, hw, if_true, hal]
            have hA : shapeA o.op = false := by rw [ht]; rfl
            have hp' : pdop P (pcall P E n) fl (noLoose ops.toList ms i) σ.length fr (σ ++ .box (boxed t p0) :: hs) o.op = some (.ptr σ.length 0, σ ++ .box (boxed t p0) :: hs) := by
              unfold pdop
              rw [hA, hal]
              simp
            rw [hp']
            simp only
            rw [List.length_append, List.length_singleton, List.append_assoc, List.singleton_append] at e2
            rw [e2]
        · rw [if_neg hp] at h; cases h
    · simp only [Bool.not_eq_true] at hal
      have hho : ∀ hs, phoist P l = some hs → phoist P (o :: l) = some hs := fun hs e => by
        unfold phoist
        split
        · rename_i t ht; rw [ht] at hal; cases hal
        · exact e
      by_cases hw : Region.wanted o (pyield ops fr) = true
      · rw [if_pos hw] at h
        cases hp : pstep P (pcallP E) fl fr σ o.op with
        | none => rw [hp] at h; cases h
        | some q =>
          obtain ⟨p, σ1⟩ := q
          rw [hp] at h
          simp only at h
          obtain ⟨hs, tr, e1, e2⟩ := pdraw_sure hU (n := n) ms hsh hno hsu l (i + 1) _ _ x hd' h
          have key : pdop P (pcall P E n) fl (noLoose ops.toList ms i) σ.length fr (σ ++ hs) o.op = some (p, σ1 ++ hs) ∧ σ1.length = σ.length := by
            have hpd := pdop_pstep (P := P) (call := pcall P E n) (fl := fl) (k := σ.length) (free := noLoose ops.toList ms i) (fr := fr) (σ := σ ++ hs) hshape hal
            rw [hpd]
            by_cases hm : shapeMove o.op = true
            · obtain ⟨_, e3⟩ := pstep_pure2 (P := P) hU (fl' := fl) (σ2 := σ ++ hs) hown hm hp
              simp only at e3
              subst e3
              have e4 := fun f => pstep_up (n := n) (pstep_pure2 (P := P) hU (fl' := f) (σ2 := σ1 ++ hs) hown hm hp).1
              simp only at e4
              cases (!shapeMove o.op || noLoose ops.toList ms i) with
              | true => exact ⟨e4 fl, rfl⟩
              | false =>
                simp only
                rw [e4]
                simp
            · simp only [Bool.not_eq_true] at hm
              have hm2 := hm
              rw [hm]
              simp only [Bool.not_false, Bool.true_or]
              rw [pstep_nocall (call' := pcallP E) hm]
              unfold pstep pop at hp ⊢
              have hcal : pcallee fr o.op = none := by
                cases hop : o.op with
                | call c =>
                  obtain ⟨callee, args, ts⟩ := c
                  rw [hop] at hm2
                  cases callee with
                  | value f => simp [shapeMove] at hm2
                  | invoke r m => rfl
                  | builtin b => rfl
                | _ => rfl
              rw [hcal] at hp ⊢
              simp only at hp ⊢
              cases hv : pval P fr o.op with
              | some q =>
                rw [hv] at hp
                simp only [Option.some.injEq, Prod.mk.injEq] at hp ⊢
                obtain ⟨rfl, rfl⟩ := hp
                exact ⟨⟨rfl, rfl⟩, rfl⟩
              | none =>
                rw [hv] at hp
                simp only at hp ⊢
                have hsh2 : shapeLoad o.op = true ∨ shapeSlice o.op = true ∨ shapeStore o.op = true ∨ shapeA o.op = true := by
                  simp only [hal, shapeW, hm2, Bool.or_false, Bool.or_eq_true] at hshape
                  rcases hshape with ((h | h) | h) | h
                  · exact .inr (.inr (.inr h))
                  · exact .inl h
                  · exact .inr (.inl h)
                  · exact .inr (.inr (.inl h))
                rcases hsh2 with hl | hl | hl | hl
                · cases hop : o.op with
                  | load t y =>
                    rw [hop] at hp
                    simp only [pmem] at hp ⊢
                    cases he : peval fr y with
                    | none => rw [he] at hp; cases hp
                    | some a =>
                      rw [he] at hp
                      simp only at hp ⊢
                      cases hlo : pload P σ t a with
                      | none => rw [hlo] at hp; cases hp
                      | some q =>
                        rw [hlo] at hp
                        rw [pload_more hs hlo]
                        simp only [Option.some.injEq, Prod.mk.injEq] at hp ⊢
                        obtain ⟨rfl, rfl⟩ := hp
                        exact ⟨⟨rfl, rfl⟩, rfl⟩
                  | _ => rw [hop] at hl; simp [shapeLoad] at hl
                · cases hop : o.op with
                  | buildSlice t len parts =>
                    rw [hop] at hp
                    simp only [pmem] at hp ⊢
                    cases hps : pevalParts fr parts.toList with
                    | none => rw [hps] at hp; cases hp
                    | some ps =>
                      rw [hps] at hp
                      simp only at hp ⊢
                      cases hq : pnewSlice P t len (List.map (fun q => (q.fst, q.snd.strip)) ps) with
                      | none => rw [hq] at hp; cases hp
                      | some q =>
                        rw [hq] at hp
                        simp only [Option.some.injEq, Prod.mk.injEq] at hp ⊢
                        obtain ⟨rfl, rfl⟩ := hp
                        exact ⟨⟨rfl, rfl⟩, rfl⟩
                  | _ => rw [hop] at hl; simp [shapeSlice] at hl
                · cases hop : o.op with
                  | store t y z =>
                    rw [hop] at hp
                    simp only [pmem] at hp ⊢
                    cases he : peval fr y with
                    | none => rw [he] at hp; cases hp
                    | some a =>
                      cases hez : peval fr z with
                      | none => rw [he, hez] at hp; cases hp
                      | some b =>
                        rw [he, hez] at hp
                        simp only at hp ⊢
                        cases hst : pstore P fl σ t a b with
                        | none => rw [hst] at hp; cases hp
                        | some q =>
                          rw [hst] at hp
                          rw [pstore_more hs hst]
                          simp only [Option.some.injEq, Prod.mk.injEq] at hp ⊢
                          obtain ⟨rfl, rfl⟩ := hp
                          refine ⟨⟨rfl, rfl⟩, ?_⟩
                          unfold pstore at hst
                          split at hst
                          · split at hst
                            · split at hst
                              · split at hst
                                · split at hst
                                  · simp only [Option.some.injEq] at hst; subst hst; simp
                                  · cases hst
                                · cases hst
                              · cases hst
                            · cases hst
                          · cases hst
                  | _ => rw [hop] at hl; simp [shapeStore] at hl
                · rw [shapeA_pmem hl] at hp; cases hp
          refine ⟨hs, ⟨fr, σ ++ hs, p, pfoot fr o.op⟩ :: tr, hho hs e1, ?_⟩
          simp only [pdrawOps, hw, if_true, hal, Bool.false_eq_true, if_false]
          rw [key.1]
          simp only
          rw [key.2] at e2
          rw [e2]
      · simp only [Bool.not_eq_true] at hw
        rw [hw] at h
        simp only [Bool.false_eq_true, if_false] at h
        obtain ⟨hs, tr, e1, e2⟩ := pdraw_sure hU (n := n) ms hsh hno hsu l (i + 1) _ _ x hd' h
        refine ⟨hs, ⟨fr, σ ++ hs, .tup [], none⟩ :: tr, hho hs e1, ?_⟩
        simp only [pdrawOps, hw, Bool.false_eq_true, if_false, hal]
        rw [e2]

theorem pdraw_alloc (hU : Uni E) {n : Nat} {ops : Array Oper} {x : List PD × List SObj} (hs : (fastA ops && noOwn ops && allocSure ops) = true) (h : pseq P (pcallP E) fl ops ops.toList fr σ = some x) : pdraw P (pcall P E n) fl ops fr σ = some x := by
  simp only [Bool.and_eq_true, fastA] at hs
  obtain ⟨⟨h1, h2⟩, h3⟩ := hs
  rw [masksK_eq] at h1
  simp only [Bool.and_eq_true] at h1
  obtain ⟨hreg, hfeet⟩ := h1
  have hr := regOk_spec hreg
  obtain ⟨hs, tr, e1, e2⟩ := pdraw_sure (n := n) hU (masks ops.toList []) (fun i o ho => hr.shape i o ho) h2 h3 ops.toList 0 fr σ x (by simp) h
  unfold pdraw
  simp only [hreg, if_true, e1, e2]
  have hfo : footsOk ops.toList (masks ops.toList []) tr = true := by
    simp only [footsOk, List.all_eq_true, List.mem_range]
    simp only [List.all_eq_true, List.mem_range] at hfeet
    intro k hk
    have h1 := hfeet k (by simpa using hk)
    cases hs : isAt shapeStore ops.toList k with
    | false => simp
    | true =>
      rw [hs] at h1
      simp only [Bool.not_true, Bool.false_or, List.all_eq_true, List.mem_range] at h1 ⊢
      intro i hi
      have h2 := h1 i (by simpa using hi)
      rw [h2]
      simp
  rw [if_pos hfo]

theorem WL.drawA1 {rd : Option Nat} {ms : List Nat} {Q : PO → Prop} {ops : Array Oper} {id : Nat} (hU : Uni E) (_hd : noDyn ops = true) (hs : (fastA ops && noOwn ops && allocSure ops) = true) (h : SQ P (pcallP E) fl ops ops.toList fr σ (fun fr' σ' => Q ⟨.normal, fr', ms, σ'⟩)) :
    Wp P E rd (.region id ops true) fl fr ms σ Q := by
  obtain ⟨fr', σ', h1, h2⟩ := h.ex
  exact ⟨_, .draw (N := 0) (fun n _ => pdraw_alloc hU hs h1), h2⟩
theorem WL.drawA {rd : Option Nat} {ms : List Nat} {Q : PO → Prop} {ops : Array Oper} {id : Nat} {y : Code} (hU : Uni E) (_hd : noDyn ops = true) (hs : (fastA ops && noOwn ops && allocSure ops) = true) (h : SQ P (pcallP E) fl ops ops.toList fr σ (fun fr' σ' => Wp P E rd y fl fr' ms σ' Q)) :
    Wp P E rd (.seq (.region id ops true) y) fl fr ms σ Q := by
  obtain ⟨fr', σ', h1, h2⟩ := h.ex
  exact .seq ⟨_, .draw (N := 0) (fun n _ => pdraw_alloc hU hs h1), .normal h2⟩
end
end Go.Kz

/-
  Functions of the library as entries of the table, out of contracts over the model itself.
-/
namespace Go.Kz

theorem fenced_open {F : Fence} {P : Program} (hF : Open F P) (m : Machine) : m.fenced P F := by
  intro g _
  refine ⟨fun h => ?_, Or.inl (hF.fn _), fun _ _ => hF.fn _, fun _ h => ?_⟩
  · rw [hF.alive] at h
    cases h
  · rw [hF.depth] at h
    cases h

theorem comesIn_open {F : Fence} {P : Program} (hF : Open F P) {m m' : Machine} {e : Ending} (h : Comes P m m' e) : ComesIn (Machine.fenced P F) P m m' e := by
  cases e with
  | returned v => exact (StepsIn.of_steps h).mono fun m _ => fenced_open hF m
  | panicked chain => exact (StepsIn.of_steps h).mono fun m _ => fenced_open hF m
  | outgrown => exact h

theorem callsIn_open {F : Fence} {P : Program} (hF : Open F P) {n : Nat} {f : FuncId} {args : Array Value} {w : World} {R : Ending → World → Prop} (h : Calls P f args w R) : CallsIn F n P f args w R :=
  ⟨hF.fn f, fun cs _ => let ⟨e, w', fr, r, s, x⟩ := h cs; ⟨e, w', fr, r, comesIn_open hF s, x⟩⟩

/-- **One more, shown over the model.** -/
theorem ExtOk.addRaw {P : Program} {E : PExt} (hE : ExtOk P E) {f : FuncId} {g : Nat → List PD → List SObj → Option (PD × List SObj)} (hf : ∃ fn, P.funcs[f]? = some fn ∧ fn.body.isSome = true)
    (h : ∀ (fl : Nat) (args : List PD) (c : Cx) (vs : List Value) (p : PD) (σ' : List SObj), g fl args c.σ = some (p, σ') → Sr c → Xw fl c → VRs c vs args → Calls P f vs.toArray c.w (Gives fl c p σ')) : ExtOk P (E.add f g) := by
  intro F fl f' g' args c vs p σ' hF hg hgo hs hX hv
  unfold PExt.add at hg
  split at hg
  · rename_i e
    subst e
    simp only [Option.some.injEq] at hg; subst hg
    exact ⟨hf, fun m => callsIn_open hF (h fl args c vs p σ' hgo hs hX hv)⟩
  · exact hE hF hg hgo hs hX hv

/-- The same, of a function that leaves the store alone. -/
theorem ExtOk.addLib {P : Program} {E : PExt} (hE : ExtOk P E) {f : FuncId} {g : List PD → Option PD} (hf : ∃ fn, P.funcs[f]? = some fn ∧ fn.body.isSome = true)
    (h : ∀ (args : List PD) (c : Cx) (vs : List Value) (p : PD), g args = some p → Sr c → VRs c vs args → Calls P f vs.toArray c.w fun e w' => ∃ v, e = .returned v ∧ c.w.grownBy w' none ∧ (Sr (c.at w') → VR (c.at w') v p)) : ExtOk P (E.add f (entry g)) := by
  refine hE.addRaw hf fun fl args c vs p σ' hg hs _ hv => ?_
  unfold entry at hg
  cases hga : g args with
  | none => rw [hga] at hg; cases hg
  | some q =>
    rw [hga] at hg
    simp only [Option.some.injEq, Prod.mk.injEq] at hg
    obtain ⟨rfl, rfl⟩ := hg
    refine Calls.mono (h args c vs q hga hs hv) fun e w' he => ?_
    obtain ⟨v, rfl, hgr, hvv⟩ := he
    have hs' := hs.grow hgr
    exact ⟨c.at w', rfl, rfl, hs', Nx.grow hs hgr, hvv hs', fun _ h => .inl h⟩

theorem grownBy_refl (w : World) : w.grownBy w none := ⟨rfl, rfl, rfl, Nat.le_refl _, fun _ _ _ => rfl⟩

/-- A new cell lies where nothing is written. -/
theorem av_after {c : Cx} {w' : World} {a : Addr} (hs : Sr c) (h : c.w.heap.size ≤ a.block) : (c.at w').av a := by
  refine ⟨hs.fresh a h, fun id o hd ho => ?_⟩
  have key : ∀ b, blk (c.ρ id) = some b → a.block ≠ b := fun b hb e => by
    have := hs.lt id b hd hb
    omega
  cases o with
  | none => trivial
  | box p => exact key
  | own e size n => intro b hb e; exact absurd e (key b hb)
  | mark => trivial
  | loop st fr ps asg bd => trivial

/-- One text, or one number, handed in. -/
theorem vrs_one {c : Cx} {vs : List Value} {p : PD} (h : VRs c vs [p]) : ∃ v, vs = [v] ∧ VR c v p := by
  match vs, h.1 with
  | [v], _ => exact ⟨v, rfl, h.2 0 _ _ rfl rfl⟩
theorem vrs_two {c : Cx} {vs : List Value} {p q : PD} (h : VRs c vs [p, q]) : ∃ v u, vs = [v, u] ∧ VR c v p ∧ VR c u q := by
  match vs, h.1 with
  | [v, u], _ => exact ⟨v, u, rfl, h.2 0 _ _ rfl rfl, h.2 1 _ _ rfl rfl⟩

theorem VR.int_eq {c : Cx} {v : Value} {k : IntKind} {n : Int} (h : VR c v (.int k n)) : v = .int k n := by cases h; rfl
theorem VR.str_eq {c : Cx} {v : Value} {s : List UInt8} (h : VR c v (.str s)) : v = .string ⟨s.toArray⟩ := by cases h; rfl

theorem gf1_some {α β : Type} {a : Em α} {r : Em β} {F : α → Option β} {args : List PD} {p : PD} (h : gf1 a r F args = some p) : ∃ x z, args.map PD.strip = [a.emb x] ∧ F x = some z ∧ p = r.emb z := by
  match args, h with
  | [q], h =>
    simp only [gf1] at h
    split at h
    · rename_i x hx
      split at h
      · rename_i z hz
        simp only [Option.some.injEq] at h
        exact ⟨x, z, by simp [Em.of_dec hx], hz, h.symm⟩
      · cases h
    · cases h
theorem gf2_some {α β γ : Type} {a : Em α} {b : Em β} {r : Em γ} {F : α → β → Option γ} {args : List PD} {p : PD} (h : gf2 a b r F args = some p) : ∃ x y z, args.map PD.strip = [a.emb x, b.emb y] ∧ F x y = some z ∧ p = r.emb z := by
  match args, h with
  | [q1, q2], h =>
    simp only [gf2] at h
    split at h
    · rename_i x y hx hy
      split at h
      · rename_i z hz
        simp only [Option.some.injEq] at h
        exact ⟨x, y, z, by simp [Em.of_dec hx, Em.of_dec hy], hz, h.symm⟩
      · cases h
    · cases h

end Go.Kz

/-
  A row of one's own, of which a head is frozen anew: all else stays.
-/
namespace Go.Kz

section
variable {c : Cx} {w' : World} {id n cap g size : Nat} {e : TypeId} {cur : Array Value} {fz fz' : Nat × Nat}

theorem refz_cell (hg : c.w.heap[g]? = some (.cells cur e fz)) (h1 : ∀ k, k ≠ g → w'.heap[k]? = c.w.heap[k]?) (h2 : w'.heap[g]? = some (.cells cur e fz')) (a : Addr) : w'.cell? a = c.w.cell? a := by
  unfold World.cell?
  by_cases h : a.block = g
  · rw [h, hg, h2]
  · rw [h1 _ h]

theorem Nx.refz {fl : Nat} (hd : c.D id) (hρ : c.ρ id = .slice (some ⟨g, 0, none⟩) n cap) (hfl : fl ≤ id) (hg : c.w.heap[g]? = some (.cells cur e fz))
    (h0 : w'.os = c.w.os ∧ w'.tape = c.w.tape ∧ w'.output = c.w.output ∧ w'.heap.size = c.w.heap.size) (h1 : ∀ k, k ≠ g → w'.heap[k]? = c.w.heap[k]?) (h2 : w'.heap[g]? = some (.cells cur e fz')) : Nx fl c (c.at w') where
  X := rfl
  os := h0.1
  tape := h0.2.1
  output := h0.2.2.1
  size := Nat.le_of_eq h0.2.2.2.symm
  len := Nat.le_refl _
  cell := fun a v ha hv => ⟨ha, by show w'.cell? a = _; rw [refz_cell hg h1 h2]; exact hv⟩
  dom := fun _ h => h
  new := fun _ h => .inl h
  rbox := fun _ p _ h => ⟨rfl, p, h⟩
  rkeep := fun _ _ h => ⟨rfl, h⟩
  rown := fun _ _ _ n _ h => ⟨n, h, Nat.le_refl _, fun _ => rfl⟩
  back := fun _ _ h h' _ => ⟨h, h'⟩
  frame := fun k _ hx => h1 k fun e => hx id hd hfl (by rw [hρ, e]; rfl)
  ro := fun _ _ _ => rfl
  hole := fun _ _ _ => rfl

theorem Sr.refz (hs : Sr c) (hd : c.D id) (hq : c.σ[id]? = some (.own e size n)) (hρ : c.ρ id = .slice (some ⟨g, 0, none⟩) n cap) (hg : c.w.heap[g]? = some (.cells cur e fz))
    (h0 : w'.os = c.w.os ∧ w'.tape = c.w.tape ∧ w'.output = c.w.output ∧ w'.heap.size = c.w.heap.size) (h1 : ∀ k, k ≠ g → w'.heap[k]? = c.w.heap[k]?) (h2 : w'.heap[g]? = some (.cells cur e fz')) (h3 : fz'.2 ≤ n * size) : Sr (c.at w') := by
  have hb : blk (c.ρ id) = some g := by rw [hρ]; rfl
  have nx : Nx 0 c (c.at w') := Nx.refz hd hρ (Nat.zero_le _) hg h0 h1 h2
  have far : ∀ i b, c.D i → i ≠ id → blk (c.ρ i) = some b → w'.heap[b]? = c.w.heap[b]? := fun i b hi hne hbi => h1 b fun e' => hs.inj i id b hi hd hne hbi (by rw [e']; exact hb)
  have hne : ∀ i (o : SObj), c.σ[i]? = some o → (∀ e s m, o ≠ .own e s m) → i ≠ id := fun i o ho hno e' => by
    subst e'
    rw [hq] at ho
    simp only [Option.some.injEq] at ho
    exact hno _ _ _ ho.symm
  refine ⟨?_, ?_, ?_, ?_, hs.inj, ?_, hs.dom, ?_, hs.glob.mono nx⟩
  · intro i p hi hp
    obtain ⟨b', cs', T', e1, e2, e3, e4⟩ := hs.box i p hi hp
    exact ⟨b', cs', T', e1, by show w'.heap[b']? = _; rw [far i b' hi (hne i _ hp (fun _ _ _ e => by cases e)) (by rw [e1]; rfl)]; exact e2, e3.mono nx, e4⟩
  · intro i e0 s m hi ho
    by_cases hii : i = id
    · subst hii
      have ho' : c.σ[i]? = some (.own e0 s m) := ho
      rw [hq] at ho'
      simp only [Option.some.injEq, SObj.own.injEq] at ho'
      obtain ⟨rfl, rfl, rfl⟩ := ho'
      obtain ⟨xs, hx⟩ := hs.own i _ _ _ hi hq
      refine ⟨xs, hx.1, ?_⟩
      rcases hx.2 with hv | ⟨g1, cap1, cur1, fz1, hv, hb1, hg1, _, r⟩
      · rw [hρ] at hv
        simp at hv
      · rw [hρ] at hv
        simp only [Value.slice.injEq, Option.some.injEq, Addr.mk.injEq, and_true] at hv
        obtain ⟨rfl, _, rfl⟩ := hv
        rw [hg] at hg1
        simp only [Option.some.injEq, Obj.cells.injEq] at hg1
        obtain ⟨rfl, _, rfl⟩ := hg1
        exact .inr ⟨g, cap, cur, fz', hρ, hb1, h2, h3, r⟩
    · obtain ⟨xs, hx⟩ := hs.own i e0 s m hi ho
      exact ⟨xs, own_kept hx (fun g' hg' => far i g' hi hii hg')⟩
  · intro i hi hm
    obtain ⟨b', e1, e2⟩ := hs.mark i hi hm
    exact ⟨b', e1, by show w'.heap[b']? = _; rw [far i b' hi (hne i _ hm (fun _ _ _ e => by cases e)) (by rw [e1]; rfl)]; exact e2⟩
  · intro i st fr ps asg bd hi hm
    obtain ⟨b', r, e1, e2, e3, e4, e5, e6, e7⟩ := hs.loop i st fr ps asg bd hi hm
    exact ⟨b', r, e1, by show w'.heap[b']? = _; rw [far i b' hi (hne i _ hm (fun _ _ _ e => by cases e)) (by rw [e1]; rfl)]; exact e2, e3, e4, e5, e6.mono nx, e7⟩
  · intro i b hi hbi
    show b < w'.heap.size
    rw [h0.2.2.2]
    exact hs.lt i b hi hbi
  · intro a ha
    have : w'.heap.size ≤ a.block := ha
    rw [h0.2.2.2] at this
    exact hs.fresh a this
end

/-- The bytes that cells hold. -/
def bytesPD : List PD → Option (List UInt8)
  | [] => some []
  | .int .u8 n :: r => if 0 ≤ n ∧ n < 256 then (match bytesPD r with | some l => some (UInt8.ofNat n.toNat :: l) | none => none) else none
  | _ => none

@[simp] theorem bytesPD_map : ∀ l : List UInt8, bytesPD (l.map fun b => PD.int .u8 b.toNat) = some l
  | [] => rfl
  | b :: r => by
    have hb : (b.toNat : Int) < 256 := by have := b.toNat_lt; omega
    have h0 : (0 : Int) ≤ (b.toNat : Int) := by omega
    simp only [List.map_cons, bytesPD, hb, h0, and_self, if_true, bytesPD_map r, Int.toNat_natCast]
    simp

theorem bytesPD_of : ∀ {xs : List PD} {l : List UInt8}, bytesPD xs = some l → xs = l.map fun b => PD.int .u8 b.toNat
  | [], l, h => by simp only [bytesPD, Option.some.injEq] at h; subst h; rfl
  | x :: r, l, h => by
    unfold bytesPD at h
    split at h
    · cases ‹_ :: _ = []›
    · rename_i n r' heq
      simp only [List.cons.injEq] at heq
      obtain ⟨rfl, rfl⟩ := heq
      split at h
      · rename_i hn
        split at h
        · rename_i l' hl
          simp only [Option.some.injEq] at h
          subst h
          rw [List.map_cons, ← bytesPD_of hl]
          congr 2
          have : (UInt8.ofNat n.toNat).toNat = n.toNat := by
            simp only [UInt8.toNat_ofNat']
            omega
          omega
        · cases h
      · cases h
    · cases h

end Go.Kz

/-
  Drawn regions with loads and stores of boxes, loose of each other: which box a pointer holds is followed through the region's own text.
-/
namespace Go.Kz
open Go

/-- The box that a temporary points into, as far as it is known. -/
abbrev BEnv := Nat → Option Nat
/-- Whose pointer is handed on. -/
def psrc : Op → Option Tmp
  | .fieldAddr _ (.tmp u) _ => some u
  | .nilCheck (.tmp u) => some u
  | .move (.tmp u) => some u
  | _ => none
def BEnv.next (ρ : BEnv) (o : Oper) : BEnv := match o.dst with
  | none => ρ
  | some d => fun t => if d = t then (match psrc o.op with
    | some u => ρ u
    | none => none) else ρ t
def BEnv.foot (ρ : BEnv) : Op → Option Nat
  | .load _ (.tmp t) => ρ t
  | .store _ (.tmp t) _ => ρ t
  | _ => none
def feetL : BEnv → List Oper → List (Option Nat)
  | _, [] => []
  | ρ, o :: l => ρ.foot o.op :: feetL (ρ.next o) l
def BEnv.ok (ρ : BEnv) (fr : List PD) : Prop := ∀ t id id' off, ρ t = some id → fr.getD t (.tup []) = .ptr id' off → id' = id
def BEnv.of : List (Nat × Nat) → BEnv
  | [] => fun _ => none
  | x :: l => fun t => if x.1 = t then some x.2 else BEnv.of l t
def BEnv.at (fr : List PD) : List (Nat × Nat) → Prop
  | [] => True
  | x :: l => (∃ off, lk fr x.1 = some (.ptr x.2 off)) ∧ BEnv.at fr l

theorem BEnv.of_ok {fr : List PD} : ∀ (l : List (Nat × Nat)), BEnv.at fr l → (BEnv.of l).ok fr
  | [], _ => fun _ _ _ _ h => by cases h
  | x :: l, ⟨⟨off, h1⟩, h2⟩ => fun t id id' off' h h' => by
    unfold BEnv.of at h
    by_cases e : x.1 = t
    · rw [if_pos e] at h
      simp only [Option.some.injEq] at h
      rw [lk_eq, e] at h1
      rw [List.getD_eq_getElem?_getD, h1] at h'
      simp only [Option.getD_some, PD.ptr.injEq] at h'
      rw [← h'.1, h]
    · rw [if_neg e] at h
      exact BEnv.of_ok l h2 t id id' off' h h'

section
variable {P : Program} {call : PCall} {fl : Nat} {ops : Array Oper}

theorem BEnv.foot_ok {ρ : BEnv} {fr : List PD} (h : ρ.ok fr) {op : Op} {a b : Nat} (h1 : pfoot fr op = some a) (h2 : ρ.foot op = some b) : a = b := by
  unfold BEnv.foot at h2
  split at h2
  · rename_i t
    simp only [pfoot, peval] at h1
    split at h1
    · rename_i id off e
      simp only [Option.some.injEq] at h1 e
      exact h1 ▸ h _ _ _ _ h2 e
    · cases h1
  · rename_i t
    simp only [pfoot, peval] at h1
    split at h1
    · rename_i id off e
      simp only [Option.some.injEq] at h1 e
      exact h1 ▸ h _ _ _ _ h2 e
    · cases h1
  · cases h2

theorem BEnv.next_ok {ρ : BEnv} {fr : List PD} (h : ρ.ok fr) {o : Oper} {p : PD}
    (hp : ∀ u, psrc o.op = some u → ∀ id off, p = .ptr id off → ∃ off', fr.getD u (.tup []) = .ptr id off') : (ρ.next o).ok (pput fr o.dst p) := by
  intro t id id' off h1 h2
  unfold BEnv.next at h1
  cases hd : o.dst with
  | none =>
    rw [hd] at h1 h2
    exact h t id id' off h1 h2
  | some d =>
    rw [hd] at h1 h2
    simp only [pput] at h1 h2
    by_cases e : d = t
    · rw [if_pos e] at h1
      have hpt : p = .ptr id' off := by
        subst e
        rw [List.getD_eq_getElem?_getD] at h2
        by_cases hlt : d < fr.length
        · rw [List.getElem?_set_self hlt] at h2
          simpa using h2
        · rw [List.getElem?_eq_none (by rw [List.length_set]; exact Nat.le_of_not_lt hlt)] at h2
          cases h2
      split at h1
      · rename_i u ho
        obtain ⟨off', hu⟩ := hp u ho _ _ hpt
        exact h u id id' off' h1 hu
      · cases h1
    · rw [if_neg e] at h1
      rw [List.getD_eq_getElem?_getD, List.getElem?_set_ne e] at h2
      exact h t id id' off h1 (by rw [List.getD_eq_getElem?_getD]; exact h2)

theorem pfieldAddr_ptr {s : TypeId} {x : PD} {f id off : Nat} (h : pfieldAddr P s x f = some (.ptr id off)) : ∃ off', x = .ptr id off' := by
  unfold pfieldAddr at h
  repeat' split at h
  all_goals first
    | (simp only [Option.some.injEq, PD.ptr.injEq] at h; obtain ⟨rfl, _⟩ := h; exact ⟨_, rfl⟩)
    | (cases h; done)

theorem feet_ok : ∀ (l : List Oper) (ms : List Nat) (i k : Nat) (fr : List PD) (σ : List SObj) (tr : List TE) (fr' : List PD) (σ' : List SObj) (ρ : BEnv),
    pdrawOps P call fl ops ms i k l fr σ = some (tr, fr', σ') → ρ.ok fr → ∀ j a b, (tr[j]?).bind TE.foot = some a → (feetL ρ l).getD j none = some b → a = b
  | [], _, _, _, _, _, _, _, _, _, _, _, _, _, _, _, h2 => by simp [feetL] at h2
  | o :: l, ms, i, k, fr, σ, tr, fr', σ', ρ, h, hρ, j, a, b, h1, h2 => by
    simp only [pdrawOps] at h
    split at h
    · split at h
      · rename_i p σ1 hop
        split at h
        · rename_i tr1 fr1 σ2 hrec
          simp only [Option.some.injEq, Prod.mk.injEq] at h
          obtain ⟨rfl, rfl, rfl⟩ := h
          cases j with
          | zero =>
            simp only [List.getElem?_cons_zero, Option.bind_some] at h1
            simp only [feetL, List.getD_cons_zero] at h2
            exact BEnv.foot_ok hρ h1 h2
          | succ j =>
            simp only [List.getElem?_cons_succ] at h1
            simp only [feetL, List.getD_cons_succ] at h2
            refine feet_ok l ms _ _ _ _ _ _ _ _ hrec (BEnv.next_ok hρ ?_) j a b h1 h2
            intro u ho id off hp
            unfold psrc at ho
            split at ho
            · rename_i s u' f hop'
              simp only [Option.some.injEq] at ho
              subst ho
              rw [hop'] at hop
              simp only [pdop, shapeA, if_true, pval, peval] at hop
              split at hop
              · rename_i p' hp'
                simp only [Option.some.injEq, Prod.mk.injEq] at hop
                obtain ⟨rfl, rfl⟩ := hop
                rw [hp] at hp'
                exact pfieldAddr_ptr hp'
              · cases hop
            · rename_i u' hop'
              simp only [Option.some.injEq] at ho
              subst ho
              rw [hop'] at hop
              simp only [pdop, shapeA, if_true, pval, peval] at hop
              split at hop
              · rename_i p' hp'
                simp only [Option.some.injEq, Prod.mk.injEq] at hop
                obtain ⟨rfl, rfl⟩ := hop
                rw [hp] at hp'
                split at hp'
                · rename_i id' off' e
                  simp only [Option.some.injEq, PD.ptr.injEq] at e hp'
                  obtain ⟨rfl, rfl⟩ := hp'
                  exact ⟨_, e⟩
                · simp at hp'
                · cases hp'
              · cases hop
            · rename_i u' hop'
              simp only [Option.some.injEq] at ho
              subst ho
              rw [hop'] at hop
              simp only [pdop, shapeA, if_true, pval, peval, Option.some.injEq, Prod.mk.injEq] at hop
              exact ⟨off, by rw [hop.1, hp]⟩
            · cases ho
        · cases h
      · cases h
    · split at h
      · rename_i tr1 fr1 σ2 hrec
        simp only [Option.some.injEq, Prod.mk.injEq] at h
        obtain ⟨rfl, rfl, rfl⟩ := h
        cases j with
        | zero => simp at h1
        | succ j =>
          simp only [List.getElem?_cons_succ] at h1
          simp only [feetL, List.getD_cons_succ] at h2
          exact feet_ok l ms _ _ _ _ _ _ _ _ hrec (BEnv.next_ok hρ fun _ _ _ _ hp => by cases hp) j a b h1 h2
      · cases h

/-- The loads and stores that stand loose of each other: their boxes. -/
def looseFeet (ops : List Oper) (ρ : BEnv) : List (Option Nat × Option Nat) := masksK ops [] fun ms =>
  (List.range ops.length).flatMap fun k => if isAt shapeStore ops k then (List.range ops.length).filterMap fun i => if isAt shapeLoad ops i && loose ms i k then some ((feetL ρ ops).getD i none, (feetL ρ ops).getD k none) else none else []
def apartP : List (Option Nat × Option Nat) → Prop
  | [] => True
  | (some a, some b) :: l => a ≠ b ∧ apartP l
  | _ :: _ => False
theorem apartP_mem : ∀ {l : List (Option Nat × Option Nat)}, apartP l → ∀ x y, (x, y) ∈ l → ∃ a b, x = some a ∧ y = some b ∧ a ≠ b
  | [], _, _, _, h => by cases h
  | (some a, some b) :: l, h, x, y, hm => by
    rcases List.mem_cons.1 hm with e | hm
    · simp only [Prod.mk.injEq] at e
      exact ⟨a, b, e.1, e.2, h.1⟩
    · exact apartP_mem h.2 x y hm
  | (none, _) :: _, h, _, _, _ => h.elim
  | (some _, none) :: _, h, _, _, _ => h.elim

/-- As fastA, but for the loose loads and stores. -/
def fastB (ops : Array Oper) : Bool := masksK ops.toList [] fun ms => regOk ops ms
end

section
variable {P : Program} {E : PExt} {fl : Nat} {fr : List PD} {σ : List SObj}
theorem pdraw_feet (hU : Uni E) {n : Nat} {ops : Array Oper} {x : List PD × List SObj} (ρ : List (Nat × Nat)) {L : List (Option Nat × Option Nat)} (hs : (fastB ops && noOwn ops && allocSure ops) = true)
    (hρ : BEnv.at fr ρ) (hL : looseFeet ops.toList (BEnv.of ρ) = L) (hp : apartP L) (h : pseq P (pcallP E) fl ops ops.toList fr σ = some x) : pdraw P (pcall P E n) fl ops fr σ = some x := by
  simp only [Bool.and_eq_true, fastB] at hs
  obtain ⟨⟨h1, h2⟩, h3⟩ := hs
  rw [masksK_eq] at h1
  have hr := regOk_spec h1
  obtain ⟨hs, tr, e1, e2⟩ := pdraw_sure (n := n) hU (masks ops.toList []) (fun i o ho => hr.shape i o ho) h2 h3 ops.toList 0 fr σ x (by simp) h
  have hft := feet_ok _ _ _ _ _ _ _ _ _ _ e2 (BEnv.of_ok ρ hρ)
  unfold pdraw
  simp only [h1, if_true, e1, e2]
  have hfo : footsOk ops.toList (masks ops.toList []) tr = true := by
    simp only [footsOk, List.all_eq_true, List.mem_range]
    intro k hk
    cases hs : isAt shapeStore ops.toList k with
    | false => simp
    | true =>
      simp only [Bool.not_true, Bool.false_or, List.all_eq_true, List.mem_range]
      intro i hi
      cases hli : isAt shapeLoad ops.toList i with
      | false => simp
      | true =>
        cases hlo : loose (masks ops.toList []) i k with
        | false => simp
        | true =>
          simp only [Bool.not_true, Bool.false_or]
          have hm : ((feetL (BEnv.of ρ) ops.toList).getD i none, (feetL (BEnv.of ρ) ops.toList).getD k none) ∈ L := by
            rw [← hL, looseFeet, masksK_eq]
            refine List.mem_flatMap.2 ⟨k, List.mem_range.2 hk, ?_⟩
            rw [if_pos hs]
            refine List.mem_filterMap.2 ⟨i, List.mem_range.2 hi, ?_⟩
            rw [hli, hlo]
            rfl
          obtain ⟨a, b, ha, hb, hab⟩ := apartP_mem hp _ _ hm
          split
          · rename_i a' b' ea eb
            have e3 := hft i a' a ea ha
            have e4 := hft k b' b eb hb
            rw [e3, e4]
            simpa using hab
          · rfl
  rw [if_pos hfo]

theorem Wp.drawB2 {rd : Option Nat} {ms : List Nat} {Q : PO → Prop} {ops : Array Oper} {id : Nat} {y : Code} (hU : Uni E) (ρ : List (Nat × Nat)) (L : List (Option Nat × Option Nat)) (hs : (fastB ops && noOwn ops && allocSure ops) = true)
    (hρ : BEnv.at fr ρ) (hL : looseFeet ops.toList (BEnv.of ρ) = L) (hp : apartP L) (h : SQ P (pcallP E) fl ops ops.toList fr σ (fun fr' σ' => Wp P E rd y fl fr' ms σ' Q)) :
    Wp P E rd (.seq (.region id ops true) y) fl fr ms σ Q := by
  obtain ⟨fr', σ', h1, h2⟩ := h.ex
  exact .seq ⟨_, .draw (N := 0) (fun n _ => pdraw_feet hU ρ hs hρ hL hp h1), .normal h2⟩
theorem Wp.drawB1 {rd : Option Nat} {ms : List Nat} {Q : PO → Prop} {ops : Array Oper} {id : Nat} (hU : Uni E) (ρ : List (Nat × Nat)) (L : List (Option Nat × Option Nat)) (hs : (fastB ops && noOwn ops && allocSure ops) = true)
    (hρ : BEnv.at fr ρ) (hL : looseFeet ops.toList (BEnv.of ρ) = L) (hp : apartP L) (h : SQ P (pcallP E) fl ops ops.toList fr σ (fun fr' σ' => Q ⟨.normal, fr', ms, σ'⟩)) :
    Wp P E rd (.region id ops true) fl fr ms σ Q := by
  obtain ⟨fr', σ', h1, h2⟩ := h.ex
  exact ⟨_, .draw (N := 0) (fun n _ => pdraw_feet hU ρ hs hρ hL hp h1), h2⟩
end
end Go.Kz

/-
  append(bytes, text...) as a step.
-/
namespace Go.Kz
open Go

def isText (P : Program) (u : TypeId) : Bool := match P.underlying u with
  | some .string => true
  | _ => false

section
variable {P : Program} {call : PCall} {fl : Nat} {ops : Array Oper} {l : List Oper} {fr fr1 : List PD} {σ σ1 : List SObj} {K : List PD → List SObj → Prop}
variable {dst : Option Tmp} {x y : Operand} {t u ty : TypeId} {pos : String} {edges : Array Edge} {guard : Option (Nat × Bool)} {p r : PD} {bs : List UInt8}

theorem SQ.appendT (hub : (isText P u && pbyteRow P t) = true) (hw : Region.wanted ⟨dst, .call { callee := .builtin .append, args := #[x, y], argTypes := #[t, u] }, ty, pos, edges, guard⟩ (pyield ops fr) = true) (hx : evalO fr x = some p) (hy : evalO fr y = some (.str bs))
    (hr : pappend P fl σ t p (textPD bs) = some (r, σ1)) (hf : pput fr dst r = fr1) (k : SQ P call fl ops l fr1 σ1 K) : SQ P call fl ops (⟨dst, .call { callee := .builtin .append, args := #[x, y], argTypes := #[t, u] }, ty, pos, edges, guard⟩ :: l) fr σ K := by
  simp only [Bool.and_eq_true] at hub
  have hu : P.underlying u = some .string := by
    have := hub.1
    unfold isText at this
    split at this
    · assumption
    · cases this
  have hne : t ≠ u := by
    rintro rfl
    have := hub.2
    unfold pbyteRow at this
    rw [hu] at this
    cases this
  refine .step hw (pstep_mem rfl ?_ ?_) (hf ▸ k)
  · simp only [pval, pevals, evalO_ok hx, evalO_ok hy, pbuiltin]
  · simp only [pmem, pevals, evalO_ok hx, evalO_ok hy, hne, if_false, hu, hub.2, if_true]
    exact hr

theorem SL.appendT (hub : (isText P u && pbyteRow P t) = true) (hw : Wt (Region.wanted ⟨dst, .call { callee := .builtin .append, args := #[x, y], argTypes := #[t, u] }, ty, pos, edges, guard⟩ (pyield ops fr) = true)) (hx : evalO fr x = some p) (hy : evalO fr y = some (.str bs))
    (hr : By (pappend P fl σ t p (textPD bs) = some (r, σ1))) (hf : Fr (pput fr dst r = fr1)) (k : SQ P call fl ops l fr1 σ1 K) : SQ P call fl ops (⟨dst, .call { callee := .builtin .append, args := #[x, y], argTypes := #[t, u] }, ty, pos, edges, guard⟩ :: l) fr σ K := SQ.appendT hub hw.h hx hy hr.h hf.h k
end
end Go.Kz

/-
  Tables that lie in the world, cell by cell; variables of a number.
-/
namespace Go.Kz
open Go Go.RowKit

theorem laid_one {P : Program} {w : World} {nm : String} {d : DataW Unit} : ∀ {laid : List (String × DataW Unit)} {ps : List MemPlace}, DataW.LaidVars P w laid ps → (nm, d) ∈ laid →
    ∃ g t cs fuel p, P.globalNamed nm = some g ∧ (P.globals[g]?).map (·.type) = some t ∧ w.var? P nm = some cs ∧ DataW.trod (fun _ => ()) P w 0 (fun _ => true) false fuel t cs.toList = some (d, p)
  | [], _, _, hm => by cases hm
  | (n, d') :: r, ps, h, hm => by
    obtain ⟨g, t, cs, fuel, p, q, h1, h2, h3, h4, h5, _⟩ := h
    rcases List.mem_cons.1 hm with e | hm
    · simp only [Prod.mk.injEq] at e
      obtain ⟨rfl, rfl⟩ := e
      exact ⟨g, t, cs, fuel, p, h1, h2, h3, h4⟩
    · exact laid_one h5 hm

theorem held_of_laid {P : Program} {w : World} {laid : List (String × DataW Unit)} {ps : List MemPlace} {nm : String} {k : IntKind} {xs : List Int} {g n : Nat} {t e : TypeId} (h : DataW.LaidVars P w laid ps)
    (hm : (nm, (.agg (xs.map fun x => .lit (.int k x)) : DataW Unit)) ∈ laid)
    (hg : P.globalNamed nm = some g) (ht : (P.globals[g]?).map (·.type) = some t) (hu : P.underlying t = some (.array n e)) (he : P.underlying e = some (.int k)) (hc : P.cellsOf e = 1) (hct : P.cellsOf t = n) :
    ∃ T fz, w.heap[g]? = some (.cells ((xs.map (Value.int k)).toArray) T fz) := by
  obtain ⟨g1, t1, cs1, f1, p1, hg1, ht1, hv1, hd1⟩ := laid_one h hm
  obtain rfl := Option.some.inj (hg.symm.trans hg1)
  obtain rfl := Option.some.inj (ht.symm.trans ht1)
  obtain ⟨ys, m1, rfl, hx1, hlen, hn, hel⟩ := DataW.trod_array hu hd1
  simp only [Prod.mk.injEq, DataW.agg.injEq] at hx1
  have hxl : xs.length = n := by
    have := congrArg List.length hx1.1
    simp only [List.length_map] at this
    omega
  have key : ∀ (j : Nat) (x : Int), xs[j]? = some x → cs1[j]? = some (Value.int k x) := by
    intro j x hj
    have hjl : j < n := by rw [← hxl]; exact (List.getElem?_eq_some_iff.1 hj).1
    have hy : ys[j]? = some ys[j] := List.getElem?_eq_getElem (by omega)
    have h1 := hel j hjl
    rw [hy, hc, Nat.mul_one] at h1
    obtain ⟨v, e1, e2, _⟩ := DataW.trod_int he h1
    have h2 := congrArg (fun l => l[j]?) hx1.1
    simp only [List.getElem?_map, hj, hy, Option.map_some, Option.some.injEq, e2, DataW.lit.injEq, Lit.int.injEq] at h2
    have h3 := congrArg (fun l => l[0]?) e1
    simp only [List.getElem?_take, List.getElem?_drop, Nat.add_zero, Nat.zero_lt_one, if_true, List.getElem?_cons_zero] at h3
    rw [← Array.getElem?_toList, h3, h2.2]
  have hcs : cs1 = (xs.map (Value.int k)).toArray := by
    apply Array.ext'
    apply List.ext_getElem?
    intro j
    rw [List.getElem?_map]
    cases hx : xs[j]? with
    | some x => rw [Array.getElem?_toList, key j x hx]; rfl
    | none =>
      have hj : xs.length ≤ j := List.getElem?_eq_none_iff.1 hx
      rw [List.getElem?_eq_none (by rw [hlen, hct]; omega)]
      rfl
  have hv := hv1
  unfold World.var? at hv
  rw [hg, Option.bind_some] at hv
  split at hv
  · rename_i cs T fz hh
    simp only [Option.some.injEq] at hv
    exact ⟨T, fz, by rw [hh, hv, hcs]⟩
  · cases hv

theorem eptr_of_held {w : World} {g : Nat} {k : IntKind} {xs : List Int} {T : TypeId} {fz : Nat × Nat} (h : w.heap[g]? = some (.cells ((xs.map (Value.int k)).toArray) T fz)) : VR (.start w) (.pointer (some ⟨g, 0, none⟩)) (.eptr (xs.map (PD.int k)) 0) := by
  have hadd : ∀ j, (⟨g, 0, none⟩ : Addr).add j = ⟨g, j, none⟩ := fun j => by unfold Addr.add; split <;> simp_all
  have := VR.eptr (c := .start w) ⟨g, 0, none⟩ (xs.map (Value.int k)) (xs.map (PD.int k)) 0 (by simp) (by simp [Value.oneCell']) (fun j v hj => by
    rw [hadd]
    refine ⟨?_, av_start _⟩
    show w.cell? ⟨g, j, none⟩ = some v
    unfold World.cell?
    simp only [h]
    simpa using hj) (fun j v d h1 h2 => by
    rw [List.getElem?_map] at h1 h2
    cases hx : xs[j]? with
    | none => rw [hx] at h1; simp at h1
    | some x =>
      rw [hx] at h1 h2
      simp only [Option.map_some, Option.some.injEq] at h1 h2
      subst h1 h2
      exact .int k x)
  rw [hadd] at this
  exact this

/-- A variable of a number's type: one cell, which bears a number. -/
theorem int_of_shaped {P : Program} {w : World} {g : Nat} {t : TypeId} {k : IntKind} {zero : Array Value} (h : w.ShapedOpen P) (hg : g < P.globals.size)
    (h0 : ((begin P (fun _ _ => 0) default).world.heap[g]?).bind Obj.row? = some (zero, t)) (hz : zero.size = 1) (hb : P.buildable t = true) (hty : P.cellTypes P.depth t = some [t]) (hu : P.underlying t = some (.int k)) :
    ∃ m, ∃ T fz, w.heap[g]? = some (.cells #[.int k m] T fz) := by
  obtain ⟨cs, h1, h2, h3⟩ := h.1 g zero t hg h0
  have h4 := h3 hb
  obtain ⟨ts, e1, _, h5⟩ := h4
  obtain rfl := Option.some.inj (hty.symm.trans e1)
  have hsz : cs.size = 1 := by omega
  obtain ⟨u, e2, h6⟩ := h5 0 cs[0] (Array.getElem?_eq_getElem (by omega))
  simp only [List.length_singleton, Nat.zero_mod, List.getElem?_cons_zero, Option.some.injEq] at e2
  subst e2
  unfold Cell.ok at h6
  rw [hu] at h6
  have hv : ∃ m, cs[0] = .int k m := by
    cases hc : cs[0] with
    | int k' m =>
      rw [hc] at h6
      simp only at h6
      exact ⟨m, by rw [h6.1]⟩
    | _ =>
      rw [hc] at h6
      simp at h6
  obtain ⟨m, hm⟩ := hv
  refine ⟨m, t, (0, 0), ?_⟩
  rw [h1]
  have : cs = #[.int k m] := by
    apply Array.ext
    · simpa using hsz
    · intro i hi1 hi2
      have : i = 0 := by omega
      subst this
      simpa using hm
  rw [this]
end Go.Kz

/-
  Lifting, where the shape of the world at the start is needed.
-/
namespace Go.Kz
open Go Go.RowKit

theorem handed_shaped {H : Type} {enc : TypeId × Value → H} {a : Assume} {C : Checked} {os : Os} {f : FuncId} {fn : Func} {s : ChangeSpec} {conds : List PathCond} {apart fresh handsOn again : Bool} {X : World → Array Value → Prop}
    (hX : ∀ (w w' : World) (args : Array Value), w.heap = w'.heap → X w args → X w' args)
    (own : ownKnob C.prog.godebug = none) (started : os.Started) (noInit : C.prog.inits.idxOf? f = none) (hfn : C.prog.funcs[f]? = some fn)
    (witness : ∃ (w : World) (tape : Tape) (i : Input), w.os = os ∧ (w.forCall tape i).Shaped C.prog ∧ i.vars = [] ∧ Input.okWide C.prog (w.forCall tape i) .any w.heap.size f i ∧
      ((s.pre enc C.prog fn conds apart (w.forCall tape i).memory i.args ∧ X (w.forCall tape i).memory i.args) ∧ sizedMet enc C.prog fn (OpenSpec.ofChange s) apart (w.forCall tape i).memory i.args) ∧ a.holds C.prog (lone (Frame.enter C.prog f i.args .normal) [] (w.forCall tape i)))
    (contract : ∀ (W : World) (base : Nat) (args : Array Value) (ds gs : List (DataW H)) (before : List MemPlace), W.ShapedOpen C.prog →
      (∀ (j : Nat) t v, fn.params[j]? = some t → args[j]? = some v → Value.okWide C.prog W .any base t v) →
      DataW.Whole enc C.prog fn.params.toList s.vars apart W args.toList ds gs before →
      conds.all (PathCond.test C.prog ⟨fn.params.toList, ds, s.plain.varTypes C.prog, gs⟩) = true →
      (DataW.weightsEach C.prog (fn.params.toList ++ s.plain.varTypes C.prog) (ds ++ gs)).all (· ≤ reachBytes) = true → X W args →
      a.holds C.prog (lone (Frame.enter C.prog f args .normal) [] W) →
      Calls C.prog f args W fun e W' => ∃ v, e = .returned v ∧ s.post enc C.prog fn apart fresh handsOn again W args v W') :
    ReturnsInHanded a C os f .any (fun w args => (s.pre enc C.prog fn conds apart w args ∧ X w args) ∧ sizedMet enc C.prog fn (OpenSpec.ofChange s) apart w args) (s.post enc C.prog fn apart fresh handsOn again) := by
  refine returnsInHanded_of_calls own started noInit witness ?_
  intro w tape i _ hsh _ hok hpre hholds
  obtain ⟨_, _, _, fn', hfn', _, _, _, _, hval⟩ := hok
  obtain rfl : fn' = fn := Option.some.inj (hfn'.symm.trans hfn)
  obtain ⟨⟨⟨ds, gs, before, hw, hc⟩, hx⟩, hz⟩ := hpre
  have hw' := DataW.Whole.of_heap (w' := w.forCall tape i) (by rfl) hw
  refine (contract (w.forCall tape i) w.heap.size i.args ds gs before hsh hval hw' hc (hz.weights hw) (hX _ _ _ (by rfl) hx) hholds).mono fun e W' ⟨v, he, hp⟩ => ?_
  subst he
  exact ChangeSpec.post_blind hp
end Go.Kz

/-
  Functions that only read through pointers to boxes: they stand in the table for every store, with the boxes' cells handed in as data.
-/
namespace Go.Kz

mutual
/-- Numbers, truth values, texts, and parts of these. -/
def PD.flat : PD → Bool
  | .bool _ | .int _ _ | .str _ | .nilptr | .nilfunc | .opq _ => true
  | .agg cs => PD.flatL cs
  | .tup cs => PD.flatL cs
  | _ => false
def PD.flatL : List PD → Bool
  | [] => true
  | x :: xs => x.flat && PD.flatL xs
end
theorem PD.flatL_all : ∀ xs : List PD, PD.flatL xs = xs.all PD.flat
  | [] => by simp [PD.flatL]
  | x :: xs => by simp [PD.flatL, PD.flatL_all xs]

theorem VR.flat {c c' : Cx} {v : Value} {p : PD} (hv : VR c v p) : p.flat = true → VR c' v p := by
  have at_ : ∀ {ds : List PD} {i : Nat} {d : PD}, PD.flatL ds = true → ds[i]? = some d → d.flat = true := by
    intro ds i d h hd
    rw [PD.flatL_all] at h
    exact List.all_eq_true.1 h d (List.mem_of_getElem? hd)
  induction hv with
  | bool b => intro _; exact .bool b
  | int k n => intro _; exact .int k n
  | str s => intro _; exact .str s
  | agg cs ds hl h1 _ ih =>
    intro hp
    simp only [PD.flat] at hp
    exact .agg cs ds hl h1 (fun i v d hv hd => ih i v d hv hd (at_ hp hd))
  | slice A n cap size xs tok fl' hn hc hm hx hf h1 hcl _ ht ih => intro hp; simp [PD.flat] at hp
  | ptr id off b hd hs hr => intro hp; simp [PD.flat] at hp
  | sref id off n cap size b hd hs hr h1 h2 => intro hp; simp [PD.flat] at hp
  | eptr ad fl' ds off hl h1 hcl _ ih => intro hp; simp [PD.flat] at hp
  | nilptr => intro _; exact .nilptr
  | func f cs ds hl _ ih => intro hp; simp [PD.flat] at hp
  | nilfunc => intro _; exact .nilfunc
  | opq v h => intro _; exact .opq v h
  | yield id l hd hn hr => intro hp; simp [PD.flat] at hp
  | tup cs ds hl _ ih =>
    intro hp
    simp only [PD.flat] at hp
    exact .tup cs ds hl (fun i v d hv hd => ih i v d hv hd (at_ hp hd))

/-- An argument, with the cells of the box that it points to. -/
def preadArg (σ : List SObj) : PD → Option PD
  | .ptr id off => match σ[id]? with
    | some (.box p) => some (.eptr (p.cells.map PD.strip) off)
    | _ => none
  | .sref id off n size => match prow σ (.sref id off n size) with
    | some xs => some (.slice 1 (xs.map PD.strip) .any)
    | none => none
  | p => some p.strip
def preadArgs (σ : List SObj) : List PD → Option (List PD)
  | [] => some []
  | p :: ps => match preadArg σ p, preadArgs σ ps with
    | some q, some qs => some (q :: qs)
    | _, _ => none

/-- The same world, the boxes' cells being there to be read. -/
def Cx.boxed (c : Cx) (a : Addr) : Prop := ∃ id p b, c.D id ∧ c.σ[id]? = some (.box p) ∧ c.ρ id = .pointer (some ⟨b, 0, none⟩) ∧ a.block = b
def Cx.open (c : Cx) : Cx := { w := c.w, ρ := fun _ => undef, σ := [], D := fun _ => False, X := fun a => c.av a ∨ c.boxed a }

theorem open_av {c : Cx} (a : Addr) : c.open.av a ↔ (c.av a ∨ c.boxed a) := ⟨fun h => h.1, fun h => ⟨h, fun _ _ hd => hd.elim⟩⟩

theorem Sr.open {c : Cx} (hs : Sr c) : Sr c.open where
  box := fun _ _ h => h.elim
  own := fun _ _ _ _ h => h.elim
  mark := fun _ h => h.elim
  loop := fun _ _ _ _ _ _ h => h.elim
  inj := fun _ _ _ h => h.elim
  lt := fun _ _ h => h.elim
  dom := fun _ h => h.elim
  fresh := fun _ h => .inl (av_fresh hs h)
  glob := ⟨fun g ds e => (hs.glob.1 g ds e).free (fun a v h1 h2 => ⟨(open_av a).2 (.inl h1), h2⟩) (by simpa [PD.idfree] using gcells_free e), fun g hh => ⟨(hs.glob.2 g hh).1, fun _ h => h.elim⟩⟩

theorem preadArg_ok {c : Cx} (hs : Sr c) {v : Value} {p q : PD} (hv : VR c v p) (h : preadArg c.σ p = some q) (hf : q.idfree = true) : VR c.open v q := by
  have up : ∀ a v, c.av a → c.w.cell? a = some v → c.open.av a ∧ c.open.w.cell? a = some v := fun a v h1 h2 => ⟨(open_av a).2 (.inl h1), h2⟩
  unfold preadArg at h
  split at h
  · rename_i id off
    split at h
    · rename_i p hb
      simp only [Option.some.injEq] at h
      subst h
      cases hv with
      | ptr id off b hd hq hr =>
        obtain ⟨b', cs, T, e1, e2, e3, e4, _⟩ := hs.box id p hd hb
        have hbb : b = b' := by
          rw [hr] at e1
          simpa using e1
        subst hbb
        have hadd : ∀ j, (⟨b, 0, none⟩ : Addr).add j = ⟨b, j, none⟩ := fun j => by unfold Addr.add; split <;> simp_all
        have e5 : VRs c.open cs.toList (p.cells.map PD.strip) := e3.strip.free up (by simpa [PD.idfree] using hf)
        have := VR.eptr (c := c.open) ⟨b, 0, none⟩ cs.toList (p.cells.map PD.strip) off e5.1 e4 (fun j v hj => by
          rw [hadd]
          refine ⟨?_, (open_av _).2 (.inr ⟨id, p, b, hd, hb, hr, rfl⟩)⟩
          show c.w.cell? ⟨b, j, none⟩ = some v
          simp only [World.cell?, e2]
          simpa using hj) e5.2
        rw [hadd] at this
        exact this
    · cases h
  · rename_i id off n size
    split at h
    · rename_i xs hxs
      simp only [Option.some.injEq] at h
      subst h
      simp only [prow] at hxs
      split at hxs
      · split at hxs
        · rename_i p hb
          split at hxs
          · rename_i hle
            simp only [Option.some.injEq] at hxs
            subst hxs
            obtain ⟨b, cap, rfl, hd, _, hr, h1, h2⟩ := hv.inv_sref
            obtain ⟨b', cs, T, e1, e2, e3, e4, _⟩ := hs.box id p hd hb
            have hbb : b = b' := by
              rw [hr] at e1
              simpa using e1
            subst hbb
            have hadd : ∀ j, (⟨b, off, none⟩ : Addr).add j = ⟨b, off + j, none⟩ := fun j => by unfold Addr.add; split <;> simp_all
            have hpl : ∀ d ∈ (p.cells.drop off).take n, d.plain = true := by
              intro d hd'
              obtain ⟨i, hi⟩ := List.getElem?_of_mem (List.mem_of_mem_drop (List.mem_of_mem_take hd'))
              have hlt : i < cs.toList.length := by rw [e3.1]; exact (List.getElem?_eq_some_iff.1 hi).1
              have := (e3.2 i cs.toList[i] d (by simp [hlt]) hi).plain
              rw [this]
              exact e4 _ (List.getElem_mem hlt)
            have hcl : ∀ d : PD, d.plain = true → d.strip.cells = [d.strip] := by
              intro d hd'
              cases d with
              | slice m xs tok => cases xs <;> rfl
              | agg _ => simp [PD.plain] at hd'
              | typed _ _ => simp [PD.plain] at hd'
              | tup _ => simp [PD.plain] at hd'
              | _ => rfl
            have hflat : ∀ l : List PD, (∀ d ∈ l, d.plain = true) → (l.map PD.strip).flatMap PD.cells = l.map PD.strip := by
              intro l
              induction l with
              | nil => intro _; rfl
              | cons d l ih =>
                intro hl
                rw [List.map_cons, List.flatMap_cons, hcl d (hl d (by simp)), ih fun x hx => hl x (by simp [hx])]
                rfl
            have hfr : PD.idfreeL (((p.cells.drop off).take n).map PD.strip) = true := by simpa [PD.idfree] using hf
            have e5 : VRs c.open ((cs.toList.drop off).take n) (((p.cells.drop off).take n).map PD.strip) := (e3.take_drop off n).strip.free up hfr
            have hlen : (((p.cells.drop off).take n).map PD.strip).length = n := by
              rw [List.length_map, List.length_take, List.length_drop]
              omega
            refine .slice (some ⟨b, off, none⟩) n cap 1 _ .any ((cs.toList.drop off).take n) hlen.symm h1 h2 ?_ (by have := e5.1; omega) (fun v hv => e4 v (List.mem_of_mem_drop (List.mem_of_mem_take hv))) ?_ ?_ trivial
            · intro x hx
              obtain ⟨d, hd', rfl⟩ := List.mem_map.1 hx
              rw [hcl d (hpl d hd')]
              rfl
            · intro j v hj
              refine ⟨_, rfl, ?_, ?_⟩
              · rw [hadd]
                show c.w.cell? ⟨b, off + j, none⟩ = some v
                simp only [World.cell?, e2]
                rw [List.getElem?_take] at hj
                split at hj
                · rw [List.getElem?_drop] at hj
                  simpa using hj
                · cases hj
              · rw [hadd]
                exact (open_av _).2 (.inr ⟨id, p, b, hd, hb, hr, rfl⟩)
            · intro j v d q1 q2
              rw [hflat _ hpl] at q2
              exact e5.2 j v d q1 q2
          · cases hxs
        · cases hxs
      · cases hxs
    · cases h
  · simp only [Option.some.injEq] at h
    subst h
    exact hv.strip.free up hf

theorem preadArgs_len {σ : List SObj} : ∀ {ps qs : List PD}, preadArgs σ ps = some qs → qs.length = ps.length
  | [], qs, h => by simp [preadArgs] at h; subst h; rfl
  | p :: ps, qs, h => by
    unfold preadArgs at h
    split at h
    · rename_i q qs' h1 h2
      simp only [Option.some.injEq] at h
      subst h
      simp [preadArgs_len h2]
    · cases h
theorem preadArgs_get {σ : List SObj} : ∀ {ps qs : List PD}, preadArgs σ ps = some qs → ∀ (i : Nat) (q : PD), qs[i]? = some q → ∃ p, ps[i]? = some p ∧ preadArg σ p = some q
  | [], qs, h, i, q, hq => by simp [preadArgs] at h; subst h; simp at hq
  | p :: ps, qs, h, i, q, hq => by
    unfold preadArgs at h
    split at h
    · rename_i q' qs' h1 h2
      simp only [Option.some.injEq] at h
      subst h
      cases i with
      | zero =>
        simp only [List.getElem?_cons_zero, Option.some.injEq] at hq
        subst hq
        exact ⟨p, rfl, h1⟩
      | succ i => exact preadArgs_get h2 i q (by simpa using hq)
    · cases h

theorem preadArgs_ok {c : Cx} (hs : Sr c) {vs : List Value} {ps qs : List PD} (hv : VRs c vs ps) (h : preadArgs c.σ ps = some qs) (hf : PD.idfreeL qs = true) : VRs c.open vs qs := by
  refine ⟨hv.1.trans (preadArgs_len h).symm, fun i v q h1 h2 => ?_⟩
  obtain ⟨p, e1, e2⟩ := preadArgs_get h i q h2
  rw [PD.idfreeL_all] at hf
  exact preadArg_ok hs (hv.2 i v p h1 e1) e2 (List.all_eq_true.1 hf q (List.mem_of_getElem? h2))

/-- A function that only reads, as an entry. -/
def rentry (g : List PD → Option PD) : Nat → List PD → List SObj → Option (PD × List SObj) := fun _ args σ => match preadArgs σ args with
  | some asg => match g asg with | some p => some (p, σ) | none => none
  | none => none

/-- **The table, one more that reads.** -/
theorem ExtOk.addRead {P : Program} {E : PExt} (hE : ExtOk P E) (hP : P.follows .mixedOrders = true) {f : FuncId} {g : List PD → Option PD}
    (h : ∀ args p, g args = some p → Run P E f args p ∧ PD.idfreeL args = true ∧ p.flat = true) : ExtOk P (E.add f (rentry g)) := by
  intro F fl f' g' args c vs p σ' hF hg hgo hs hX hv
  unfold PExt.add at hg
  split at hg
  · rename_i e
    subst e
    simp only [Option.some.injEq] at hg; subst hg
    unfold rentry at hgo
    split at hgo
    · rename_i asg has
      split at hgo
      · rename_i q hga
        simp only [Option.some.injEq, Prod.mk.injEq] at hgo
        obtain ⟨rfl, rfl⟩ := hgo
        obtain ⟨⟨p1, σ1, ⟨N, hN⟩, e1⟩, e2, e3⟩ := h asg q hga
        have hv0 : VRs c.open vs asg := preadArgs_ok hs hv has e2
        have := (pcall_ok hE hP hF N).fn (c := c.open) (hN N (Nat.le_refl _)) hs.open (fun _ _ h => h.elim) hv0
        refine ⟨this.1, fun m => CallsIn.mono (this.2 m) fun e w' he => ?_⟩
        cases e with
        | returned v =>
          obtain ⟨c1, rfl, rfl, hs1, nx, hvv, _⟩ := he
          have hgr : c.w.grownBy c1.w none := ⟨nx.os, nx.tape, nx.output, nx.size, fun k hk _ => nx.frame k hk (fun _ h => h.elim)⟩
          refine ⟨c.at c1.w, rfl, rfl, hs.grow hgr, Nx.grow hs hgr, ?_, fun _ h => .inl h⟩
          have hp := hvv.strip
          rw [e1] at hp
          exact hp.flat e3
        | panicked ch => exact he.elim
        | outgrown => exact he.elim
      · cases hgo
    · cases hgo
  · exact hE hF hg hgo hs hX hv

/-! ### functions that move the store on -/
/-- What the run of a function does, where it does what is said. -/
noncomputable def qentry (P : Program) (E : PExt) (f : FuncId) (Q : List PD → List SObj → PD → List SObj → Prop) : Nat → List PD → List SObj → Option (PD × List SObj) := by
  classical
  exact fun fl args σ => if h : ∃ r : PD × List SObj, EvC P E fl (.inl f) args σ r.1 r.2 ∧ Q args σ r.1 r.2 then some h.choose else none

theorem qentry_some {P : Program} {E : PExt} {f : FuncId} {Q : List PD → List SObj → PD → List SObj → Prop} {fl : Nat} {args : List PD} {σ σ' : List SObj} {p : PD} (h : qentry P E f Q fl args σ = some (p, σ')) : EvC P E fl (.inl f) args σ p σ' ∧ Q args σ p σ' := by
  unfold qentry at h
  split at h
  · rename_i hx
    have := hx.choose_spec
    simp only [Option.some.injEq] at h
    rw [h] at this
    exact this
  · cases h

theorem qentry_of {P : Program} {E : PExt} {f : FuncId} {Q : List PD → List SObj → PD → List SObj → Prop} {fl : Nat} {args : List PD} {σ : List SObj} (h : WpC P E fl (.inl f) args σ (Q args σ)) : ∃ p σ', qentry P E f Q fl args σ = some (p, σ') ∧ Q args σ p σ' := by
  obtain ⟨p, σ', h1, h2⟩ := h.ex
  have hx : ∃ r : PD × List SObj, EvC P E fl (.inl f) args σ r.1 r.2 ∧ Q args σ r.1 r.2 := ⟨(p, σ'), h1, h2⟩
  refine ⟨hx.choose.1, hx.choose.2, ?_, hx.choose_spec.2⟩
  unfold qentry
  rw [dif_pos hx]

theorem ExtOk.addQ {P : Program} {E : PExt} (hE : ExtOk P E) (hP : P.follows .mixedOrders = true) {f : FuncId} {Q : List PD → List SObj → PD → List SObj → Prop} : ExtOk P (E.add f (qentry P E f Q)) :=
  hE.add hP fun _ _ _ _ _ h => (qentry_some h).1

theorem preadArgs_nil : ∀ {ps qs : List PD}, preadArgs [] ps = some qs → ∀ σ, preadArgs σ ps = some qs
  | [], _, h, _ => h
  | p :: ps, qs, h, σ => by
    unfold preadArgs at h ⊢
    split at h
    · rename_i q qs' h1 h2
      simp only [Option.some.injEq] at h
      subst h
      have e : preadArg σ p = some q := by
        cases p with
        | ptr id off => simp [preadArg] at h1
        | sref id off n size => simp [preadArg, prow] at h1
        | _ => exact h1
      rw [e, preadArgs_nil h2 σ]
    · cases h
theorem Uni.rentry {E : PExt} (hU : Uni E) {f : FuncId} {g : List PD → Option PD} : Uni (E.add f (rentry g)) := by
  intro f' g' args p hf hg fl σ
  unfold PExt.add at hf
  split at hf
  · simp only [Option.some.injEq] at hf
    subst hf
    unfold Kz.rentry at hg ⊢
    split at hg
    · rename_i asg has
      rw [preadArgs_nil has σ]
      simp only
      split at hg
      · rename_i q hq
        simp only [Option.some.injEq, Prod.mk.injEq] at hg ⊢
        exact ⟨hg.1, trivial⟩
      · cases hg
    · cases hg
  · exact hU f' g' args p hf hg fl σ
theorem Uni.qentry {P : Program} {E : PExt} (hU : Uni E) {f : FuncId} {Q : List PD → List SObj → PD → List SObj → Prop} (hQ : ∀ args p, ¬ Q args [] p []) : Uni (E.add f (qentry P E f Q)) :=
  hU.other fun args p h => hQ args p (qentry_some h).2

end Go.Kz

/-
  A region that begins with a row of bytes, marked at once.
-/
namespace Go.Kz

def isU8 : TypeDesc → Bool
  | .int .u8 => true
  | _ => false
theorem isU8_is {u : TypeDesc} (h : isU8 u = true) : u = .int .u8 := by
  unfold isU8 at h
  split at h
  · rfl
  · cases h
def hasAt : List PD → Nat → Bool
  | [], _ => false
  | _ :: _, 0 => true
  | _ :: r, n + 1 => hasAt r n
theorem hasAt_lt : ∀ {fr : List PD} {d : Nat}, hasAt fr d = true → d < fr.length
  | [], _, h => by cases h
  | _ :: _, 0, _ => by simp
  | _ :: r, n + 1, h => by
    have := hasAt_lt (fr := r) (d := n) h
    simp only [List.length_cons]
    omega

theorem Wp.pairS {P : Program} {E : PExt} {rd : Option Nat} {fl : Nat} {fr : List PD} {ms : List Nat} {σ : List SObj} {Q : PO → Prop} {ops : Array Oper} {id d len n t e : Nat} {parts : Array (Nat × Operand)} {ty1 ty2 : TypeId} {pos1 pos2 : String} {ed1 ed2 : Array Edge}
    {d2 : Option Tmp} {rest : List Oper} {ps : List (Nat × PD)} {xs : List PD} {fr1 : List PD}
    (hops : ops.toList = ⟨some d, .buildSlice t len parts, ty1, pos1, ed1, none⟩ :: ⟨d2, .convert t t (.tmp d), ty2, pos2, ed2, none⟩ :: rest) (hu : P.underlying t = some (.slice e)) (he : P.underlying e = some (.int .u8)) (hd : d < fr.length)
    (hx : evalPartsO fr parts.toList = some ps) (hn : pnewSlice P t len (ps.map fun q => (q.1, q.2.strip)) = some (.slice n xs .full)) (hf : pput (fr.set d (.slice n xs .full)) d2 (.slice n xs .full) = fr1)
    (k : SQ P (pcallE E) fl ops rest fr1 σ (fun fr' σ' => Q ⟨.normal, fr', ms, σ'⟩)) : Wp P E rd (.region id ops false) fl fr ms σ Q := by
  obtain ⟨fr', σ', h1, h2⟩ := k.ex
  have hev := evalPartsO_ok hx
  refine ⟨_, .pair (N := 0) (fr1 := fr') (σ1 := σ') (fun m _ => ?_), h2⟩
  have e1 : pseq P (pcall P E m) fl ops ops.toList fr σ = none := by
    rw [hops]
    have s1 : pstep P (pcall P E m) fl fr σ (.buildSlice t len parts) = some (.slice n xs .full, σ) := by
      unfold pstep pop
      simp only [pcallee, pval, pmem, hev, hn]
    have s2 : pstep P (pcall P E m) fl (fr.set d (.slice n xs .full)) σ (.convert t t (.tmp d)) = none := by
      have : (fr.set d (.slice n xs .full)).getD d (.tup []) = .slice n xs .full := by simp [List.getD, hd]
      unfold pstep pop
      simp only [pcallee, pval, pmem, peval, this, pconv, pcopies, hu]
      split <;> rfl
    simp only [pseq, Region.wanted, if_true, s1, pput, s2]
  unfold pregion
  rw [e1]
  simp only
  rw [hops]
  simp only [ppairs, hu, he, hev, hn]
  rw [if_pos ⟨trivial, trivial, trivial, hd⟩, hf]
  exact pseq_up h1

/-- The same, for stepping. -/
theorem WL.pair {P : Program} {E : PExt} {rd : Option Nat} {fl : Nat} {fr : List PD} {ms : List Nat} {σ : List SObj} {Q : PO → Prop} {ops : Array Oper} {y : Code} {id d len n t e : Nat} {parts : Array (Nat × Operand)} {ty1 ty2 : TypeId} {pos1 pos2 : String} {ed1 ed2 : Array Edge}
    {d2 : Option Tmp} {rest : List Oper} {ps : List (Nat × PD)} {xs : List PD} {fr1 : List PD}
    (hops : ops.toList = ⟨some d, .buildSlice t len parts, ty1, pos1, ed1, none⟩ :: ⟨d2, .convert t t (.tmp d), ty2, pos2, ed2, none⟩ :: rest) (hu : By (P.underlying t = some (.slice e))) {u : TypeDesc} (he : By (P.underlying e = some u)) (hi : Wt (isU8 u = true)) (hd : Wt (hasAt fr d = true))
    (hx : evalPartsO fr parts.toList = some ps) (hn : By (pnewSlice P t len (ps.map fun q => (q.1, q.2.strip)) = some (.slice n xs .full))) (hf : Fr (pput (fr.set d (.slice n xs .full)) d2 (.slice n xs .full) = fr1))
    (k : SQ P (pcallE E) fl ops rest fr1 σ (fun fr' σ' => Wp P E rd y fl fr' ms σ' Q)) : Wp P E rd (.seq (.region id ops false) y) fl fr ms σ Q := by
  refine Wp.seq ?_
  exact Wp.pairS hops hu.h (he.h.trans (congrArg some (isU8_is hi.h))) (hasAt_lt hd.h) hx hn.h hf.h (by
    obtain ⟨a, b, h1, h2⟩ := k.ex
    exact ⟨a, b, h1, .normal h2⟩)
theorem WL.pair1 {P : Program} {E : PExt} {rd : Option Nat} {fl : Nat} {fr : List PD} {ms : List Nat} {σ : List SObj} {Q : PO → Prop} {ops : Array Oper} {id d len n t e : Nat} {parts : Array (Nat × Operand)} {ty1 ty2 : TypeId} {pos1 pos2 : String} {ed1 ed2 : Array Edge}
    {d2 : Option Tmp} {rest : List Oper} {ps : List (Nat × PD)} {xs : List PD} {fr1 : List PD}
    (hops : ops.toList = ⟨some d, .buildSlice t len parts, ty1, pos1, ed1, none⟩ :: ⟨d2, .convert t t (.tmp d), ty2, pos2, ed2, none⟩ :: rest) (hu : By (P.underlying t = some (.slice e))) {u : TypeDesc} (he : By (P.underlying e = some u)) (hi : Wt (isU8 u = true)) (hd : Wt (hasAt fr d = true))
    (hx : evalPartsO fr parts.toList = some ps) (hn : By (pnewSlice P t len (ps.map fun q => (q.1, q.2.strip)) = some (.slice n xs .full))) (hf : Fr (pput (fr.set d (.slice n xs .full)) d2 (.slice n xs .full) = fr1))
    (k : SQ P (pcallE E) fl ops rest fr1 σ (fun fr' σ' => Q ⟨.normal, fr', ms, σ'⟩)) : Wp P E rd (.region id ops false) fl fr ms σ Q :=
  Wp.pairS hops hu.h (he.h.trans (congrArg some (isU8_is hi.h))) (hasAt_lt hd.h) hx hn.h hf.h k
end Go.Kz

/-
  Steps through code, as far as they go by themselves: the rules are the default proof of a premise, the facts stand in a hypothesis 'gx'.
-/
namespace Go.Kz

/-- What is still to be shown behind the steps. -/
structure Hd (R : Prop) : Prop where
  out : R
theorem goA {R G : Prop} (r : R) (h : Hd R → G := by
    (intro hh
     (repeat (first
      | (refine Fr.i ?_; simp only [pput, List.set_cons_zero, List.set_cons_succ]; try rfl)
      | (refine By.i ?_; (focus (simp (disch := first | omega | (simp; done) | (simp; omega)) [wrap_i64, wrap_u64, gx, entry, gf0, gf1, gf2, gf3]; first | done | rfl | exact ⟨rfl, rfl⟩)))
      | (refine By.i ?_; simp (disch := first | omega | (simp; done) | (simp; omega)) [wrap_i64, wrap_u64, gx, entry, gf0, gf1, gf2, gf3]; refine ⟨(by (try simp only [List.length_append, List.length_cons, List.length_nil, maxLen]); omega), rfl⟩)
      | (refine Wt.i ?_; first | rfl | (focus (simp [gx, entry, gf0, gf1, gf2, gf3]; done)))
      | (refine Ns.i ?_; (try simp only [List.append_nil, List.nil_append, List.cons_append, List.append_assoc, List.length_append, List.length_cons, List.length_nil, Nat.zero_add, Nat.reduceAdd]); rfl) | rfl
      | (apply SL.pass; (focus (refine Wt.i ?_; rfl))) | (apply SL.appendT; (focus decide +kernel)) | (apply SL.convertR; (focus rfl)) | apply SL.move | apply SL.assign | apply SL.load | apply SL.isnilE | apply SL.isnilN | apply SL.make
      | apply SL.binOp | apply SL.append | apply SL.builtin | apply SL.fieldAddr | apply SL.indexAddr | apply SL.field | apply SL.extract | apply SL.fcall | apply SL.pick | apply SL.store | apply SL.unOp | apply SL.convert | apply SL.index
      | apply SL.slice | apply SL.build | apply SL.nilCheck | apply SL.buildSlice | apply SL.box | apply SL.alloc | apply SL.makeFunc | apply SQ.nil | (apply WL.reg; (focus decide +kernel))
      | (apply WL.drawP (by assumption); (focus decide +kernel); (focus decide +kernel)) | (apply WL.drawF; (focus decide +kernel); (focus decide +kernel)) | (apply WL.reg1; (focus decide +kernel))
      | (apply WL.drawP1 (by assumption); (focus decide +kernel); (focus decide +kernel)) | (apply WL.drawF1; (focus decide +kernel); (focus decide +kernel)) | (apply WL.drawM (by assumption); (focus decide +kernel); (focus decide +kernel))
      | (apply WL.drawM1 (by assumption); (focus decide +kernel); (focus decide +kernel)) | (apply WL.drawA (by assumption); (focus decide +kernel); (focus decide +kernel))
      | (apply WL.drawA1 (by assumption); (focus decide +kernel); (focus decide +kernel)) | apply WL.skip | (apply WL.ct; (focus rfl)) | (apply WL.cf; (focus rfl)) | refine SeqQ.normal ?_ | refine SeqQ.ret ?_ | refine SeqQ.exit ?_
      | refine BlockQ.normal ?_ | refine BlockQ.ret ?_ | refine BlockQ.here ?_ | refine BlockQ.there (by decide) ?_ | refine Wp.block ?_ | refine Wp.skip ?_ | refine Wp.ret ?_ | refine Wp.exit ?_ | refine LoopI.ret ?_ | refine LoopI.exit ?_
      | refine LoopQ.normal ?_ | refine LoopQ.ret ?_ | refine LoopQ.exit ?_ | refine Wp.seq (Wp.seq ?_) | refine Wp.seq (Wp.block ?_) | (refine Wp.seq ?_; apply WL.ct; (focus rfl)) | (refine Wp.seq ?_; apply WL.cf; (focus rfl))))
     exact hh.out)) : G := h ⟨r⟩
theorem goP {R G : Prop} (r : R) (h : Hd R → G := by
    (intro hh
     (repeat (first
      | (refine Fr.i ?_; simp only [pput, List.set_cons_zero, List.set_cons_succ]; try rfl)
      | (refine By.i ?_; (focus (simp (disch := first | omega | (simp; done) | (simp; omega)) [wrap_i64, wrap_u64, gx, entry, gf0, gf1, gf2, gf3]; first | done | rfl | exact ⟨rfl, rfl⟩)))
      | (refine By.i ?_; simp (disch := first | omega | (simp; done) | (simp; omega)) [wrap_i64, wrap_u64, gx, entry, gf0, gf1, gf2, gf3]; refine ⟨(by (try simp only [List.length_append, List.length_cons, List.length_nil, maxLen]); omega), rfl⟩)
      | (refine Wt.i ?_; first | rfl | (focus (simp [gx, entry, gf0, gf1, gf2, gf3]; done)))
      | (refine Ns.i ?_; (try simp only [List.append_nil, List.nil_append, List.cons_append, List.append_assoc, List.length_append, List.length_cons, List.length_nil, Nat.zero_add, Nat.reduceAdd]); rfl) | rfl
      | (apply SL.pass; (focus (refine Wt.i ?_; rfl))) | (apply SL.appendT; (focus decide +kernel)) | (apply SL.convertR; (focus rfl)) | apply SL.move | apply SL.assign | apply SL.load | apply SL.isnilE | apply SL.isnilN | apply SL.make
      | apply SL.binOp | apply SL.append | apply SL.builtin | apply SL.fieldAddr | apply SL.indexAddr | apply SL.field | apply SL.extract | apply SL.fcall | apply SL.pick | apply SL.store | apply SL.unOp | apply SL.convert | apply SL.index
      | apply SL.slice | apply SL.build | apply SL.nilCheck | apply SL.buildSlice | apply SL.box | apply SL.alloc | apply SL.makeFunc | apply SQ.nil | (apply WL.pair; (focus rfl)) | (apply WL.pair1; (focus rfl))
      | (apply WL.reg; (focus decide +kernel)) | (apply WL.drawF; (focus decide +kernel); (focus decide +kernel)) | (apply WL.drawP (by assumption); (focus decide +kernel); (focus decide +kernel)) | (apply WL.reg1; (focus decide +kernel))
      | (apply WL.drawF1; (focus decide +kernel); (focus decide +kernel)) | (apply WL.drawP1 (by assumption); (focus decide +kernel); (focus decide +kernel)) | (apply WL.drawM (by assumption); (focus decide +kernel); (focus decide +kernel))
      | (apply WL.drawM1 (by assumption); (focus decide +kernel); (focus decide +kernel)) | (apply WL.drawA (by assumption); (focus decide +kernel); (focus decide +kernel))
      | (apply WL.drawA1 (by assumption); (focus decide +kernel); (focus decide +kernel)) | apply WL.skip | (apply WL.ct; (focus rfl)) | (apply WL.cf; (focus rfl)) | refine SeqQ.normal ?_ | refine SeqQ.ret ?_ | refine SeqQ.exit ?_
      | refine BlockQ.normal ?_ | refine BlockQ.ret ?_ | refine BlockQ.here ?_ | refine BlockQ.there (by decide) ?_ | refine Wp.block ?_ | refine Wp.skip ?_ | refine Wp.ret ?_ | refine Wp.exit ?_ | refine LoopI.ret ?_ | refine LoopI.exit ?_
      | refine LoopQ.normal ?_ | refine LoopQ.ret ?_ | refine LoopQ.exit ?_ | refine Wp.seq (Wp.seq ?_) | refine Wp.seq (Wp.block ?_) | (refine Wp.seq ?_; apply WL.ct; (focus rfl)) | (refine Wp.seq ?_; apply WL.cf; (focus rfl))))
     exact hh.out)) : G := h ⟨r⟩
theorem goL {R G : Prop} (r : R) (h : Hd R → G := by
    (intro hh
     (repeat (first
      | (refine Fr.i ?_; simp only [pput, List.set_cons_zero, List.set_cons_succ]; try rfl)
      | (refine By.i ?_; (focus (simp (disch := first | omega | (simp; done) | (simp; omega)) [wrap_i64, wrap_u64, gx, entry, gf0, gf1, gf2, gf3]; first | done | rfl | exact ⟨rfl, rfl⟩)))
      | (refine By.i ?_; simp (disch := first | omega | (simp; done) | (simp; omega)) [wrap_i64, wrap_u64, gx, entry, gf0, gf1, gf2, gf3]; refine ⟨(by (try simp only [List.length_append, List.length_cons, List.length_nil, maxLen]); omega), rfl⟩)
      | (refine Wt.i ?_; first | rfl | (focus (simp [gx, entry, gf0, gf1, gf2, gf3]; done)))
      | (refine Ns.i ?_; (try simp only [List.append_nil, List.nil_append, List.cons_append, List.append_assoc, List.length_append, List.length_cons, List.length_nil, Nat.zero_add, Nat.reduceAdd]); rfl) | rfl
      | (apply SL.pass; (focus (refine Wt.i ?_; rfl))) | (apply SL.appendT; (focus decide +kernel)) | (apply SL.convertR; (focus rfl)) | apply SL.move | apply SL.assign | apply SL.load | apply SL.isnilE | apply SL.isnilN | apply SL.make
      | apply SL.binOp | apply SL.append | apply SL.builtin | apply SL.fieldAddr | apply SL.indexAddr | apply SL.field | apply SL.extract | apply SL.fcall | apply SL.pick | apply SL.store | apply SL.unOp | apply SL.convert | apply SL.index
      | apply SL.slice | apply SL.build | apply SL.nilCheck | apply SL.buildSlice | apply SL.box | apply SL.alloc | apply SL.makeFunc | apply SQ.nil | (apply WL.reg; (focus decide +kernel))
      | (apply WL.drawP (by assumption); (focus decide +kernel); (focus decide +kernel)) | (apply WL.drawF; (focus decide +kernel); (focus decide +kernel)) | (apply WL.reg1; (focus decide +kernel))
      | (apply WL.drawP1 (by assumption); (focus decide +kernel); (focus decide +kernel)) | (apply WL.drawF1; (focus decide +kernel); (focus decide +kernel)) | (apply WL.drawM (by assumption); (focus decide +kernel); (focus decide +kernel))
      | (apply WL.drawM1 (by assumption); (focus decide +kernel); (focus decide +kernel)) | (apply WL.drawA (by assumption); (focus decide +kernel); (focus decide +kernel))
      | (apply WL.drawA1 (by assumption); (focus decide +kernel); (focus decide +kernel)) | apply WL.skip | (apply WL.ct; (focus rfl)) | (apply WL.cf; (focus rfl)) | refine SeqQ.normal ?_ | refine SeqQ.ret ?_ | refine SeqQ.exit ?_
      | refine BlockQ.normal ?_ | refine BlockQ.ret ?_ | refine BlockQ.here ?_ | refine BlockQ.there (by decide) ?_ | refine Wp.block ?_ | refine Wp.skip ?_ | refine Wp.ret ?_ | refine Wp.exit ?_ | refine LoopI.ret ?_ | refine LoopI.exit ?_
      | refine LoopQ.normal ?_ | refine LoopQ.ret ?_ | refine LoopQ.exit ?_ | refine Wp.seq (Wp.seq ?_) | refine Wp.seq (Wp.block ?_) | (refine Wp.seq ?_; apply WL.ct; (focus rfl)) | (refine Wp.seq ?_; apply WL.cf; (focus rfl))
      | refine Wp.seq (Wp.loop ?_) | refine Wp.loop ?_))
     exact hh.out)) : G := h ⟨r⟩
end Go.Kz

/-
  Functions that ask whether a slice is nil: as entries of the table.
-/
namespace Go.Kz

/-- A function in the table for every store, where what it is handed may be told apart further. -/
theorem ExtOk.addCases {P : Program} {E : PExt} (hE : ExtOk P E) (hP : P.follows .mixedOrders = true) {f : FuncId} {g : List PD → Option PD}
    (h : ∀ args p, g args = some p → PD.idfreeL (args.map PD.strip) = true ∧ p.idfree = true ∧ ∀ (c : Cx) (vs : List Value), VRs c vs (args.map PD.strip) → ∃ args1, VRs c vs args1 ∧ Run P E f args1 p) :
    ExtOk P (E.add f (fun _ args σ => match g args with | some p => some (p, σ) | none => none)) := by
  intro F fl f' g' args c vs p σ' hF hg hgo hs hX hv
  unfold PExt.add at hg
  split at hg
  · rename_i e
    subst e
    simp only [Option.some.injEq] at hg; subst hg
    cases hga : g args with
    | none => simp only [hga] at hgo; cases hgo
    | some q =>
      simp only [hga, Option.some.injEq, Prod.mk.injEq] at hgo
      obtain ⟨rfl, rfl⟩ := hgo
      obtain ⟨e2, e3, hx⟩ := h args q hga
      have hv0 : VRs c.bare vs (args.map PD.strip) := hv.strip.free (fun a v h1 h2 => ⟨(bare_av a).2 h1, h2⟩) e2
      obtain ⟨args1, hv1, p1, σ1, ⟨N, hN⟩, e1⟩ := hx c.bare vs hv0
      have := (pcall_ok hE hP hF N).fn (c := c.bare) (hN N (Nat.le_refl _)) hs.bare (fun _ _ h => h.elim) hv1
      refine ⟨this.1, fun m => CallsIn.mono (this.2 m) fun e w' he => ?_⟩
      cases e with
      | returned v =>
        obtain ⟨c1, rfl, rfl, hs1, nx, hvv, _⟩ := he
        have hgr : c.w.grownBy c1.w none := ⟨nx.os, nx.tape, nx.output, nx.size, fun k hk _ => nx.frame k hk (fun _ h => h.elim)⟩
        refine ⟨c.at c1.w, rfl, rfl, hs.grow hgr, Nx.grow hs hgr, ?_, fun _ h => .inl h⟩
        have hp := hvv.strip
        rw [e1] at hp
        have hav : ∀ a, c1.av a → (c.at c1.w).av a := fun a h1 => by
          have h3 : c1.X a := h1.1
          rw [nx.X] at h3
          exact h3
        exact VR.free (c := c1) (c' := c.at c1.w) (fun a _ h1 h2 => ⟨hav a h1, h2⟩) hp e3
      | panicked ch => exact he.elim
      | outgrown => exact he.elim
  · exact hE hF hg hgo hs hX hv

/-- An empty row is nil, or it is not. -/
theorem nil_or {c : Cx} {vs : List Value} {n : Nat} (h : VRs c vs [.slice n [] .any]) : VRs c vs [.slice n [] .nul] ∨ VRs c vs [.slice n [] .non] := by
  obtain ⟨h1, h2⟩ := h
  match vs, h1 with
  | [v], _ =>
    have hv := h2 0 v _ rfl rfl
    obtain ⟨A, cap, fl, rfl, a1, a2, a3, a4, a5, a6, a7, a8⟩ := hv.inv_slice
    have one : ∀ d, VR c (.slice A ([] : List PD).length cap) d → VRs c [.slice A ([] : List PD).length cap] [d] := fun d hd => ⟨rfl, fun i v d' e1 e2 => by
      cases i with
      | zero => simp at e1 e2; subst e1 e2; exact hd
      | succ i => simp at e1⟩
    cases A with
    | none => exact .inl (one _ (.slice none _ cap n [] .nul fl rfl a1 a2 a3 a4 a5 a6 a7 ⟨_, _, rfl⟩))
    | some a => exact .inr (one _ (.slice (some a) _ cap n [] .non fl rfl a1 a2 a3 a4 a5 a6 a7 ⟨_, _, _, rfl⟩))
end Go.Kz

/-
  Drawn regions with calls that write boxes, loose of loads of other boxes.
-/
namespace Go.Kz
open Go

section
variable {P : Program} {call : PCall} {fl : Nat} {ops : Array Oper}
theorem feet_okL : ∀ (l : List Oper) (i k : Nat) (fr : List PD) (σ : List SObj) (tr : List TE) (fr' : List PD) (σ' : List SObj) (ρ : BEnv),
    pdrawL P call fl ops i k l fr σ = some (tr, fr', σ') → ρ.ok fr → ∀ j a b, (tr[j]?).bind TE.foot = some a → (feetL ρ l).getD j none = some b → a = b
  | [], _, _, _, _, _, _, _, _, _, _, _, _, _, _, h2 => by simp [feetL] at h2
  | o :: l, i, k, fr, σ, tr, fr', σ', ρ, h, hρ, j, a, b, h1, h2 => by
    simp only [pdrawL] at h
    split at h
    · split at h
      · rename_i p σ1 hop
        split at h
        · rename_i tr1 fr1 σ2 hrec
          simp only [Option.some.injEq, Prod.mk.injEq] at h
          obtain ⟨rfl, rfl, rfl⟩ := h
          cases j with
          | zero =>
            simp only [List.getElem?_cons_zero, Option.bind_some] at h1
            simp only [feetL, List.getD_cons_zero] at h2
            exact BEnv.foot_ok hρ h1 h2
          | succ j =>
            simp only [List.getElem?_cons_succ] at h1
            simp only [feetL, List.getD_cons_succ] at h2
            refine feet_okL l _ _ _ _ _ _ _ _ hrec (BEnv.next_ok hρ ?_) j a b h1 h2
            intro u ho id off hp
            unfold psrc at ho
            split at ho
            · rename_i s u' f hop'
              simp only [Option.some.injEq] at ho
              subst ho
              rw [hop'] at hop
              simp only [pdop, shapeA, if_true, pval, peval] at hop
              split at hop
              · rename_i p' hp'
                simp only [Option.some.injEq, Prod.mk.injEq] at hop
                obtain ⟨rfl, rfl⟩ := hop
                rw [hp] at hp'
                exact pfieldAddr_ptr hp'
              · cases hop
            · rename_i u' hop'
              simp only [Option.some.injEq] at ho
              subst ho
              rw [hop'] at hop
              simp only [pdop, shapeA, if_true, pval, peval] at hop
              split at hop
              · rename_i p' hp'
                simp only [Option.some.injEq, Prod.mk.injEq] at hop
                obtain ⟨rfl, rfl⟩ := hop
                rw [hp] at hp'
                split at hp'
                · rename_i id' off' e
                  simp only [Option.some.injEq, PD.ptr.injEq] at e hp'
                  obtain ⟨rfl, rfl⟩ := hp'
                  exact ⟨_, e⟩
                · simp at hp'
                · cases hp'
              · cases hop
            · rename_i u' hop'
              simp only [Option.some.injEq] at ho
              subst ho
              rw [hop'] at hop
              simp only [pdop, shapeA, if_true, pval, peval, Option.some.injEq, Prod.mk.injEq] at hop
              exact ⟨off, by rw [hop.1, hp]⟩
            · cases ho
        · cases h
      · cases h
    · split at h
      · rename_i tr1 fr1 σ2 hrec
        simp only [Option.some.injEq, Prod.mk.injEq] at h
        obtain ⟨rfl, rfl, rfl⟩ := h
        cases j with
        | zero => simp at h1
        | succ j =>
          simp only [List.getElem?_cons_succ] at h1
          simp only [feetL, List.getD_cons_succ] at h2
          exact feet_okL l _ _ _ _ _ _ _ _ hrec (BEnv.next_ok hρ fun _ _ _ _ hp => by cases hp) j a b h1 h2
      · cases h

end

open Classical in
/-- Calls that keep the boxes of a list. -/
noncomputable def pcallK (E : PExt) (B : List Nat) : PCall := fun fl tg args σ => match pcallE E fl tg args σ with
  | some (p, σ') => if σ.length ≤ σ'.length ∧ (∀ id ∈ B, id < σ.length → σ'[id]? = σ[id]?) then some (p, σ') else none
  | none => none
theorem pcallK_of {E : PExt} {B : List Nat} {fl f : Nat} {g : Nat → List PD → List SObj → Option (PD × List SObj)} {args : List PD} {σ σ' : List SObj} {p : PD} (hE : E f = some g) (h : g fl args σ = some (p, σ')) (hl : σ.length ≤ σ'.length) (hk : ∀ id ∈ B, id < σ.length → σ'[id]? = σ[id]?) :
    pcallK E B fl (.inl f) args σ = some (p, σ') := by
  have e : pcallE E fl (.inl f) args σ = some (p, σ') := by simp only [pcallE, hE, h]
  unfold pcallK
  rw [e]
  simp only
  rw [if_pos ⟨hl, hk⟩]
theorem pcallK_spec {E : PExt} {B : List Nat} {fl : Nat} {tg : FuncId ⊕ Nat} {args : List PD} {σ σ' : List SObj} {p : PD} (h : pcallK E B fl tg args σ = some (p, σ')) : pcallE E fl tg args σ = some (p, σ') ∧ σ.length ≤ σ'.length ∧ ∀ id ∈ B, id < σ.length → σ'[id]? = σ[id]? := by
  unfold pcallK at h
  split at h
  · rename_i p1 σ1 e
    split at h
    · rename_i hc
      simp only [Option.some.injEq, Prod.mk.injEq] at h
      obtain ⟨rfl, rfl⟩ := h
      exact ⟨e, hc⟩
    · cases h
  · cases h

/-- No variables of its own; what moves the store on is a call of a function. -/
def keepShape (ops : List Oper) : Bool := ops.all fun o => !shapeAlloc o.op && (!shapeMove o.op || (match o.op with
  | .call { callee := .value _, .. } => true
  | _ => false))

section
variable {P : Program} {E : PExt} {fl : Nat} {ops : Array Oper}

theorem TE.at_zero {t : TE} {tr : List TE} {σf : List SObj} : TE.at (t :: tr) σf 0 = t.σ := rfl
theorem TE.at_succ {t : TE} {tr : List TE} {σf : List SObj} {j : Nat} : TE.at (t :: tr) σf (j + 1) = TE.at tr σf j := by simp [TE.at]
theorem TE.at_head {tr : List TE} {σ : List SObj} {fr fr' : List PD} {σ' : List SObj} {call : PCall} {i k : Nat} {l : List Oper} (h : pdrawL P call fl ops i k l fr σ = some (tr, fr', σ')) : TE.at tr σ' 0 = σ := by
  cases l with
  | nil =>
    simp only [pdrawL, Option.some.injEq, Prod.mk.injEq] at h
    obtain ⟨rfl, _, rfl⟩ := h
    rfl
  | cons o l =>
    simp only [pdrawL] at h
    split at h
    · split at h
      · split at h
        · simp only [Option.some.injEq, Prod.mk.injEq] at h
          obtain ⟨rfl, _, _⟩ := h
          rfl
        · cases h
      · cases h
    · split at h
      · simp only [Option.some.injEq, Prod.mk.injEq] at h
        obtain ⟨rfl, _, _⟩ := h
        rfl
      · cases h

theorem pdrawL_of {B : List Nat} {n : Nat} : ∀ (l : List Oper) (i k : Nat) (fr : List PD) (σ : List SObj) (x : List PD × List SObj), (∀ o ∈ l, (shapeA o.op || shapeLoad o.op || shapeAlloc o.op || shapeSlice o.op || shapeW o.op) = true) → keepShape l = true →
    pseq P (pcallK E B) fl ops l fr σ = some x → ∃ tr, pdrawL P (pcall P E n) fl ops i k l fr σ = some (tr, x.1, x.2) ∧
      ∀ (j : Nat) (o : Oper), l[j]? = some o → shapeMove o.op = true → (TE.at tr x.2 j).length ≤ (TE.at tr x.2 (j + 1)).length ∧ ∀ id ∈ B, id < (TE.at tr x.2 j).length → (TE.at tr x.2 (j + 1))[id]? = (TE.at tr x.2 j)[id]?
  | [], _, _, _, _, x, _, _, h => by
    simp only [pseq, Option.some.injEq] at h
    subst h
    exact ⟨[], rfl, fun j o h => by simp at h⟩
  | o :: l, i, k, fr, σ, x, hsh, hk, h => by
    simp only [keepShape, List.all_cons, Bool.and_eq_true, Bool.not_eq_true'] at hk
    obtain ⟨⟨hka, hkm⟩, hkl⟩ := hk
    simp only [pseq] at h
    split at h
    · rename_i hw
      split at h
      · rename_i p σ1 hp
        obtain ⟨tr, h1, h2⟩ := pdrawL_of (n := n) l (i + 1) k _ _ x (fun o ho => hsh o (by simp [ho])) hkl h
        have hst : pstep P (pcall P E n) fl fr σ o.op = some (p, σ1) ∧ (shapeMove o.op = true → σ.length ≤ σ1.length ∧ ∀ id ∈ B, id < σ.length → σ1[id]? = σ[id]?) := by
          unfold pstep at hp ⊢
          split at hp
          · rename_i tg args hc
            obtain ⟨q1, q2, q3⟩ := pcallK_spec hp
            exact ⟨pcallE_up q1, fun _ => ⟨q2, q3⟩⟩
          · rename_i hc
            refine ⟨hp, fun hm => ?_⟩
            rw [hm] at hkm
            simp only [Bool.not_true, Bool.false_or] at hkm
            exfalso
            split at hkm
            · rename_i g args ts hop
              unfold pop at hp
              rw [hop] at hp
              simp [pval, pmem] at hp
            · cases hkm
        refine ⟨⟨fr, σ, p, pfoot fr o.op⟩ :: tr, ?_, ?_⟩
        · simp only [pdrawL, hw, if_true, hka, Bool.false_eq_true, if_false]
          rw [pdop_pstep (hsh o (by simp)) hka]
          simp only [Bool.or_true, hst.1, h1]
        · intro j o' ho' hm
          cases j with
          | zero =>
            simp only [List.getElem?_cons_zero, Option.some.injEq] at ho'
            subst ho'
            rw [TE.at_succ, TE.at_zero, TE.at_head h1]
            exact hst.2 hm
          | succ j =>
            rw [TE.at_succ, TE.at_succ]
            exact h2 j o' (by simpa using ho') hm
      · cases h
    · rename_i hw
      obtain ⟨tr, h1, h2⟩ := pdrawL_of (n := n) l (i + 1) k _ _ x (fun o ho => hsh o (by simp [ho])) hkl h
      refine ⟨⟨fr, σ, .tup [], none⟩ :: tr, ?_, ?_⟩
      · simp only [pdrawL, hw, Bool.false_eq_true, if_false, hka, h1]
      · intro j o' ho' hm
        cases j with
        | zero =>
          rw [TE.at_succ, TE.at_zero, TE.at_head h1]
          exact ⟨Nat.le_refl _, fun _ _ _ => rfl⟩
        | succ j =>
          rw [TE.at_succ, TE.at_succ]
          exact h2 j o' (by simpa using ho') hm

theorem phoist_none : ∀ {l : List Oper}, keepShape l = true → phoist P l = some []
  | [], _ => rfl
  | o :: l, h => by
    simp only [keepShape, List.all_cons, Bool.and_eq_true, Bool.not_eq_true'] at h
    obtain ⟨⟨ha, _⟩, hl⟩ := h
    unfold phoist
    split
    · rename_i t ho
      rw [ho] at ha
      cases ha
    · exact phoist_none hl

/-- The loads that stand loose of a call: their boxes. -/
def looseLoads (ops : List Oper) (ρ : BEnv) : List (Option Nat) := masksK ops [] fun ms =>
  (List.range ops.length).flatMap fun k => if isAt shapeMove ops k then (List.range ops.length).filterMap fun i => if isAt shapeLoad ops i && loose ms i k then some ((feetL ρ ops).getD i none) else none else []
def allIn (B : List Nat) : List (Option Nat) → Prop
  | [] => True
  | some a :: l => a ∈ B ∧ allIn B l
  | none :: _ => False
theorem allIn_mem {B : List Nat} : ∀ {l : List (Option Nat)}, allIn B l → ∀ x, x ∈ l → ∃ a, x = some a ∧ a ∈ B
  | [], _, _, h => by cases h
  | some a :: l, h, x, hm => by
    rcases List.mem_cons.1 hm with rfl | hm
    · exact ⟨a, rfl, h.1⟩
    · exact allIn_mem h.2 x hm
  | none :: _, h, _, _ => h.elim
/-- No store stands loose of a load. -/
def noStores (ops : List Oper) : Bool := ops.all fun o => !shapeStore o.op

def isAtO (f : Oper → Bool) (ops : List Oper) (i : Nat) : Bool := ((ops[i]?).map f).getD false
/-- A call of the function, in any case made. -/
def callOf (f : Nat) (o : Oper) : Bool := o.guard.isNone && (match o.op with
  | .call { callee := .value (.func g), .. } => decide (g = f)
  | _ => false)
/-- The first that moves the store on is a call of the function, loose of a load. -/
def callsFirst (f : Nat) (ops : Array Oper) : Bool := masksK ops.toList [] fun ms =>
  (List.range ops.size).any fun k => isAtO (callOf f) ops.toList k && !noLoose ops.toList ms k && (List.range k).all fun j => !isAt shapeMove ops.toList j

theorem drawOps_none {n f : Nat} {g : Nat → List PD → List SObj → Option (PD × List SObj)} (hE : E f = some g) (hg : ∀ fl args σ, 0 < fl → g fl args σ = none) {ms : List Nat} (hsh : ∀ o ∈ ops.toList, (shapeA o.op || shapeLoad o.op || shapeAlloc o.op || shapeSlice o.op || shapeW o.op) = true ∧ shapeStore o.op = false) :
    ∀ (d i k : Nat) (l : List Oper) (fr : List PD) (σ : List SObj) (o : Oper), ops.toList.drop i = l → σ ≠ [] → l[d]? = some o → callOf f o = true → noLoose ops.toList ms (i + d) = false → (∀ j o', j < d → l[j]? = some o' → shapeMove o'.op = false) →
      pdrawOps P (pcall P E n) fl ops ms i k l fr σ = none
  | 0, i, k, l, fr, σ, o, hl, hσ, ho, hc, hn, _ => by
    cases l with
    | nil => simp at ho
    | cons o' l =>
      simp only [List.getElem?_cons_zero, Option.some.injEq] at ho
      subst ho
      rw [Nat.add_zero] at hn
      simp only [callOf, Bool.and_eq_true] at hc
      obtain ⟨hgd, hc⟩ := hc
      obtain ⟨dst, op, ty, pos, edges, guard⟩ := o'
      simp only at hc hgd
      split at hc
      · rename_i g' args ts hop
        simp only [decide_eq_true_eq] at hc
        subst hc
        have hgn : guard = none := by cases guard <;> simp_all
        subst hgn
        have hp : pstep P (pcall P E n) (max fl σ.length) fr σ (.call { callee := .value (.func g'), args := args, argTypes := ts }) = none := by
          have hpos : 0 < max fl σ.length := by
            have : 0 < σ.length := List.length_pos_iff.2 hσ
            omega
          unfold pstep
          cases ha : pevals fr args.toList with
          | none =>
            have : pcallee fr (.call { callee := .value (.func g'), args := args, argTypes := ts }) = none := by simp [pcallee, peval, ha]
            rw [this]
            simp [pop, pval, pmem]
          | some ps =>
            have : pcallee fr (.call { callee := .value (.func g'), args := args, argTypes := ts }) = some (.inl g', ps ++ []) := by simp [pcallee, peval, ha]
            rw [this]
            simp only [pcall, pcallBy, hE, hg _ _ _ hpos]
        simp only [pdrawOps, Region.wanted, if_true, hn]
        unfold pdop
        simp only [shapeA, shapeAlloc, shapeMove, Bool.false_eq_true, if_false, Bool.not_false, Bool.and_self, if_true, hp]
      · cases hc
  | d + 1, i, k, l, fr, σ, o, hl, hσ, ho, hc, hn, hm => by
    cases l with
    | nil => simp at ho
    | cons o' l =>
      have hmem : o' ∈ ops.toList := by
        have : o' ∈ ops.toList.drop i := by rw [hl]; simp
        exact List.mem_of_mem_drop this
      obtain ⟨hs1, hs2⟩ := hsh o' hmem
      have hm0 := hm 0 o' (by omega) (by simp)
      have hl' : ops.toList.drop (i + 1) = l := by rw [← List.drop_drop, hl]; rfl
      have hrec := fun k fr => drawOps_none (n := n) hE hg hsh d (i + 1) k l fr σ o hl' hσ (by simpa using ho) hc (by rw [show i + 1 + d = i + (d + 1) by omega]; exact hn) (fun j o'' hj h => hm (j + 1) o'' (by omega) (by simpa using h))
      simp only [pdrawOps]
      split
      · split
        · rename_i p σ1 hp
          obtain rfl := pdop_keep hs1 (by unfold shapeW; rw [hs2, hm0]; rfl) hp
          rw [hrec]
        · rfl
      · rw [hrec]

theorem pdrawX_keep {n f : Nat} {g : Nat → List PD → List SObj → Option (PD × List SObj)} (hE : E f = some g) (hg : ∀ fl args σ, 0 < fl → g fl args σ = none) {fr : List PD} {σ : List SObj} (hσ : σ ≠ []) {x : List PD × List SObj} (ρ : List (Nat × Nat)) (B : List Nat) {L : List (Option Nat)} (hs : (fastB ops && keepShape ops.toList && noStores ops.toList && callsFirst f ops) = true)
    (hρ : BEnv.at fr ρ) (hL : looseLoads ops.toList (BEnv.of ρ) = L) (hB : allIn B L) (h : pseq P (pcallK E B) fl ops ops.toList fr σ = some x) : pdrawX P (pcall P E n) fl ops fr σ = some x := by
  simp only [Bool.and_eq_true, fastB] at hs
  obtain ⟨⟨⟨h1, h2⟩, h3⟩, h4⟩ := hs
  rw [masksK_eq] at h1
  have hr := regOk_spec h1
  obtain ⟨tr, e1, e2⟩ := pdrawL_of (n := n) ops.toList 0 σ.length fr σ x (fun o ho => by
    obtain ⟨i, hi⟩ := List.getElem?_of_mem ho
    exact hr.shape i o (by simpa using hi)) h2 h
  have hft := feet_okL _ _ _ _ _ _ _ _ _ e1 (BEnv.of_ok ρ hρ)
  unfold pdrawX
  cases hd : pdraw P (pcall P E n) fl ops fr σ with
  | some y =>
    exfalso
    unfold pdraw at hd
    simp only [h1, if_true, phoist_none h2, List.append_nil] at hd
    rw [callsFirst, masksK_eq] at h4
    simp only [List.any_eq_true, List.mem_range, Bool.and_eq_true, Bool.not_eq_true', List.all_eq_true] at h4
    obtain ⟨k, hk, ⟨a1, a2⟩, a3⟩ := h4
    have hno : pdrawOps P (pcall P E n) fl ops (masks ops.toList []) 0 σ.length ops.toList fr σ = none := by
      have hkl : k < ops.toList.length := by simpa using hk
      refine drawOps_none hE hg (fun o ho => ?_) k 0 _ _ _ _ ops.toList[k] (by simp) hσ (List.getElem?_eq_getElem hkl) ?_ (by simpa using a2) ?_
      · obtain ⟨i, hi⟩ := List.getElem?_of_mem ho
        refine ⟨hr.shape i o (by simpa using hi), ?_⟩
        simp only [noStores, List.all_eq_true, Bool.not_eq_true'] at h3
        exact h3 o ho
      · unfold isAtO at a1
        rw [List.getElem?_eq_getElem hkl] at a1
        exact a1
      · intro j o' hj ho'
        have := a3 j hj
        unfold isAt at this
        rw [ho'] at this
        exact this
    rw [hno] at hd
    cases hd
  | none =>
    simp only [h1, if_true, phoist_none h2, List.append_nil, e1]
    rw [if_pos]
    refine ⟨?_, ?_⟩
    · simp only [footsOk, List.all_eq_true, List.mem_range]
      intro k hk
      have : isAt shapeStore ops.toList k = false := by
        simp only [noStores, List.all_eq_true, Bool.not_eq_true'] at h3
        have := h3 ops.toList[k] (List.getElem_mem hk)
        unfold isAt
        rw [List.getElem?_eq_getElem hk]
        exact this
      rw [this]
      simp
    · intro k i id ok oi hk hi hm hl hlo hid
      obtain ⟨q1, q2⟩ := e2 k ok hk hm
      refine ⟨q1, q2 id ?_⟩
      have hkl := (List.getElem?_eq_some_iff.1 hk).1
      have hil := (List.getElem?_eq_some_iff.1 hi).1
      have hmem : (feetL (BEnv.of ρ) ops.toList).getD i none ∈ L := by
        rw [← hL, looseLoads, masksK_eq]
        refine List.mem_flatMap.2 ⟨k, List.mem_range.2 hkl, ?_⟩
        have a1 : isAt shapeMove ops.toList k = true := by
          unfold isAt
          rw [hk]
          exact hm
        have a2 : isAt shapeLoad ops.toList i = true := by
          unfold isAt
          rw [hi]
          exact hl
        rw [if_pos a1]
        exact List.mem_filterMap.2 ⟨i, List.mem_range.2 hil, by rw [a2, hlo]; rfl⟩
      obtain ⟨a, ha, haB⟩ := allIn_mem hB _ hmem
      rw [hft i id a hid ha]
      exact haB
theorem Wp.drawK2 {rd : Option Nat} {ms : List Nat} {Q : PO → Prop} {id f : Nat} {y : Code} {g : Nat → List PD → List SObj → Option (PD × List SObj)} {fr : List PD} {σ : List SObj} (hE : E f = some g) (hg : ∀ fl args σ, 0 < fl → g fl args σ = none) (hσ : σ ≠ []) (ρ : List (Nat × Nat)) (B : List Nat) (L : List (Option Nat))
    (hs : (fastB ops && keepShape ops.toList && noStores ops.toList && callsFirst f ops) = true) (hρ : BEnv.at fr ρ) (hL : looseLoads ops.toList (BEnv.of ρ) = L) (hB : allIn B L) (h : SQ P (pcallK E B) fl ops ops.toList fr σ (fun fr' σ' => Wp P E rd y fl fr' ms σ' Q)) :
    Wp P E rd (.seq (.region id ops true) y) fl fr ms σ Q := by
  obtain ⟨fr', σ', h1, h2⟩ := h.ex
  exact .seq ⟨_, .drawX (N := 0) (fun n _ => pdrawX_keep hE hg hσ ρ B hs hρ hL hB h1), .normal h2⟩
end

/-! ### entries that answer nothing where part of the store is not to be written -/
/-- As qentry, where all of the store may be written. -/
noncomputable def qentry0 (P : Program) (E : PExt) (f : FuncId) (Q : List PD → List SObj → PD → List SObj → Prop) : Nat → List PD → List SObj → Option (PD × List SObj) := fun fl args σ => if fl = 0 then qentry P E f Q 0 args σ else none
theorem qentry0_pos {P : Program} {E : PExt} {f : FuncId} {Q : List PD → List SObj → PD → List SObj → Prop} : ∀ fl args σ, 0 < fl → qentry0 P E f Q fl args σ = none := fun fl args σ h => by
  unfold qentry0
  rw [if_neg (by omega)]
theorem qentry0_of {P : Program} {E : PExt} {f : FuncId} {Q : List PD → List SObj → PD → List SObj → Prop} {args : List PD} {σ : List SObj} (h : WpC P E 0 (.inl f) args σ (Q args σ)) : ∃ p σ', qentry0 P E f Q 0 args σ = some (p, σ') ∧ Q args σ p σ' := by
  unfold qentry0
  rw [if_pos rfl]
  exact qentry_of h
theorem ExtOk.addQ0 {P : Program} {E : PExt} (hE : ExtOk P E) (hP : P.follows .mixedOrders = true) {f : FuncId} {Q : List PD → List SObj → PD → List SObj → Prop} : ExtOk P (E.add f (qentry0 P E f Q)) :=
  hE.add hP fun fl args σ p σ' h => by
    unfold qentry0 at h
    split at h
    · rename_i e
      subst e
      exact (qentry_some h).1
    · cases h
theorem Uni.qentry0 {P : Program} {E : PExt} (hU : Uni E) {f : FuncId} {Q : List PD → List SObj → PD → List SObj → Prop} (hQ : ∀ args p, ¬ Q args [] p []) : Uni (E.add f (qentry0 P E f Q)) :=
  hU.other fun args p h => by
    unfold Kz.qentry0 at h
    rw [if_pos rfl] at h
    exact hQ args p (qentry_some h).2
end Go.Kz

/-
  Drawn regions whose loose calls are of functions that only read.
-/
namespace Go.Kz
open Go

open Classical in
/-- Calls, of which those of the list leave the store alone, whatever of it may be written. -/
noncomputable def pcallG (E : PExt) (S : List Nat) : PCall := fun fl tg args σ => match tg with
  | .inl f => if f ∈ S then (match pcallE E fl (.inl f) args σ with
    | some (p, σ') => if σ' = σ ∧ pcallE E (max fl σ.length) (.inl f) args σ = some (p, σ) then some (p, σ) else none
    | none => none) else pcallE E fl (.inl f) args σ
  | .inr i => pcallE E fl (.inr i) args σ
theorem pcallG_in {E : PExt} {S : List Nat} {fl f : Nat} {g : Nat → List PD → List SObj → Option (PD × List SObj)} {args : List PD} {σ : List SObj} {p : PD} (hE : E f = some g) (h : ∀ fl, g fl args σ = some (p, σ)) : pcallG E S fl (.inl f) args σ = some (p, σ) := by
  have e : ∀ fl, pcallE E fl (.inl f) args σ = some (p, σ) := fun fl => by simp only [pcallE, hE, h]
  unfold pcallG
  simp only [e]
  split
  · simp
  · rfl
theorem pcallG_out {E : PExt} {S : List Nat} {fl f : Nat} {g : Nat → List PD → List SObj → Option (PD × List SObj)} {args : List PD} {σ σ' : List SObj} {p : PD} (hE : E f = some g) (hf : f ∉ S) (h : g fl args σ = some (p, σ')) : pcallG E S fl (.inl f) args σ = some (p, σ') := by
  unfold pcallG
  simp only
  rw [if_neg hf]
  simp only [pcallE, hE, h]
theorem pcallG_E {E : PExt} {S : List Nat} {fl : Nat} {tg : FuncId ⊕ Nat} {args : List PD} {σ : List SObj} {x : PD × List SObj} (h : pcallG E S fl tg args σ = some x) : pcallE E fl tg args σ = some x := by
  unfold pcallG at h
  split at h
  · split at h
    · split at h
      · rename_i p σ' e
        split at h
        · rename_i hc
          simp only [Option.some.injEq] at h
          subst h
          rw [e, hc.1]
        · cases h
      · cases h
    · exact h
  · exact h
theorem pcallG_S {E : PExt} {S : List Nat} {fl f : Nat} {args : List PD} {σ σ' : List SObj} {p : PD} (hf : f ∈ S) (h : pcallG E S fl (.inl f) args σ = some (p, σ')) : σ' = σ ∧ pcallE E (max fl σ.length) (.inl f) args σ = some (p, σ) := by
  unfold pcallG at h
  simp only at h
  rw [if_pos hf] at h
  split at h
  · split at h
    · rename_i hc
      simp only [Option.some.injEq, Prod.mk.injEq] at h
      obtain ⟨rfl, rfl⟩ := h
      exact ⟨rfl, hc.2⟩
    · cases h
  · cases h

/-- A call of a function of the list. -/
def callIn (S : List Nat) : Op → Bool
  | .call { callee := .value (.func g), .. } => S.contains g
  | _ => false
/-- What moves the store on and is loose of a load is a call of a function of the list. -/
def looseIn (S : List Nat) (ops : Array Oper) : Bool := masksK ops.toList [] fun ms =>
  (List.range ops.size).all fun i => !isAt shapeMove ops.toList i || noLoose ops.toList ms i || isAt (callIn S) ops.toList i

section
variable {P : Program} {E : PExt} {fl : Nat} {fr : List PD} {σ : List SObj}

theorem pstep_GE {S : List Nat} {op : Op} {x : PD × List SObj} (h : pstep P (pcallG E S) fl fr σ op = some x) : pstep P (pcallE E) fl fr σ op = some x := by
  unfold pstep at *
  cases hc : pcallee fr op with
  | some q =>
    obtain ⟨tg, args⟩ := q
    simp only [hc] at h ⊢
    exact pcallG_E h
  | none =>
    simp only [hc] at h ⊢
    exact h
theorem pstep_GS {S : List Nat} {op : Op} {p : PD} {σ' : List SObj} (ho : callIn S op = true) (h : pstep P (pcallG E S) fl fr σ op = some (p, σ')) : σ' = σ ∧ pstep P (pcallE E) (max fl σ.length) fr σ op = some (p, σ) := by
  unfold callIn at ho
  split at ho
  · rename_i g args ts
    have hg : g ∈ S := by simpa using ho
    unfold pstep at h ⊢
    cases ha : pevals fr args.toList with
    | none =>
      have e : pcallee fr (.call { callee := .value (.func g), args := args, argTypes := ts }) = none := by simp [pcallee, peval, ha]
      rw [e] at h
      simp [pop, pval, pmem] at h
    | some ps =>
      have e : pcallee fr (.call { callee := .value (.func g), args := args, argTypes := ts }) = some (.inl g, ps ++ []) := by simp [pcallee, peval, ha]
      rw [e] at h ⊢
      exact pcallG_S hg h
  · cases ho

theorem pdseq_G {S : List Nat} {ops : Array Oper} : ∀ (l : List Oper) (i : Nat) (fr : List PD) (σ : List SObj) (x : List PD × List SObj), ops.toList.drop i = l → looseIn S ops = true →
    pseq P (pcallG E S) fl ops l fr σ = some x → pdseq P (pcallE E) fl ops (flags ops i l) fr σ = some x
  | [], _, _, _, _, _, _, h => h
  | o :: l, i, fr, σ, x, hd, hm, h => by
    have ho : ops.toList[i]? = some o := by
      have := congrArg List.head? hd
      rw [List.head?_drop] at this
      simpa using this
    have hd' : ops.toList.drop (i + 1) = l := by rw [← List.drop_drop, hd]; rfl
    have hi : i < ops.size := by
      have := (List.getElem?_eq_some_iff.1 ho).1
      simpa using this
    have hown : (shapeMove o.op = false ∨ freeAt ops i = true) ∨ callIn S o.op = true := by
      have hm' := hm
      rw [looseIn, masksK_eq] at hm'
      simp only [List.all_eq_true, List.mem_range, Bool.or_eq_true, Bool.not_eq_true'] at hm'
      have := hm' i hi
      rw [isAt, isAt, ho] at this
      simpa [freeAt] using this
    simp only [pseq] at h
    simp only [flags, pdseq]
    split at h
    · rename_i hw
      rw [if_pos hw]
      split at h
      · rename_i p σ1 hp
        cases hf : (!shapeMove o.op || freeAt ops i) with
        | true =>
          simp only [pstep_GE hp]
          exact pdseq_G l (i + 1) _ _ _ hd' hm h
        | false =>
          simp only [Bool.or_eq_false_iff, Bool.not_eq_false'] at hf
          obtain ⟨hf1, hf2⟩ := hf
          have hop : callIn S o.op = true := by
            rcases hown with (e | e) | e
            · rw [hf1] at e
              cases e
            · rw [hf2] at e
              cases e
            · exact e
          obtain ⟨e2, e1⟩ := pstep_GS hop hp
          subst e2
          simp only [e1, List.drop_length, List.append_nil]
          exact pdseq_G l (i + 1) _ _ _ hd' hm h
      · cases h
    · rename_i hw
      rw [if_neg hw]
      exact pdseq_G l (i + 1) _ _ _ hd' hm h
theorem Wp.drawG {rd : Option Nat} {ms : List Nat} {Q : PO → Prop} {ops : Array Oper} {id : Nat} {y : Code} (S : List Nat) (hs : (fastOk ops && looseIn S ops) = true) (h : SQ P (pcallG E S) fl ops ops.toList fr σ (fun fr' σ' => Wp P E rd y fl fr' ms σ' Q)) :
    Wp P E rd (.seq (.region id ops true) y) fl fr ms σ Q := by
  simp only [Bool.and_eq_true, fastOk_eq] at hs
  obtain ⟨fr', σ', h1, h2⟩ := h.ex
  exact .seq (.draw hs.1 (pdseq_G _ 0 _ _ _ (by simp) hs.2 h1) (.normal h2))
end
end Go.Kz
