/-
  The rules for operations, with their conditions marked by how they are shown.
-/
import Derived.Test.YtclleofcjnggaaaDoorKzZi
set_option linter.all false
namespace Go.Kz

/-- By simp. -/
structure By (p : Prop) : Prop where
  h : p
/-- A frame. -/
structure Fr (p : Prop) : Prop where
  h : p
/-- A guard. -/
structure Wt (p : Prop) : Prop where
  h : p
/-- A store. -/
structure Ns (p : Prop) : Prop where
  h : p
theorem By.i {p : Prop} (h : p) : By p := ⟨h⟩
theorem Fr.i {p : Prop} (h : p) : Fr p := ⟨h⟩
theorem Wt.i {p : Prop} (h : p) : Wt p := ⟨h⟩
theorem Ns.i {p : Prop} (h : p) : Ns p := ⟨h⟩

section
variable {P : Program} {E : PExt} {call : PCall} {rd : Option Nat} {fl : Nat} {fr fr1 : List PD} {ms : List Nat} {σ σ1 : List SObj} {Q : PO → Prop} {ops : Array Oper} {K : List PD → List SObj → Prop} {l : List Oper} {dst : Option Tmp}
  {ty : TypeId} {pos : String} {edges : Array Edge} {guard : Option (Nat × Bool)} {t : TypeId} {x y : Operand} {p q r : PD}

theorem SL.move (hw : Wt (Region.wanted ⟨dst, .move x, ty, pos, edges, guard⟩ (pyield ops fr) = true)) (hx : evalO fr x = some p) (hf : Fr (pput fr dst p = fr1)) (k : SQ P call fl ops l fr1 σ K) : SQ P call fl ops (⟨dst, .move x, ty, pos, edges, guard⟩ :: l) fr σ K := SQ.move hw.h hx hf.h k
theorem SL.assign (hw : Wt (Region.wanted ⟨dst, .assign x, ty, pos, edges, guard⟩ (pyield ops fr) = true)) (hx : evalO fr x = some p) (hf : Fr (pput fr dst p = fr1)) (k : SQ P call fl ops l fr1 σ K) : SQ P call fl ops (⟨dst, .assign x, ty, pos, edges, guard⟩ :: l) fr σ K := SQ.assign hw.h hx hf.h k
theorem SL.pick {c : Operand} {b : Bool} (hw : Wt (Region.wanted ⟨dst, .pick c x y, ty, pos, edges, guard⟩ (pyield ops fr) = true)) (hc : evalO fr c = some (.bool b)) (hx : cond b (evalO fr x) (evalO fr y) = some p) (hf : Fr (pput fr dst p = fr1)) (k : SQ P call fl ops l fr1 σ K) :
    SQ P call fl ops (⟨dst, .pick c x y, ty, pos, edges, guard⟩ :: l) fr σ K := SQ.pick hw.h hc hx hf.h k
theorem SL.binOp {op : BinOp} {u : TypeId} (hw : Wt (Region.wanted ⟨dst, .binOp op t x y u, ty, pos, edges, guard⟩ (pyield ops fr) = true)) (hx : evalO fr x = some p) (hy : evalO fr y = some q) (hr : By (pbin P op t p q = some r)) (hf : Fr (pput fr dst r = fr1)) (k : SQ P call fl ops l fr1 σ K) :
    SQ P call fl ops (⟨dst, .binOp op t x y u, ty, pos, edges, guard⟩ :: l) fr σ K := SQ.binOp hw.h hx hy hr.h hf.h k
theorem SL.unOp {op : UnOp} (hw : Wt (Region.wanted ⟨dst, .unOp op t x, ty, pos, edges, guard⟩ (pyield ops fr) = true)) (hx : evalO fr x = some p) (hr : By (pun op p = some r)) (hf : Fr (pput fr dst r = fr1)) (k : SQ P call fl ops l fr1 σ K) :
    SQ P call fl ops (⟨dst, .unOp op t x, ty, pos, edges, guard⟩ :: l) fr σ K := SQ.unOp hw.h hx hr.h hf.h k
theorem SL.convert {u : TypeId} (hw : Wt (Region.wanted ⟨dst, .convert u t x, ty, pos, edges, guard⟩ (pyield ops fr) = true)) (hx : evalO fr x = some p) (hr : By (pconv P u t p = some r)) (hf : Fr (pput fr dst r = fr1)) (k : SQ P call fl ops l fr1 σ K) :
    SQ P call fl ops (⟨dst, .convert u t x, ty, pos, edges, guard⟩ :: l) fr σ K := SQ.convert hw.h hx hr.h hf.h k
theorem SL.makeFunc {f : FuncId} {cap : Array Operand} {cs : List PD} (hw : Wt (Region.wanted ⟨dst, .makeFunc (.func f) #[] cap, ty, pos, edges, guard⟩ (pyield ops fr) = true)) (hx : evalsO fr cap.toList = some cs) (hf : Fr (pput fr dst (.func f cs) = fr1)) (k : SQ P call fl ops l fr1 σ K) :
    SQ P call fl ops (⟨dst, .makeFunc (.func f) #[] cap, ty, pos, edges, guard⟩ :: l) fr σ K := SQ.makeFunc hw.h hx hf.h k
theorem SL.slice {lo hi mx : Option Operand} {lo' hi' mx' : Option (Option PD)} (hw : Wt (Region.wanted ⟨dst, .slice t x lo hi mx, ty, pos, edges, guard⟩ (pyield ops fr) = true)) (hx : evalO fr x = some p) (h1 : optO fr lo = some lo') (h2 : optO fr hi = some hi') (h3 : optO fr mx = some mx')
    (hr : By (pslice P t p lo' hi' mx' = some r)) (hf : Fr (pput fr dst r = fr1)) (k : SQ P call fl ops l fr1 σ K) : SQ P call fl ops (⟨dst, .slice t x lo hi mx, ty, pos, edges, guard⟩ :: l) fr σ K := SQ.slice hw.h hx h1 h2 h3 hr.h hf.h k
theorem SL.fieldAddr {f : Nat} (hw : Wt (Region.wanted ⟨dst, .fieldAddr t x f, ty, pos, edges, guard⟩ (pyield ops fr) = true)) (hx : evalO fr x = some p) (hr : By (pfieldAddr P t p f = some r)) (hf : Fr (pput fr dst r = fr1)) (k : SQ P call fl ops l fr1 σ K) :
    SQ P call fl ops (⟨dst, .fieldAddr t x f, ty, pos, edges, guard⟩ :: l) fr σ K := SQ.fieldAddr hw.h hx hr.h hf.h k
theorem SL.field {f : Nat} (hw : Wt (Region.wanted ⟨dst, .field t x f, ty, pos, edges, guard⟩ (pyield ops fr) = true)) (hx : evalO fr x = some p) (hr : By (pfield P t p f = some r)) (hf : Fr (pput fr dst r = fr1)) (k : SQ P call fl ops l fr1 σ K) :
    SQ P call fl ops (⟨dst, .field t x f, ty, pos, edges, guard⟩ :: l) fr σ K := SQ.field hw.h hx hr.h hf.h k
theorem SL.indexAddr (hw : Wt (Region.wanted ⟨dst, .indexAddr t x y, ty, pos, edges, guard⟩ (pyield ops fr) = true)) (hx : evalO fr x = some p) (hy : evalO fr y = some q) (hr : By (pindexAddr P t p q = some r)) (hf : Fr (pput fr dst r = fr1)) (k : SQ P call fl ops l fr1 σ K) :
    SQ P call fl ops (⟨dst, .indexAddr t x y, ty, pos, edges, guard⟩ :: l) fr σ K := SQ.indexAddr hw.h hx hy hr.h hf.h k
theorem SL.index (hw : Wt (Region.wanted ⟨dst, .index t x y, ty, pos, edges, guard⟩ (pyield ops fr) = true)) (hx : evalO fr x = some p) (hy : evalO fr y = some q) (hr : By (pindex P t p q = some r)) (hf : Fr (pput fr dst r = fr1)) (k : SQ P call fl ops l fr1 σ K) :
    SQ P call fl ops (⟨dst, .index t x y, ty, pos, edges, guard⟩ :: l) fr σ K := SQ.index hw.h hx hy hr.h hf.h k
theorem SL.extract {i : Nat} {vs : List PD} (hw : Wt (Region.wanted ⟨dst, .extract x i, ty, pos, edges, guard⟩ (pyield ops fr) = true)) (hx : evalO fr x = some (.tup vs)) (hr : vs[i]? = some r) (hf : Fr (pput fr dst r = fr1)) (k : SQ P call fl ops l fr1 σ K) :
    SQ P call fl ops (⟨dst, .extract x i, ty, pos, edges, guard⟩ :: l) fr σ K := SQ.extract hw.h hx hr hf.h k
theorem SL.nilCheck {id off : Nat} (hw : Wt (Region.wanted ⟨dst, .nilCheck x, ty, pos, edges, guard⟩ (pyield ops fr) = true)) (hx : evalO fr x = some (.ptr id off)) (hf : Fr (pput fr dst (.ptr id off) = fr1)) (k : SQ P call fl ops l fr1 σ K) :
    SQ P call fl ops (⟨dst, .nilCheck x, ty, pos, edges, guard⟩ :: l) fr σ K := SQ.nilCheck hw.h hx hf.h k
theorem SL.build {parts : Array (Nat × Operand)} {ps : List (Nat × PD)} (hw : Wt (Region.wanted ⟨dst, .build t parts, ty, pos, edges, guard⟩ (pyield ops fr) = true)) (hx : evalPartsO fr parts.toList = some ps) (hr : By (pbuild P t ps = some r)) (hf : Fr (pput fr dst r = fr1)) (k : SQ P call fl ops l fr1 σ K) :
    SQ P call fl ops (⟨dst, .build t parts, ty, pos, edges, guard⟩ :: l) fr σ K := SQ.build hw.h hx hr.h hf.h k
theorem SL.builtin {b : Builtin} {args : Array Operand} {ts : Array TypeId} {ps : List PD} (hw : Wt (Region.wanted ⟨dst, .call { callee := .builtin b, args := args, argTypes := ts }, ty, pos, edges, guard⟩ (pyield ops fr) = true)) (hx : evalsO fr args.toList = some ps) (hr : By (pbuiltin P b ts ps = some r))
    (hf : Fr (pput fr dst r = fr1)) (k : SQ P call fl ops l fr1 σ K) : SQ P call fl ops (⟨dst, .call { callee := .builtin b, args := args, argTypes := ts }, ty, pos, edges, guard⟩ :: l) fr σ K := SQ.builtin hw.h hx hr.h hf.h k
theorem SL.load (hw : Wt (Region.wanted ⟨dst, .load t x, ty, pos, edges, guard⟩ (pyield ops fr) = true)) (hx : evalO fr x = some p) (hr : By (pload P σ t p = some r)) (hf : Fr (pput fr dst r = fr1)) (k : SQ P call fl ops l fr1 σ K) : SQ P call fl ops (⟨dst, .load t x, ty, pos, edges, guard⟩ :: l) fr σ K := SQ.load hw.h hx hr.h hf.h k
theorem SL.store (hw : Wt (Region.wanted ⟨dst, .store t x y, ty, pos, edges, guard⟩ (pyield ops fr) = true)) (hx : evalO fr x = some p) (hy : evalO fr y = some q) (hr : By (pstore P fl σ t p q = some σ1)) (hf : Fr (pput fr dst (.tup []) = fr1)) (k : SQ P call fl ops l fr1 σ1 K) :
    SQ P call fl ops (⟨dst, .store t x y, ty, pos, edges, guard⟩ :: l) fr σ K := SQ.store hw.h hx hy hr.h hf.h k
theorem SL.alloc (hw : Wt (Region.wanted ⟨dst, .alloc t, ty, pos, edges, guard⟩ (pyield ops fr) = true)) (hx : By (pzero P t = some p)) (hp : p.cells.all PD.plain = true) (hr : Ns (σ ++ [.box p] = σ1)) {n : Nat} (hn : Ns (σ.length = n)) (hf : Fr (pput fr dst (.ptr n 0) = fr1)) (k : SQ P call fl ops l fr1 σ1 K) :
    SQ P call fl ops (⟨dst, .alloc t, ty, pos, edges, guard⟩ :: l) fr σ K := SQ.alloc hw.h hx.h hp hr.h hn.h hf.h k
theorem SL.box (hw : Wt (Region.wanted ⟨dst, .box t x, ty, pos, edges, guard⟩ (pyield ops fr) = true)) (hx : evalO fr x = some p) (hp : p.cells.all PD.plain = true) (hr : Ns (σ ++ [.box p] = σ1)) {n : Nat} (hn : Ns (σ.length = n)) (hf : Fr (pput fr dst (.ptr n 0) = fr1)) (k : SQ P call fl ops l fr1 σ1 K) :
    SQ P call fl ops (⟨dst, .box t x, ty, pos, edges, guard⟩ :: l) fr σ K := SQ.box hw.h hx hp hr.h hn.h hf.h k
theorem SL.buildSlice {len : Nat} {parts : Array (Nat × Operand)} {ps : List (Nat × PD)} (hw : Wt (Region.wanted ⟨dst, .buildSlice t len parts, ty, pos, edges, guard⟩ (pyield ops fr) = true)) (hx : evalPartsO fr parts.toList = some ps) (hr : By (pnewSlice P t len (ps.map fun q => (q.1, q.2.strip)) = some r))
    (hf : Fr (pput fr dst r = fr1)) (k : SQ P call fl ops l fr1 σ K) : SQ P call fl ops (⟨dst, .buildSlice t len parts, ty, pos, edges, guard⟩ :: l) fr σ K := SQ.buildSlice hw.h hx hr.h hf.h k
theorem SL.append (hw : Wt (Region.wanted ⟨dst, .call { callee := .builtin .append, args := #[x, y], argTypes := #[t, t] }, ty, pos, edges, guard⟩ (pyield ops fr) = true)) (hx : evalO fr x = some p) (hy : evalO fr y = some q)
    (hr : By (pappend P fl σ t p q.strip = some (r, σ1))) (hf : Fr (pput fr dst r = fr1)) (k : SQ P call fl ops l fr1 σ1 K) : SQ P call fl ops (⟨dst, .call { callee := .builtin .append, args := #[x, y], argTypes := #[t, t] }, ty, pos, edges, guard⟩ :: l) fr σ K := SQ.append hw.h hx hy hr.h hf.h k
theorem SL.fcall {g : Operand} {args : Array Operand} {ts : Array TypeId} {f : FuncId} {cap ps : List PD} (hw : Wt (Region.wanted ⟨dst, .call { callee := .value g, args := args, argTypes := ts }, ty, pos, edges, guard⟩ (pyield ops fr) = true)) (hg : evalO fr g = some (.func f cap))
    (hx : evalsO fr args.toList = some ps) (hr : By (call fl (.inl f) (ps ++ cap) σ = some (r, σ1))) (hf : Fr (pput fr dst r = fr1)) (k : SQ P call fl ops l fr1 σ1 K) : SQ P call fl ops (⟨dst, .call { callee := .value g, args := args, argTypes := ts }, ty, pos, edges, guard⟩ :: l) fr σ K := SQ.fcall hw.h hg hx hr.h hf.h k

theorem SL.pass {op : Op} {g : Nat × Bool} (hw : Wt (Region.wanted ⟨dst, op, ty, pos, edges, some g⟩ (pyield ops fr) = false)) (hf : Fr (pput fr dst (.tup []) = fr1)) (k : SQ P call fl ops l fr1 σ K) : SQ P call fl ops (⟨dst, op, ty, pos, edges, some g⟩ :: l) fr σ K :=
  SQ.pass (o := ⟨dst, op, ty, pos, edges, some g⟩) hw.h hf.h k

/-- Every call names its function. -/
def noDyn (ops : Array Oper) : Bool := ops.toList.all fun o => match o.op with
  | .call { callee := .value (.tmp _), .. } => false
  | _ => true
theorem WL.reg {id : Nat} {y : Code} (_hs : noDyn ops = true) (h : SQ P (pcallE E) fl ops ops.toList fr σ (fun fr' σ' => Wp P E rd y fl fr' ms σ' Q)) : Wp P E rd (.seq (.region id ops false) y) fl fr ms σ Q := by
  obtain ⟨fr', σ', h1, h2⟩ := h.ex
  exact .seq (.region h1 (.normal h2))
theorem WL.drawP {id : Nat} {y : Code} (hU : Uni E) (hs : (fastOk ops && noOwn ops) = true) (h : SQ P (pcallP E) fl ops ops.toList fr σ (fun fr' σ' => Wp P E rd y fl fr' ms σ' Q)) : Wp P E rd (.seq (.region id ops true) y) fl fr ms σ Q := by
  obtain ⟨fr', σ', h1, h2⟩ := h.ex
  exact .seq (.drawP hU hs h1 (.normal h2))
theorem WL.drawF {id : Nat} {y : Code} (hs : (fastOk ops && fastFree ops) = true) (h : SQ P (pcallE E) fl ops ops.toList fr σ (fun fr' σ' => Wp P E rd y fl fr' ms σ' Q)) : Wp P E rd (.seq (.region id ops true) y) fl fr ms σ Q := by
  obtain ⟨fr', σ', h1, h2⟩ := h.ex
  exact .seq (.drawF hs h1 (.normal h2))
theorem WL.reg1 {id : Nat} (_hs : noDyn ops = true) (h : SQ P (pcallE E) fl ops ops.toList fr σ (fun fr' σ' => Q ⟨.normal, fr', ms, σ'⟩)) : Wp P E rd (.region id ops false) fl fr ms σ Q := .regionS h
theorem WL.skip {y : Code} (h : Wp P E rd y fl fr ms σ Q) : Wp P E rd (.seq .skip y) fl fr ms σ Q := .seq (.skip (.normal h))
theorem WL.ct {g : Operand} {x y : Code} (hg : evalO fr g = some (.bool true)) (h1 : Wp P E rd x fl fr ms σ Q) : Wp P E rd (.cond g x y) fl fr ms σ Q := .cond_true (evalO_ok hg) h1
theorem WL.cf {g : Operand} {x y : Code} (hg : evalO fr g = some (.bool false)) (h1 : Wp P E rd y fl fr ms σ Q) : Wp P E rd (.cond g x y) fl fr ms σ Q := .cond_false (evalO_ok hg) h1
end
end Go.Kz
