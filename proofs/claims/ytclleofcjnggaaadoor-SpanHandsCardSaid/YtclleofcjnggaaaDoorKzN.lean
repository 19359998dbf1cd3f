/-
  The pure interpreter of whole bodies and calls.
-/
import Derived.Test.YtclleofcjnggaaaDoorKzM
set_option linter.all false
namespace Go.Kz

inductive PX where
  | normal
  | exit (id : Nat)
  | ret

def PX.toExit : PX → Exit
  | .normal => .normal
  | .exit id => .exit id
  | .ret => .ret

/-- How a piece of code has been left, and the frame, the marks and the store then. -/
structure PO where
  x : PX
  fr : List PD
  ms : List Nat
  σ : List SObj

abbrev PCall := Nat → FuncId ⊕ Nat → List PD → List SObj → Option (PD × List SObj)
abbrev PCode := Option Nat → Code → Nat → List PD → List Nat → List SObj → Option PO
/-- Functions whose contract is shown by other means. -/
abbrev PExt := FuncId → Option (Nat → List PD → List SObj → Option (PD × List SObj))

def pstep (P : Program) (call : PCall) (fl : Nat) (fr : List PD) (σ : List SObj) (op : Op) : Option (PD × List SObj) :=
  match pcallee fr op with
  | some (tg, args) => call fl tg args σ
  | none => pop P fl fr σ op

def pseq (P : Program) (call : PCall) (fl : Nat) (ops : Array Oper) : List Oper → List PD → List SObj → Option (List PD × List SObj)
  | [], fr, σ => some (fr, σ)
  | o :: rest, fr, σ =>
    if Region.wanted o (pyield ops fr) then
      match pstep P call fl fr σ o.op with
      | some (p, σ') => pseq P call fl ops rest (pput fr o.dst p) σ'
      | none => none
    else pseq P call fl ops rest (pput fr o.dst (.tup [])) σ

/-! ### regions that draw their order -/
def shapeA : Op → Bool
  | .move _ | .assign _ | .pick .. | .binOp .. | .unOp .. | .convert .. | .makeFunc .. | .slice .. | .fieldAddr .. | .field .. | .indexAddr .. | .index .. | .extract .. | .nilCheck _ | .build .. => true
  | .call { callee := .builtin .len, .. } | .call { callee := .builtin .min, .. } | .call { callee := .builtin .max, .. } => true
  | _ => false

def shapeLoad : Op → Bool
  | .load .. => true
  | _ => false

def shapeAlloc : Op → Bool
  | .alloc _ => true
  | _ => false

def shapeSlice : Op → Bool
  | .buildSlice .. => true
  | _ => false

def shapeStore : Op → Bool
  | .store .. => true
  | _ => false

/-- What moves the store on, and is not a store: stands in a fixed order with every other such, and with every store. -/
def shapeMove : Op → Bool
  | .box .. => true
  | .call { callee := .value _, .. } => true
  | .call { callee := .builtin .append, .. } => true
  | _ => false

def shapeW (o : Op) : Bool := shapeStore o || shapeMove o

/-- What must have come before: a mask for each operation. -/
def maskOf (acc : List Nat) (o : Oper) : Nat :=
  o.after.toList.foldl (fun s e => if Region.binds .any e then s ||| 2 ^ e.on ||| acc.getD e.on 0 else s) 0

def masks : List Oper → List Nat → List Nat
  | [], acc => acc
  | o :: r, acc => masks r (acc ++ [maskOf acc o])

def isAt (f : Op → Bool) (ops : List Oper) (i : Nat) : Bool := ((ops[i]?).map fun o => f o.op).getD false

/-- The two stand in no fixed order. -/
def loose (ms : List Nat) (i j : Nat) : Bool := !(ms.getD i 0).testBit j && !(ms.getD j 0).testBit i

/-- No load stands loose of it. -/
def noLoose (ops : List Oper) (ms : List Nat) (k : Nat) : Bool :=
  (List.range ops.length).all fun i => !isAt shapeLoad ops i || !loose ms i k

/-- Temporaries are written once; who reads one stands in a fixed order with who writes it. -/
def ssaAt (ops : Array Oper) (i : Nat) (o : Oper) : Bool :=
  (List.range ops.size).all fun j => j == i ||
    match ops[j]? with
    | none => true
    | some oj => match oj.dst with
      | none => true
      | some d => (o.dst != some d) && (!(o.looksAt ops).contains d ||
          (if j < i then o.after.any (fun e => Region.binds .any e && e.on == j) else oj.after.any (fun e => Region.binds .any e && e.on == i)))

def regOk (ops : Array Oper) (ms : List Nat) : Bool :=
  Region.noSelect ops &&
  (List.range ops.size).all fun i => match ops[i]? with
    | none => true
    | some o => (shapeA o.op || shapeLoad o.op || shapeAlloc o.op || shapeSlice o.op || shapeW o.op) && ssaAt ops i o && o.after.all (fun e => !Region.binds .any e || e.on < i) &&
        (!shapeW o.op || (List.range i).all fun j => !isAt shapeW ops.toList j || (ms.getD i 0).testBit j)

/-- The boxes of a region's variables, all laid ahead. -/
def phoist (P : Program) : List Oper → Option (List SObj)
  | [] => some []
  | o :: r => match o.op with
    | .alloc t => match pzero P t, phoist P r with
      | some p, some l => if p.cells.all PD.plain then some (.box p :: l) else none
      | _, _ => none
    | _ => phoist P r

/-- Which box an operation reads or writes. -/
def pfoot (fr : List PD) : Op → Option Nat
  | .load _ x => match peval fr x with | some (.ptr id _) => some id | _ => none
  | .store _ x _ => match peval fr x with | some (.ptr id _) => some id | _ => none
  | _ => none

/-- One operation of a drawn region: its value, the store behind it. 'k': the number of the next box laid ahead. -/
def pdop (P : Program) (call : PCall) (fl : Nat) (free : Bool) (k : Nat) (fr : List PD) (σ : List SObj) (op : Op) : Option (PD × List SObj) :=
  if shapeA op then (match pval P fr op with | some p => some (p, σ) | none => none)
  else if shapeAlloc op then some (.ptr k 0, σ)
  else if shapeMove op && !free then
    match pstep P call (max fl σ.length) fr σ op with
    | some (p, σ') => some (p, σ ++ σ'.drop σ.length)
    | none => none
  else if shapeMove op then pstep P call fl fr σ op
  else pmem P fl fr σ op

structure TE where
  fr : List PD
  σ : List SObj
  p : PD
  foot : Option Nat

def pdrawOps (P : Program) (call : PCall) (fl : Nat) (ops : Array Oper) (ms : List Nat) : Nat → Nat → List Oper → List PD → List SObj → Option (List TE × List PD × List SObj)
  | _, _, [], fr, σ => some ([], fr, σ)
  | i, k, o :: rest, fr, σ =>
    let k' := if shapeAlloc o.op then k + 1 else k
    if Region.wanted o (pyield ops fr) then
      match pdop P call fl (noLoose ops.toList ms i) k fr σ o.op with
      | some (p, σ') => match pdrawOps P call fl ops ms (i + 1) k' rest (pput fr o.dst p) σ' with
        | some (tr, fr', σ'') => some (⟨fr, σ, p, pfoot fr o.op⟩ :: tr, fr', σ'')
        | none => none
      | none => none
    else match pdrawOps P call fl ops ms (i + 1) k' rest (pput fr o.dst (.tup [])) σ with
      | some (tr, fr', σ'') => some (⟨fr, σ, .tup [], none⟩ :: tr, fr', σ'')
      | none => none

/-- The loads and the stores that stand loose of each other touch different boxes. -/
def footsOk (ops : List Oper) (ms : List Nat) (tr : List TE) : Bool :=
  (List.range ops.length).all fun k => !isAt shapeStore ops k || (List.range ops.length).all fun i => !isAt shapeLoad ops i || !loose ms i k ||
    match ((tr[i]?).bind TE.foot), ((tr[k]?).bind TE.foot) with
    | some a, some b => a != b
    | _, _ => true

def pdraw (P : Program) (call : PCall) (fl : Nat) (ops : Array Oper) (fr : List PD) (σ : List SObj) : Option (List PD × List SObj) :=
  let ms := masks ops.toList []
  if regOk ops ms then
    match phoist P ops.toList with
    | some hs => match pdrawOps P call fl ops ms 0 σ.length ops.toList fr (σ ++ hs) with
      | some (tr, fr', σ') => if footsOk ops.toList ms tr then some (fr', σ') else none
      | none => none
    | none => none
  else none

/-! ### calls -/
def presult (P : Program) (fr : List PD) (σ : List SObj) : ResultVar → Option PD
  | .tmp t => some (fr.getD t (.tup []))
  | .cell a t => match fr.getD a (.tup []) with
    | .ptr id off => pload P σ t (.ptr id off)
    | _ => none

def presults (P : Program) (fr : List PD) (σ : List SObj) : List ResultVar → Option (List PD)
  | [] => some []
  | r :: rs => match presult P fr σ r, presults P fr σ rs with
    | some p, some ps => some (p :: ps)
    | _, _ => none

def ptuple : List PD → PD
  | [p] => p
  | ps => .tup ps

def dropMarks (fl : Nat) : List Nat → List SObj → Option (List SObj)
  | [], σ => some σ
  | m :: ms, σ => if fl ≤ m then (match σ[m]? with
    | some .mark => dropMarks fl ms (σ.set m .none)
    | _ => none) else none

def pargs (fr : List PD) : List Tmp → List PD → List PD
  | t :: ts, p :: ps => pargs (fr.set t p) ts ps
  | _, _ => fr

def pround (code : PCode) (fl : Nat) (id : Nat) (args : List PD) (σ : List SObj) : Option (PD × List SObj) :=
  if fl ≤ id then
    match σ[id]? with
    | some (.loop .ready fr ps assign body) =>
      if args.length = ps.length then
        match code (some id) assign fl (pargs fr ps args) [] σ with
        | some ⟨.normal, fr1, ms1, σ1⟩ =>
          match σ1[id]? with
          | some (.loop .ready fr0 ps0 as0 bd0) =>
            match code (some id) body fl fr1 ms1 (σ1.set id (.loop .busy fr0 ps0 as0 bd0)) with
            | some ⟨x, _, _, σ2⟩ =>
              match σ2[id]? with
              | some (.loop .busy fr3 ps3 as3 bd3) =>
                match x with
                | .normal => some (.bool true, σ2.set id (.loop .ready fr3 ps3 as3 bd3))
                | .ret => some (.bool false, σ2.set id (.loop (.done .ret) fr3 ps3 as3 bd3))
                | .exit k => some (.bool false, σ2.set id (.loop (.done (.exit k)) fr3 ps3 as3 bd3))
              | _ => none
            | none => none
          | _ => none
        | _ => none
      else none
    | _ => none
  else none

def pfinish (P : Program) (fl : Nat) (fn : Func) (r : PO) : Option (PD × List SObj) :=
  match r.x with
  | .exit _ => none
  | _ => match dropMarks fl r.ms r.σ with
    | some σ => match presults P r.fr σ fn.results.toList with
      | some ps => some (ptuple ps, σ)
      | none => none
    | none => none

def pbody (P : Program) (code : PCode) (fl : Nat) (f : FuncId) (args : List PD) (σ : List SObj) : Option (PD × List SObj) :=
  match P.funcs[f]? with
  | some fn => match fn.body with
    | some c => match code none c fl (args ++ List.replicate (fn.ntmps - args.length) (.tup [])) [] σ with
      | some r => pfinish P fl fn r
      | none => none
    | none => none
  | none => none

def pcallBy (P : Program) (E : PExt) (code : PCode) : PCall
  | fl, .inl f, args, σ => match E f with
    | some g => g fl args σ
    | none => pbody P code fl f args σ
  | fl, .inr id, args, σ => pround code fl id args σ

/-- The record of a range over a function has been left. -/
def pleave (id : Nat) (fr : List PD) (ms : List Nat) (σ : List SObj) : Option PO :=
  match σ[id]? with
  | some (.loop .ready _ _ _ _) => some ⟨.normal, fr, ms, σ.set id .none⟩
  | some (.loop (.done .ret) _ _ _ _) => some ⟨.ret, fr, ms, σ.set id .none⟩
  | some (.loop (.done (.exit k)) _ _ _ _) => some ⟨.exit k, fr, ms, σ.set id .none⟩
  | _ => none

def prange (call : PCall) (rd : Option Nat) (gf : FuncId) (cap : List PD) (ps : List Tmp) (assign body : Code) (fl : Nat) (fr : List PD) (ms : List Nat) (σ : List SObj) : Option PO :=
  if fl ≤ σ.length then
    match rd with
    | none => match call fl (.inl gf) (.yield (σ.length + 1) :: cap) (σ ++ [.mark] ++ [.loop .ready fr ps assign body]) with
      | some (_, σ2) => pleave (σ.length + 1) fr (σ.length :: ms) σ2
      | none => none
    | some l => match σ[l]? with
      | some (.loop _ _ _ _ _) => match call fl (.inl gf) (.yield σ.length :: cap) (σ ++ [.loop .ready fr ps assign body]) with
        | some (_, σ2) => pleave σ.length fr ms σ2
        | none => none
      | _ => none
  else none

/-- A body, with fuel. 'rd': the loop in whose round the code runs. 'fl': store objects below it are not written. -/
def pcode (P : Program) (E : PExt) : Nat → PCode
  | 0 => fun _ _ _ _ _ _ => none
  | n + 1 => fun rd c fl fr ms σ =>
    match c with
    | .skip => some ⟨.normal, fr, ms, σ⟩
    | .region _ ops false => match pseq P (pcallBy P E (pcode P E n)) fl ops ops.toList fr σ with
      | some (fr', σ') => some ⟨.normal, fr', ms, σ'⟩
      | none => none
    | .region _ ops true => match pdraw P (pcallBy P E (pcode P E n)) fl ops fr σ with
      | some (fr', σ') => some ⟨.normal, fr', ms, σ'⟩
      | none => none
    | .seq x y => match pcode P E n rd x fl fr ms σ with
      | some ⟨.normal, fr', ms', σ'⟩ => pcode P E n rd y fl fr' ms' σ'
      | r => r
    | .cond g x y => match peval fr g with
      | some (.bool true) => pcode P E n rd x fl fr ms σ
      | some (.bool false) => pcode P E n rd y fl fr ms σ
      | _ => none
    | .block id b => match pcode P E n rd b fl fr ms σ with
      | some ⟨.exit k, fr', ms', σ'⟩ => some ⟨if k = id then .normal else .exit k, fr', ms', σ'⟩
      | r => r
    | .loop b => match pcode P E n rd b fl fr ms σ with
      | some ⟨.normal, fr', ms', σ'⟩ => pcode P E n rd (.loop b) fl fr' ms' σ'
      | r => r
    | .rangeFunc g ps assign body => match peval fr g with
      | some (.func gf cap) => prange (pcallBy P E (pcode P E n)) rd gf cap ps.toList assign body fl fr ms σ
      | _ => none
    | .exit id => some ⟨.exit id, fr, ms, σ⟩
    | .ret => some ⟨.ret, fr, ms, σ⟩
    | _ => none

def pcall (P : Program) (E : PExt) (n : Nat) : PCall := pcallBy P E (pcode P E n)

end Go.Kz
