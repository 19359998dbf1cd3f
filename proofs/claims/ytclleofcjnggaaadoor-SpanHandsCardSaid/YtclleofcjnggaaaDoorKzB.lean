/-
  A pure interpreter of the model's code over pure data.
-/
import Derived.Test.YtclleofcjnggaaaDoorKzA
set_option linter.all false
namespace Go.Kz

def PD.plain : PD → Bool
  | .agg _ | .tup _ => false
  | _ => true

/-! ### constants -/
def ofCell : Value → Option PD
  | .bool b => some (.bool b)
  | .int k n => some (.int k n)
  | .string s => some (.str s.data.toList)
  | .slice none 0 0 => some (.slice 0 [] .full)
  | .pointer none => some .nilptr
  | .nilFunc => some .nilfunc
  | _ => none

def ofCells : List Value → Option (List PD)
  | [] => some []
  | v :: vs => match ofCell v, ofCells vs with
    | some p, some ps => some (p :: ps)
    | _, _ => none

def ofValue : Value → Option PD
  | .agg cs => match ofCells cs.toList with | some ps => some (.agg ps) | none => none
  | .tuple vs => if vs.size = 0 then some (.tup []) else none
  | v => ofCell v

def pzero (P : Program) (t : TypeId) : Option PD :=
  match P.info? t with
  | some i => match i.zero with | some z => ofValue z | none => none
  | none => none

def psize (P : Program) (t : TypeId) : Option Nat := match P.info? t with | some i => some i.size | none => none

def pagg (P : Program) (t : TypeId) : Option Bool :=
  match P.underlying t with
  | some (.struct _) | some (.array _ _) => some true
  | some _ => some false
  | none => none

/-! ### operands -/
def peval (fr : List PD) : Operand → Option PD
  | .tmp t => some (fr.getD t (.tup []))
  | .const v => ofValue v
  | .func f => some (.func f [])
  | .global g => match gcells g with
    | some ds => some (.eptr ds 0)
    | none => none

def pevals (fr : List PD) : List Operand → Option (List PD)
  | [] => some []
  | x :: xs => match peval fr x, pevals fr xs with
    | some p, some ps => some (p :: ps)
    | _, _ => none

/-- Part of some cells, as a value of a type. -/
def ppart (P : Program) (t : TypeId) (cs : List PD) (off : Nat) : Option PD :=
  match pagg P t, psize P t with
  | some true, some n => if off + n ≤ cs.length then some (.agg ((cs.drop off).take n)) else none
  | some false, some _ => cs[off]?
  | _, _ => none

/-! ### operators -/
def pbits (op : BinOp) (k : IntKind) (x y : Int) : Option Int :=
  match op with
  | .and => some (k.wrap ((BitVec.ofInt k.bits x) &&& (BitVec.ofInt k.bits y)).toNat)
  | .or => some (k.wrap ((BitVec.ofInt k.bits x) ||| (BitVec.ofInt k.bits y)).toNat)
  | .xor => some (k.wrap ((BitVec.ofInt k.bits x) ^^^ (BitVec.ofInt k.bits y)).toNat)
  | .andNot => some (k.wrap ((BitVec.ofInt k.bits x) &&& ~~~(BitVec.ofInt k.bits y)).toNat)
  | _ => none

def pint (op : BinOp) (k : IntKind) (x y : Int) : Option PD :=
  match op with
  | .add => some (.int k (k.wrap (x + y)))
  | .sub => some (.int k (k.wrap (x - y)))
  | .mul => some (.int k (k.wrap (x * y)))
  | .quo => if y = 0 then none else some (.int k (k.wrap (x.tdiv y)))
  | .rem => if y = 0 then none else some (.int k (x.tmod y))
  | .eql => some (.bool (x == y))
  | .neq => some (.bool (x != y))
  | .lss => some (.bool (decide (x < y)))
  | .leq => some (.bool (decide (x ≤ y)))
  | .gtr => some (.bool (decide (x > y)))
  | .geq => some (.bool (decide (x ≥ y)))
  | .and | .or | .xor | .andNot => match pbits op k x y with | some z => some (.int k z) | none => none
  | _ => none

def pshift (op : BinOp) (k : IntKind) (x y : Int) : Option PD :=
  if y < 0 then none else
  match op with
  | .shl => some (.int k (k.wrap (x * 2 ^ (min y.toNat k.bits))))
  | .shr => some (.int k (x.fdiv (2 ^ (min y.toNat k.bits))))
  | _ => none

def pstr (op : BinOp) (x y : List UInt8) : Option PD :=
  match op with
  | .add => if x.length + y.length ≤ maxLen then some (.str (x ++ y)) else none
  | .eql => some (.bool (x == y))
  | .neq => some (.bool (!(x == y)))
  | .lss => some (.bool (Op.bytesLess x y))
  | .leq => some (.bool (Op.bytesLess x y || x == y))
  | .gtr => some (.bool (!(Op.bytesLess x y || x == y)))
  | .geq => some (.bool (!(Op.bytesLess x y)))
  | _ => none

def peqFields (eq : TypeId → PD → PD → Option Bool) (P : Program) (xs ys : List PD) : List Field → Option Bool
  | [] => some true
  | f :: fs =>
    if f.name = "_" then peqFields eq P xs ys fs
    else match ppart P f.type xs f.offset, ppart P f.type ys f.offset with
      | some a, some b => match eq f.type a b with
        | some true => peqFields eq P xs ys fs
        | some false => some false
        | none => none
      | _, _ => none

def peqArr (eq : PD → PD → Option Bool) (P : Program) (e : TypeId) (n : Nat) (xs ys : List PD) : Nat → Nat → Option Bool
  | _, 0 => some true
  | i, m + 1 => match ppart P e xs (i * n), ppart P e ys (i * n) with
    | some a, some b => match eq a b with
      | some true => peqArr eq P e n xs ys (i + 1) m
      | some false => some false
      | none => none
    | _, _ => none

def peqIn (P : Program) : Nat → TypeId → PD → PD → Option Bool
  | 0, _, _, _ => none
  | d + 1, t, x, y =>
    match P.underlying t with
    | some .bool => match x, y with | .bool a, .bool b => some (a == b) | _, _ => none
    | some (.int _) => match x, y with | .int k a, .int k' b => if k = k' then some (a == b) else none | _, _ => none
    | some .string => match x, y with | .str a, .str b => some (a == b) | _, _ => none
    | some (.pointer _) => match x, y with
      | .nilptr, .nilptr => some true
      | .nilptr, .ptr _ _ => some false
      | .nilptr, .eptr _ _ => some false
      | .ptr _ _, .nilptr => some false
      | .eptr _ _, .nilptr => some false
      | _, _ => none
    | some (.func ..) => match x, y with
      | .nilfunc, .nilfunc => some true
      | .nilfunc, .func _ _ => some false
      | .func _ _, .nilfunc => some false
      | _, _ => none
    | some (.struct fs) => match x, y with
      | .agg xs, .agg ys => if P.stoodInHeld t then none else peqFields (peqIn P d) P xs ys fs.toList
      | _, _ => none
    | some (.array len e) => match x, y with
      | .agg xs, .agg ys => match psize P e with
        | some n => peqArr (peqIn P d e) P e n xs ys 0 len
        | none => none
      | _, _ => none
    | _ => none

/-- '==' at a type; the depth is small: types of ours are not deep. -/
def peq (P : Program) (t : TypeId) (x y : PD) : Option Bool :=
  match x, y with
  | .agg _, .agg _ => if P.eqGuardType P.depth t then none else peqIn P 12 t x y
  | _, _ => peqIn P 12 t x y

def pbin (P : Program) (op : BinOp) (t : TypeId) (x y : PD) : Option PD :=
  match x, y with
  | .int k a, .int k' b =>
    match op with
    | .shl | .shr => pshift op k a b
    | _ => if k = k' then pint op k a b else none
  | .str a, .str b => pstr op a b
  | _, _ =>
    match op with
    | .eql => match peq P t x y with | some b => some (.bool b) | none => none
    | .neq => match peq P t x y with | some b => some (.bool (!b)) | none => none
    | _ => none

def pun (op : UnOp) (x : PD) : Option PD :=
  match op, x with
  | .neg, .int k n => some (.int k (k.wrap (0 - n)))
  | .xor, .int k n => match pbits .xor k (if k.signed then -1 else k.max) n with | some z => some (.int k z) | none => none
  | .not, .bool b => some (.bool (!b))
  | _, _ => none

def pconv (P : Program) (src dst : TypeId) (x : PD) : Option PD :=
  match P.underlying src, P.underlying dst, x with
  | some (.int _), some (.int k), .int _ n => some (.int k (k.wrap n))
  | some .string, some .string, .str s => some (.str s)
  | _, _, _ => none

def pasNat : Option PD → Option Nat
  | some (.int _ i) => if 0 ≤ i then some i.toNat else none
  | _ => none

/-- The three bounds of a slice expression over what has 'n' elements; no bound lies behind the length. -/
def pbounds (n : Nat) (lo hi : Option (Option PD)) : Option (Nat × Nat) :=
  match (match hi with | some h => pasNat h | none => some n), (match lo with | some l => pasNat l | none => some 0) with
  | some h, some l => if l ≤ h ∧ h ≤ n then some (l, h) else none
  | _, _ => none

def pslice (P : Program) (t : TypeId) (x : PD) (lo hi mx : Option (Option PD)) : Option PD :=
  match P.underlying t, x with
  | some .string, .str s =>
    if mx.isSome then none else
    match pbounds s.length lo hi with
    | some (l, h) => some (.str ((s.drop l).take (h - l)))
    | none => none
  | some (.slice e), .slice size xs tok =>
    match psize P e, pbounds xs.length lo hi with
    | some n, some (l, h) =>
      if xs.length = 0 ∨ n = size then
        match mx with
        | none => some (.slice size ((xs.drop l).take (h - l))
            (if h = xs.length then (match tok with | .full => .full | .own id => if l = 0 then .own id else .any | .any => .any) else .any))
        | some m => match hi, pasNat m with
          | some _, some m => if h ≤ m ∧ m ≤ xs.length then some (.slice size ((xs.drop l).take (h - l)) (if m = h then .full else .any)) else none
          | _, _ => none
      else none
    | _, _ => none
  | _, _ => none

def pfieldAddr (P : Program) (s : TypeId) (x : PD) (f : Nat) : Option PD :=
  match P.underlying s with
  | some (.struct fs) => match fs[f]? with
    | some fd => match psize P fd.type with
      | some n => if n = 0 then none else match x with
        | .ptr id off => some (.ptr id (off + fd.offset))
        | .eptr cs off => some (.eptr cs (off + fd.offset))
        | _ => none
      | none => none
    | none => none
  | _ => none

def pfield (P : Program) (t : TypeId) (x : PD) (f : Nat) : Option PD :=
  match P.underlying t, x with
  | some (.struct fs), .agg cs => match fs[f]? with
    | some fd => ppart P fd.type cs fd.offset
    | none => none
  | _, _ => none

def pindexAddr (P : Program) (t : TypeId) (x : PD) (i : PD) : Option PD :=
  match pasNat (some i), P.underlying t with
  | some i, some (.array len e) => match psize P e with
    | some n => if i < len then (match x with
        | .ptr id off => some (.ptr id (off + i * n))
        | .eptr cs off => some (.eptr cs (off + i * n))
        | _ => none) else none
    | none => none
  | some i, some (.slice e) => match x, psize P e with
    | .slice size xs _, some n => if (xs.length = 0 ∨ n = size) ∧ 0 < n then (match xs[i]? with
        | some p => some (.eptr p.cells 0)
        | none => none) else none
    | _, _ => none
  | _, _ => none

def pindex (P : Program) (t : TypeId) (x : PD) (i : PD) : Option PD :=
  match pasNat (some i), P.underlying t, x with
  | some i, some (.array len e), .agg cs => match psize P e with
    | some n => if i < len then ppart P e cs (i * n) else none
    | none => none
  | some i, some .string, .str s => match s[i]? with | some b => some (.int .u8 b.toNat) | none => none
  | _, _, _ => none

def pplaces (P : Program) : List Field → Option (List (Nat × Nat))
  | [] => some []
  | f :: fs => match psize P f.type, pplaces P fs with
    | some n, some ps => some ((f.offset, n) :: ps)
    | _, _ => none

def pfillAt (cs : List PD) (off : Nat) (new : List PD) : List PD := cs.take off ++ new ++ cs.drop (off + new.length)

def pfill (place : Nat → Option (Nat × Nat)) (cs : List PD) : List (Nat × PD) → Option (List PD)
  | [] => some cs
  | (i, p) :: rest => match place i with
    | none => none
    | some (off, n) => if p.cells.length ≠ n ∨ off + p.cells.length > cs.length ∨ p.cells.all PD.plain = false then none else pfill place (pfillAt cs off p.cells) rest

def pevalParts (fr : List PD) : List (Nat × Operand) → Option (List (Nat × PD))
  | [] => some []
  | (i, x) :: r => match peval fr x, pevalParts fr r with
    | some p, some ps => some ((i, p) :: ps)
    | _, _ => none

def pbuild (P : Program) (t : TypeId) (parts : List (Nat × PD)) : Option PD :=
  match pzero P t with
  | some (.agg z) => match P.underlying t with
    | some (.struct fs) => match pplaces P fs.toList with
      | some pl => match pfill (pl[·]?) z parts with | some cs => some (.agg cs) | none => none
      | none => none
    | some (.array _ e) => match psize P e with
      | some n => match pfill (fun i => some (i * n, n)) z parts with | some cs => some (.agg cs) | none => none
      | none => none
    | _ => none
  | _ => none

def pmin (lt : Bool) : PD → List PD → Option PD
  | .int k x, [] => some (.int k x)
  | .int k x, .int _ y :: r => pmin lt (.int k (if lt then (if y < x then y else x) else (if y > x then y else x))) r
  | _, _ => none

def pbuiltin (P : Program) (b : Builtin) (argTypes : Array TypeId) (args : List PD) : Option PD :=
  match b with
  | .len => match argTypes[0]? with
    | some t => match P.underlying t, args with
      | some .string, .str s :: _ => some (.int .i64 s.length)
      | some (.array n _), _ :: _ => some (.int .i64 n)
      | some (.slice _), .slice _ xs _ :: _ => some (.int .i64 xs.length)
      | _, _ => none
    | none => none
  | .min => match args with | x :: r => pmin true x r | [] => none
  | .max => match args with | x :: r => pmin false x r | [] => none
  | _ => none

/-! ### operations that neither read nor write the store -/
def pval (P : Program) (fr : List PD) : Op → Option PD
  | .move x | .assign x => peval fr x
  | .pick c a b => match peval fr c with
    | some (.bool true) => peval fr a
    | some (.bool false) => peval fr b
    | _ => none
  | .binOp op t x y _ => match peval fr x, peval fr y with
    | some a, some b => pbin P op t a b
    | _, _ => none
  | .unOp op _ x => match peval fr x with | some a => pun op a | none => none
  | .convert s d x => match peval fr x with | some a => pconv P s d a | none => none
  | .makeFunc (.func f) first captured => if first.size = 0 then (match pevals fr captured.toList with | some ps => some (.func f ps) | none => none) else none
  | .slice t x lo hi mx => match peval fr x with
    | some a => pslice P t a (lo.map (peval fr)) (hi.map (peval fr)) (mx.map (peval fr))
    | none => none
  | .fieldAddr s x f => match peval fr x with | some a => pfieldAddr P s a f | none => none
  | .field t x f => match peval fr x with | some a => pfield P t a f | none => none
  | .indexAddr t x i => match peval fr x, peval fr i with
    | some a, some b => pindexAddr P t a b
    | _, _ => none
  | .index t x i => match peval fr x, peval fr i with
    | some a, some b => pindex P t a b
    | _, _ => none
  | .extract x i => match peval fr x with
    | some (.tup vs) => vs[i]?
    | _ => none
  | .nilCheck x => match peval fr x with
    | some (.ptr id off) => some (.ptr id off)
    | some (.eptr cs off) => some (.eptr cs off)
    | _ => none
  | .build t parts => match pevalParts fr parts.toList with | some ps => pbuild P t ps | none => none
  | .call { callee := .builtin b, args := args, argTypes := ts } => match pevals fr args.toList with
    | some ps => pbuiltin P b ts ps
    | none => none
  | _ => none

/-! ### operations on the store -/
def pload (P : Program) (σ : List SObj) (t : TypeId) : PD → Option PD
  | .ptr id off => match σ[id]? with
    | some (.box p) => ppart P t p.cells off
    | _ => none
  | .eptr cs off => ppart P t cs off
  | _ => none

def PD.setCells (p : PD) (off : Nat) (new : List PD) : Option PD :=
  match p with
  | .agg cs => if off + new.length ≤ cs.length then some (.agg (pfillAt cs off new)) else none
  | _ => if off = 0 then (match new with | [q] => some q | _ => none) else none

def pstore (P : Program) (fl : Nat) (σ : List SObj) (t : TypeId) (a p : PD) : Option (List SObj) :=
  match a with
  | .ptr id off => if fl ≤ id then (match σ[id]?, psize P t with
      | some (.box q), some n => if p.cells.length = n ∧ p.cells.all PD.plain = true then (match q.setCells off p.cells with
          | some q' => some (σ.set id (.box q'))
          | none => none) else none
      | _, _ => none) else none
  | _ => none

def pindexed (i : Nat) : List (Nat × PD) → Option (List PD)
  | [] => some []
  | (j, p) :: r => if j = i then (match pindexed (i + 1) r with | some ps => some (p :: ps) | none => none) else none

def pnewSlice (P : Program) (t : TypeId) (len : Nat) (parts : List (Nat × PD)) : Option PD :=
  match P.underlying t with
  | some (.slice e) => match psize P e, pzero P e, pindexed 0 parts with
    | some n, some z, some ps =>
      if ps.length = len ∧ 0 < n ∧ len * n ≤ 16777216 ∧ ps.all (fun p => p.cells.length = n && p.cells.all PD.plain) = true ∧ z.cells.length = n ∧ z.cells.all PD.plain = true then some (.slice n ps .full) else none
    | _, _, _ => none
  | _ => none

/-- append: how long the new row may be. -/
def pappend (P : Program) (fl : Nat) (σ : List SObj) (t : TypeId) (s x : PD) : Option (PD × List SObj) :=
  match P.underlying t with
  | some (.slice e) => match P.info? e with
    | some i => match i.zero, s, x with
      | some z, .slice sz xs tok, .slice sz' ys _ =>
        if (xs.length = 0 ∨ sz = i.size) ∧ (ys.length = 0 ∨ sz' = i.size) ∧ 0 < i.size ∧ z.cells.size = i.size ∧ xs.length + ys.length ≤ maxLen ∧
            (xs.length + ys.length) * i.bytes ≤ 140737488355328 then
          if ys.length = 0 then some (s, σ) else
          match tok with
          | .full => some (.slice i.size (xs ++ ys) (.own σ.length), σ ++ [.own e i.size (xs.length + ys.length)])
          | .own id => if fl ≤ id ∧ sz = i.size then (match σ[id]? with
              | some (.own e' sz0 n) => if e' = e ∧ sz0 = i.size ∧ n = xs.length then
                  some (.slice i.size (xs ++ ys) (.own id), σ.set id (.own e i.size (xs.length + ys.length))) else none
              | _ => none) else none
          | .any => none
        else none
      | _, _, _ => none
    | none => none
  | _ => none

def pmem (P : Program) (fl : Nat) (fr : List PD) (σ : List SObj) : Op → Option (PD × List SObj)
  | .load t x => match peval fr x with
    | some a => (match pload P σ t a with | some p => some (p, σ) | none => none)
    | none => none
  | .store t x y => match peval fr x, peval fr y with
    | some a, some p => (match pstore P fl σ t a p with | some σ' => some (.tup [], σ') | none => none)
    | _, _ => none
  | .alloc t => match pzero P t with
    | some p => if p.cells.all PD.plain then some (.ptr σ.length 0, σ ++ [.box p]) else none
    | none => none
  | .box _ x => match peval fr x with
    | some p => if p.cells.all PD.plain then some (.ptr σ.length 0, σ ++ [.box p]) else none
    | none => none
  | .buildSlice t len parts => match pevalParts fr parts.toList with
    | some ps => (match pnewSlice P t len (ps.map fun q => (q.1, q.2.strip)) with | some p => some (p, σ) | none => none)
    | none => none
  | .call { callee := .builtin .append, args := args, argTypes := ts } => match pevals fr args.toList, ts.toList with
    | some [s, x], [t, t'] => if t = t' then pappend P fl σ t s x.strip else none
    | _, _ => none
  | _ => none

/-- One operation that calls no function of the program. -/
def pop (P : Program) (fl : Nat) (fr : List PD) (σ : List SObj) (op : Op) : Option (PD × List SObj) :=
  match pval P fr op with
  | some p => some (p, σ)
  | none => pmem P fl fr σ op

/-- A call of a function of the program, or of a round: which, with which arguments. -/
def pcallee (fr : List PD) : Op → Option ((FuncId ⊕ Nat) × List PD)
  | .call { callee := .value g, args := args, .. } => match peval fr g, pevals fr args.toList with
    | some (.func f cap), some ps => some (.inl f, ps ++ cap)
    | some (.yield id), some ps => some (.inr id, ps)
    | _, _ => none
  | _ => none

def pput (fr : List PD) (dst : Option Tmp) (p : PD) : List PD :=
  match dst with
  | some d => fr.set d p
  | none => fr

def pyield (ops : Array Oper) (fr : List PD) (j : Nat) : Option Bool :=
  match (ops[j]?).bind (·.dst) with
  | some d => match fr[d]? with
    | some (.bool b) => some b
    | _ => none
  | none => none

end Go.Kz
