/-
  What simp unfolds when it steps through a region; appends to a row of one's own.
-/
import Derived.Test.YtclleofcjnggaaaDoorKzZc
set_option linter.all false
namespace Go.Kz

attribute [simp] pseq pdseq flags Region.wanted pyield pstep pcallee pop pval pload peval pput pevals pbuiltin pbin ofValue ofCell ofCells shapeMove PD.cells pcallE pevalParts pindexed
attribute [simp] PD.plain PD.setCells pfillAt pun pagg peq peqIn peqFields peqArr pfinish dropMarks presults presult ptuple pfieldAddr pfield pplaces pfill pstr pmin
attribute [simp] PD.strip PD.stripL pbuild pstore pconv

@[simp] theorem stripL_map {α : Type} {e : Em α} {xs : List α} : PD.stripL (xs.map e.emb) = xs.map e.emb := by
  rw [PD.stripL_map, List.map_map]
  exact List.map_congr_left fun x _ => e.str x

@[simp] theorem strip_slice_map {α : Type} {e : Em α} {k : Nat} {xs : List α} {tok : Tok} : (PD.slice k (xs.map e.emb) tok).strip = .slice (sz k xs) (xs.map e.emb) .any := by
  cases xs with
  | nil => simp [PD.strip, sz]
  | cons x xs => simp [PD.strip, sz, e.str]
@[simp] theorem strip_slice_sz {α : Type} {e : Em α} {k : Nat} {xs : List α} {tok : Tok} : (PD.slice (sz k xs) (xs.map e.emb) tok).strip = .slice (sz k xs) (xs.map e.emb) .any := by
  cases xs with
  | nil => simp [PD.strip, sz]
  | cons x xs => simp [PD.strip, sz, e.str]
@[simp] theorem strip_emb {α : Type} {e : Em α} {x : α} : (e.emb x).strip = e.emb x := e.str x

/-! ### arithmetic, an operator at a time -/
section
variable {k : IntKind} {x y : Int}
@[simp] theorem pint_add : pint .add k x y = some (.int k (k.wrap (x + y))) := rfl
@[simp] theorem pint_sub : pint .sub k x y = some (.int k (k.wrap (x - y))) := rfl
@[simp] theorem pint_mul : pint .mul k x y = some (.int k (k.wrap (x * y))) := rfl
@[simp] theorem pint_quo : pint .quo k x y = if y = 0 then none else some (.int k (k.wrap (x.tdiv y))) := rfl
@[simp] theorem pint_rem : pint .rem k x y = if y = 0 then none else some (.int k (x.tmod y)) := rfl
@[simp] theorem pint_eql : pint .eql k x y = some (.bool (decide (x = y))) := rfl
@[simp] theorem pint_neq : pint .neq k x y = some (.bool (!decide (x = y))) := rfl
@[simp] theorem pint_lss : pint .lss k x y = some (.bool (decide (x < y))) := rfl
@[simp] theorem pint_leq : pint .leq k x y = some (.bool (decide (x ≤ y))) := rfl
@[simp] theorem pint_gtr : pint .gtr k x y = some (.bool (decide (x > y))) := rfl
@[simp] theorem pint_geq : pint .geq k x y = some (.bool (decide (x ≥ y))) := rfl
@[simp] theorem pint_and : pint .and k x y = (match pbits .and k x y with | some z => some (.int k z) | none => none) := rfl
@[simp] theorem pint_or : pint .or k x y = (match pbits .or k x y with | some z => some (.int k z) | none => none) := rfl
@[simp] theorem pint_xor : pint .xor k x y = (match pbits .xor k x y with | some z => some (.int k z) | none => none) := rfl
@[simp] theorem pint_andNot : pint .andNot k x y = (match pbits .andNot k x y with | some z => some (.int k z) | none => none) := rfl
end

/-! ### operations on the store -/
section
variable {P : Program} {fl : Nat} {fr : List PD} {σ : List SObj}
@[simp] theorem pmem_loadE {t : TypeId} {x : Operand} : pmem P fl fr σ (.load t x) = (match peval fr x with
    | some a => (match pload P σ t a with | some p => some (p, σ) | none => none)
    | none => none) := rfl
@[simp] theorem pmem_storeE {t : TypeId} {x y : Operand} : pmem P fl fr σ (.store t x y) = (match peval fr x, peval fr y with
    | some a, some p => (match pstore P fl σ t a p with | some σ' => some (.tup [], σ') | none => none)
    | _, _ => none) := rfl
@[simp] theorem pmem_boxE {t : TypeId} {x : Operand} : pmem P fl fr σ (.box t x) = (match peval fr x with
    | some p => if p.cells.all PD.plain then some (.ptr σ.length 0, σ ++ [.box p]) else none
    | none => none) := rfl
@[simp] theorem pmem_allocE {t : TypeId} : pmem P fl fr σ (.alloc t) = (match pzero P t with
    | some p => if p.cells.all PD.plain then some (.ptr σ.length 0, σ ++ [.box p]) else none
    | none => none) := rfl
@[simp] theorem pmem_buildSliceE {t : TypeId} {len : Nat} {parts : Array (Nat × Operand)} : pmem P fl fr σ (.buildSlice t len parts) = (match pevalParts fr parts.toList with
    | some ps => (match pnewSlice P t len (ps.map fun q => (q.1, q.2.strip)) with | some p => some (p, σ) | none => none)
    | none => none) := rfl
@[simp] theorem pmem_appendE {args : Array Operand} {ts : Array TypeId} : pmem P fl fr σ (.call { callee := .builtin .append, args := args, argTypes := ts }) = (match pevals fr args.toList, ts.toList with
    | some [s, x], [t, t'] => if t = t' then pappend P fl σ t s x.strip else none
    | _, _ => none) := rfl

/-- The address of a cell of a row, of an array. -/
def pixRow (n : Nat) : PD → Int → Option PD
  | .slice size xs _, i => if 0 ≤ i then (if (xs.length = 0 ∨ n = size) ∧ 0 < n then (match xs[i.toNat]? with | some p => some (.eptr p.cells 0) | none => none) else none) else none
  | _, _ => none
def pixArr (len n : Nat) (x : PD) (i : Int) : Option PD :=
  if 0 ≤ i then (if i.toNat < len then (match x with
    | .ptr id off => some (.ptr id (off + i.toNat * n))
    | .eptr cs off => some (.eptr cs (off + i.toNat * n))
    | _ => none) else none) else none

@[simp] theorem pindexAddr_E {t : TypeId} {x : PD} {k : IntKind} {i : Int} : pindexAddr P t x (.int k i) = (match P.underlying t with
    | some (.array len e) => (match psize P e with | some n => pixArr len n x i | none => none)
    | some (.slice e) => (match psize P e with | some n => pixRow n x i | none => none)
    | _ => none) := by
  unfold pindexAddr
  by_cases h0 : 0 ≤ i
  · cases hu : P.underlying t with
    | none => simp [h0]
    | some d =>
      cases d <;> simp only [pasNat, h0, if_true, pixArr] <;> try rfl
      rename_i e
      cases psize P e <;> cases x <;> simp only [pixRow, h0, if_true] <;> rfl
  · cases hu : P.underlying t with
    | none => simp [h0]
    | some d =>
      cases d <;> simp only [pasNat, h0, if_false, pixArr] <;> try rfl
      all_goals (rename_i e; cases psize P e <;> cases x <;> simp only [pixRow, h0, if_false])

@[simp] theorem pixRow_at {n size : Nat} {xs : List PD} {tok : Tok} {i : Int} (h0 : 0 ≤ i) (hn0 : 0 < n) (hs : xs = [] ∨ n = size) (hi : i.toNat < xs.length) : pixRow n (.slice size xs tok) i = some (.eptr xs[i.toNat].cells 0) := by
  have hx : xs.length = 0 ∨ n = size := hs.imp (fun h => by rw [h]; rfl) (fun h => h)
  simp only [pixRow, h0, hx, hn0, and_self, if_true, List.getElem?_eq_getElem hi]
@[simp] theorem pixArr_ptr {len n id off : Nat} {i : Int} (h0 : 0 ≤ i) (hi : i.toNat < len) : pixArr len n (.ptr id off) i = some (.ptr id (off + i.toNat * n)) := by
  unfold pixArr; rw [if_pos h0, if_pos hi]
@[simp] theorem pixArr_eptr {len n off : Nat} {cs : List PD} {i : Int} (h0 : 0 ≤ i) (hi : i.toNat < len) : pixArr len n (.eptr cs off) i = some (.eptr cs (off + i.toNat * n)) := by
  unfold pixArr; rw [if_pos h0, if_pos hi]

/-- The cell of an array, the byte of a text. -/
def pixStr (s : List UInt8) (i : Int) : Option PD := if 0 ≤ i then (match s[i.toNat]? with | some b => some (.int .u8 b.toNat) | none => none) else none
@[simp] theorem pixStr_at {s : List UInt8} {i : Int} (h0 : 0 ≤ i) (hi : i.toNat < s.length) : pixStr s i = some (.int .u8 s[i.toNat].toNat) := by
  unfold pixStr; rw [if_pos h0, List.getElem?_eq_getElem hi]
@[simp] theorem pindex_str {t : TypeId} {s : List UInt8} {k : IntKind} {i : Int} : pindex P t (.str s) (.int k i) = (match P.underlying t with
    | some .string => pixStr s i
    | _ => none) := by
  unfold pindex pixStr
  by_cases h0 : 0 ≤ i
  · cases hu : P.underlying t with
    | none => simp [h0]
    | some d => cases d <;> simp only [pasNat, h0, if_true] <;> rfl
  · cases hu : P.underlying t with
    | none => simp [h0]
    | some d => cases d <;> simp only [pasNat, h0, if_false] <;> try rfl

@[simp] theorem pindex_agg {t : TypeId} {cs : List PD} {k : IntKind} {i : Int} : pindex P t (.agg cs) (.int k i) = (match P.underlying t with
    | some (.array len e) => (match psize P e with
      | some n => if 0 ≤ i then (if i.toNat < len then ppart P e cs (i.toNat * n) else none) else none
      | none => none)
    | _ => none) := by
  unfold pindex
  by_cases h0 : 0 ≤ i
  · cases hu : P.underlying t with
    | none => simp [pasNat, h0]
    | some d => cases d <;> simp only [pasNat, h0, if_true] <;> rfl
  · cases hu : P.underlying t with
    | none => simp [pasNat, h0]
    | some d =>
      cases d <;> simp only [pasNat, h0, if_false] <;> try rfl
      cases psize P _ <;> rfl

@[simp] theorem pasNat_int {k : IntKind} {i : Int} (h : 0 ≤ i) : pasNat (some (.int k i)) = some i.toNat := by simp only [pasNat, h, if_true]

def pcut (n l h : Nat) : Option (Nat × Nat) := if l ≤ h ∧ h ≤ n then some (l, h) else none
@[simp] theorem pcut_ok {n l h : Nat} (h1 : l ≤ h) (h2 : h ≤ n) : pcut n l h = some (l, h) := by simp [pcut, h1, h2]
@[simp] theorem pbounds_nn {n : Nat} : pbounds n none none = some (0, n) := by simp [pbounds]
@[simp] theorem pbounds_ln {n : Nat} {x : Option PD} : pbounds n (some x) none = (match pasNat x with | some l => pcut n l n | none => none) := by
  simp only [pbounds, pcut]
  cases pasNat x <;> rfl
@[simp] theorem pbounds_nh {n : Nat} {x : Option PD} : pbounds n none (some x) = (match pasNat x with | some h => pcut n 0 h | none => none) := by
  simp only [pbounds, pcut]
  cases pasNat x <;> rfl
@[simp] theorem pbounds_lh {n : Nat} {x y : Option PD} : pbounds n (some x) (some y) = (match pasNat y, pasNat x with | some h, some l => pcut n l h | _, _ => none) := by
  simp only [pbounds, pcut]
  cases pasNat x <;> cases pasNat y <;> rfl

/-- A part of a row, of a text. -/
def pslRow (n size : Nat) (xs : List PD) (tok : Tok) (lh : Option (Nat × Nat)) : Option PD :=
  match lh with
  | some (l, h) => if xs.length = 0 ∨ n = size then some (.slice size ((xs.drop l).take (h - l))
            (if h = xs.length then (match tok with | .full => .full | .own id => if l = 0 then .own id else .any | .any => .any) else .any)) else none
  | none => none
def pslStr (s : List UInt8) (lh : Option (Nat × Nat)) : Option PD :=
  match lh with
  | some (l, h) => some (.str ((s.drop l).take (h - l)))
  | none => none

@[simp] theorem pslRow_any {n size l h : Nat} {xs : List PD} (hs : xs = [] ∨ n = size) : pslRow n size xs .any (some (l, h)) = some (.slice size ((xs.drop l).take (h - l)) .any) := by
  have hx : xs.length = 0 ∨ n = size := hs.imp (fun h => by rw [h]; rfl) (fun h => h)
  simp only [pslRow, hx, if_true, ite_self]
@[simp] theorem pslStr_some {s : List UInt8} {l h : Nat} : pslStr s (some (l, h)) = some (.str ((s.drop l).take (h - l))) := rfl

@[simp] theorem pslice_str {t : TypeId} {s : List UInt8} {lo hi : Option (Option PD)} : pslice P t (.str s) lo hi none = (match P.underlying t with
    | some .string => pslStr s (pbounds s.length lo hi)
    | _ => none) := by
  unfold pslice pslStr
  cases hu : P.underlying t with
  | none => rfl
  | some d => cases d <;> simp only [Option.isSome_none, Bool.false_eq_true, if_false] <;> rfl

@[simp] theorem pslice_row {t : TypeId} {size : Nat} {xs : List PD} {tok : Tok} {lo hi : Option (Option PD)} : pslice P t (.slice size xs tok) lo hi none = (match P.underlying t with
    | some (.slice e) => (match psize P e with | some n => pslRow n size xs tok (pbounds xs.length lo hi) | none => none)
    | _ => none) := by
  unfold pslice pslRow
  cases hu : P.underlying t with
  | none => rfl
  | some d =>
    cases d <;> simp only <;> try rfl
    cases psize P _ <;> simp only
    cases pbounds xs.length lo hi <;> simp only
    split <;> rfl

theorem pstore_box {t : TypeId} {id off n : Nat} {p q q' : PD} (h0 : fl ≤ id) (h1 : σ[id]? = some (.box q)) (h2 : psize P t = some n) (h3 : p.cells.length = n) (h4 : p.cells.all PD.plain = true) (h5 : q.setCells off p.cells = some q') :
    pstore P fl σ t (.ptr id off) p = some (σ.set id (.box q')) := by
  simp only [pstore, h0, if_true, h1, h2, h3, h4, and_self, h5]

end

/-! ### a row of one's own behind boxes -/
section
variable {α : Type}

/-- The store: some objects, and then the row that is appended to, if it has begun. -/
def St (B : List SObj) (e : TypeId) (k n : Nat) : List SObj := B ++ (if n = 0 then [] else [.own e k n])
def outTok (id n : Nat) : Tok := if n = 0 then .full else .own id

@[simp] theorem St_get {B : List SObj} {e : TypeId} {k n i : Nat} (h : i < B.length) : (St B e k n)[i]? = B[i]? := by
  unfold St
  rw [List.getElem?_append_left h]
@[simp] theorem St_set {B : List SObj} {e : TypeId} {k n i : Nat} {o : SObj} (h : i < B.length) : (St B e k n).set i o = St (B.set i o) e k n := by
  unfold St
  rw [List.set_append_left _ _ h]
@[simp] theorem St_zero {B : List SObj} {e : TypeId} {k : Nat} : St B e k 0 = B := by simp [St]
@[simp] theorem outTok_zero {id : Nat} : outTok id 0 = .full := rfl

theorem pappend_St {P : Program} {fl : Nat} {B : List SObj} {t e : TypeId} {i : TypeInfo} {z : Value} {n s : Nat} {xs : List PD} {p : PD} {tk : Tok} (hu : P.underlying t = some (.slice e)) (hi : P.info? e = some i) (hz : i.zero = some z) (hzs : z.cells.size = i.size)
    (h0 : 0 < i.size) (hs : xs = [] ∨ s = i.size) (hn : xs.length = n) (hfl : fl ≤ B.length) (hm : xs.length + 1 ≤ maxLen) (hb : (xs.length + 1) * i.bytes ≤ 140737488355328) :
    pappend P fl (St B e i.size n) t (.slice s xs (outTok B.length n)) (.slice i.size [p] tk) = some (.slice i.size (xs ++ [p]) (outTok B.length (n + 1)), St B e i.size (n + 1)) := by
  subst hn
  have hs' : xs.length = 0 ∨ s = i.size := hs.imp (fun h => by rw [h]; rfl) (fun h => h)
  have h1 : [p].length = 1 := rfl
  simp only [pappend, hu, hi, hz, h1, hs', h0, hzs, hm, hb, or_true, and_self, if_true, Nat.one_ne_zero, if_false]
  cases xs with
  | nil => simp [outTok, St]
  | cons x xs =>
    have hs2 : s = i.size := by simpa using hs
    subst hs2
    simp [outTok, St, hfl]

/-- What append asks of the type of a row's cells: cells and bytes of one. -/
def pelem (P : Program) (e : TypeId) : Option (Nat × Nat) := match P.info? e with
  | some i => match i.zero with
    | some z => if z.cells.size = i.size ∧ 0 < i.size then some (i.size, i.bytes) else none
    | none => none
  | none => none

theorem pappend_out {P : Program} {fl : Nat} {B : List SObj} {t e : TypeId} {k b n s id : Nat} {xs : List PD} {p : PD} {tk : Tok} (hu : P.underlying t = some (.slice e)) (hi : pelem P e = some (k, b))
    (hs : xs = [] ∨ s = k) (hn : xs.length = n) (hid : id = B.length) (hfl : fl ≤ B.length) (hm : xs.length + 1 ≤ maxLen) (hb : (xs.length + 1) * b ≤ 140737488355328) :
    pappend P fl (St B e k n) t (.slice s xs (outTok id n)) (.slice k [p] tk) = some (.slice k (xs ++ [p]) (outTok id (n + 1)), St B e k (n + 1)) := by
  unfold pelem at hi
  split at hi
  · rename_i i h1
    split at hi
    · rename_i z h2
      split at hi
      · rename_i h3
        simp only [Option.some.injEq, Prod.mk.injEq] at hi
        obtain ⟨rfl, rfl⟩ := hi
        subst hid
        exact pappend_St hu h1 h2 h3.1 h3.2 hs hn hfl hm hb
      · cases hi
    · cases hi
  · cases hi

attribute [simp] ppart

def pfits (P : Program) (e : TypeId) (k n : Nat) : Prop := match pelem P e with
  | some (k', b) => k' = k ∧ n * b ≤ 140737488355328
  | none => False
attribute [simp] pfits

@[simp] theorem pappend_outS {P : Program} {fl : Nat} {B : List SObj} {t e : TypeId} {k n s id : Nat} {xs : List PD} {p : PD} {tk : Tok} (hu : P.underlying t = some (.slice e)) (hi : pfits P e k (xs.length + 1))
    (hs : xs = [] ∨ s = k) (hn : n = xs.length) (hid : id = B.length) (hfl : fl ≤ B.length) (hm : xs.length + 1 ≤ 100000000000000) :
    pappend P fl (St B e k n) t (.slice s xs (outTok id n)) (.slice k [p] tk) = some (.slice k (xs ++ [p]) (outTok id (n + 1)), St B e k (n + 1)) := by
  unfold pfits at hi
  split at hi
  · rename_i k' b h1
    obtain ⟨rfl, h2⟩ := hi
    exact pappend_out hu h1 hs hn.symm hid hfl (by simp only [maxLen]; omega) h2
  · cases hi

attribute [simp] pnewSlice

end

end Go.Kz
