/-
  Typed data: how a value of a Lean type stands as a datum; functions of the table given by functions of typed data.
-/
import Derived.Test.YtclleofcjnggaaaDoorKzZa
set_option linter.all false
namespace Go.Kz

/-- How values of a type stand as data: one way each, nothing kept of rooms, no object named. -/
structure Em (α : Type) where
  emb : α → PD
  inj : ∀ {x y}, emb x = emb y → x = y
  str : ∀ x, (emb x).strip = emb x
  fre : ∀ x, (emb x).idfree = true

/-- The same of the cells of a part; of one number. -/
structure EmC (α : Type) where
  cells : α → List PD
  len : Nat
  hlen : ∀ x, (cells x).length = len
  inj : ∀ {x y}, cells x = cells y → x = y
  str : ∀ x, (cells x).map PD.strip = cells x
  fre : ∀ x, (cells x).all PD.idfree = true

section
variable {α β γ δ : Type}

open Classical in
noncomputable def Em.dec (e : Em α) (p : PD) : Option α := if h : ∃ x, p.strip = e.emb x then some h.choose else none

theorem Em.dec_some {e : Em α} {p : PD} {x : α} (h : p.strip = e.emb x) : e.dec p = some x := by
  have hx : ∃ x, p.strip = e.emb x := ⟨x, h⟩
  unfold Em.dec
  rw [dif_pos hx]
  exact congrArg some (e.inj (hx.choose_spec.symm.trans h))

theorem Em.of_dec {e : Em α} {p : PD} {x : α} (h : e.dec p = some x) : p.strip = e.emb x := by
  unfold Em.dec at h
  split at h
  · rename_i hx
    simp only [Option.some.injEq] at h
    subst h
    exact hx.choose_spec
  · cases h

@[simp] theorem Em.dec_emb {e : Em α} {x : α} : e.dec (e.emb x) = some x := Em.dec_some (e.str x)

def Em.int (k : IntKind) : Em Int := ⟨PD.int k, fun h => by simpa using h, fun _ => by simp [PD.strip], fun _ => by simp [PD.idfree]⟩
def Em.bool : Em Bool := ⟨PD.bool, fun h => by simpa using h, fun _ => by simp [PD.strip], fun _ => by simp [PD.idfree]⟩
def Em.text : Em (List UInt8) := ⟨PD.str, fun h => by simpa using h, fun _ => by simp [PD.strip], fun _ => by simp [PD.idfree]⟩
def Em.unit : Em Unit := ⟨fun _ => .tup [], fun _ => rfl, fun _ => by simp [PD.strip, PD.stripL], fun _ => by simp [PD.idfree, PD.idfreeL]⟩

/-- The size that a slice's datum bears. -/
def sz (k : Nat) (xs : List α) : Nat := if xs.length = 0 then 0 else k

@[simp] theorem sz_ok {k : Nat} {xs : List α} : (xs = [] ∨ k = sz k xs) = True := by
  cases xs <;> simp [sz]
@[simp] theorem sz_ok' {k : Nat} {xs : List α} : (xs = [] ∨ sz k xs = k) = True := by
  cases xs <;> simp [sz]
theorem sz_ne {k : Nat} {xs : List α} (h : xs ≠ []) : sz k xs = k := by
  cases xs <;> simp [sz] at *

theorem map_inj' {f : α → β} (hf : ∀ x y, f x = f y → x = y) : ∀ (xs ys : List α), xs.map f = ys.map f → xs = ys
  | [], [], _ => rfl
  | [], _ :: _, h => by simp at h
  | _ :: _, [], h => by simp at h
  | x :: xs, y :: ys, h => by
    simp only [List.map_cons, List.cons.injEq] at h
    rw [hf x y h.1, map_inj' hf xs ys h.2]

theorem sz_of {z k : Nat} {xs : List α} (h : xs = [] ∨ z = k) : sz z xs = sz k xs := by
  rcases h with rfl | rfl
  · rfl
  · rfl

def Em.list (e : Em α) (k : Nat) : Em (List α) where
  emb := fun xs => .slice (sz k xs) (xs.map e.emb) .any
  inj := fun {x y} h => by
    simp only [PD.slice.injEq, and_true] at h
    exact map_inj' (fun _ _ h => e.inj h) x y h.2
  str := fun xs => by
    rw [PD.strip_slice]
    have : (xs.map e.emb).map PD.strip = xs.map e.emb := by
      rw [List.map_map]
      exact List.map_congr_left fun x _ => e.str x
    rw [this]
    cases xs <;> simp [sz]
  fre := fun xs => by
    simp only [PD.idfree, PD.idfreeL_all, Bool.and_true, List.all_map]
    exact List.all_eq_true.2 fun x _ => e.fre x

def Em.tup2 (a : Em α) (b : Em β) : Em (α × β) where
  emb := fun x => .tup [a.emb x.1, b.emb x.2]
  inj := fun {x y} h => by
    simp only [PD.tup.injEq, List.cons.injEq, and_true] at h
    exact Prod.ext (a.inj h.1) (b.inj h.2)
  str := fun x => by simp [PD.strip, PD.stripL, a.str, b.str]
  fre := fun x => by simp [PD.idfree, PD.idfreeL, a.fre, b.fre]

def Em.tup3 (a : Em α) (b : Em β) (c : Em γ) : Em (α × β × γ) where
  emb := fun x => .tup [a.emb x.1, b.emb x.2.1, c.emb x.2.2]
  inj := fun {x y} h => by
    simp only [PD.tup.injEq, List.cons.injEq, and_true] at h
    exact Prod.ext (a.inj h.1) (Prod.ext (b.inj h.2.1) (c.inj h.2.2))
  str := fun x => by simp [PD.strip, PD.stripL, a.str, b.str, c.str]
  fre := fun x => by simp [PD.idfree, PD.idfreeL, a.fre, b.fre, c.fre]

def Em.tup4 (a : Em α) (b : Em β) (c : Em γ) (d : Em δ) : Em (α × β × γ × δ) where
  emb := fun x => .tup [a.emb x.1, b.emb x.2.1, c.emb x.2.2.1, d.emb x.2.2.2]
  inj := fun {x y} h => by
    simp only [PD.tup.injEq, List.cons.injEq, and_true] at h
    exact Prod.ext (a.inj h.1) (Prod.ext (b.inj h.2.1) (Prod.ext (c.inj h.2.2.1) (d.inj h.2.2.2)))
  str := fun x => by simp [PD.strip, PD.stripL, a.str, b.str, c.str, d.str]
  fre := fun x => by simp [PD.idfree, PD.idfreeL, a.fre, b.fre, c.fre, d.fre]

def EmC.one (e : Em α) : EmC α where
  cells := fun x => [e.emb x]
  len := 1
  hlen := fun _ => rfl
  inj := fun h => e.inj (by simpa using h)
  str := fun x => by simp [e.str]
  fre := fun x => by simp [e.fre]

def EmC.pair (a : EmC α) (b : EmC β) : EmC (α × β) where
  cells := fun x => a.cells x.1 ++ b.cells x.2
  len := a.len + b.len
  hlen := fun _ => by simp [a.hlen, b.hlen]
  inj := fun {x y} h => by
    have := List.append_inj h (by simp [a.hlen])
    exact Prod.ext (a.inj this.1) (b.inj this.2)
  str := fun _ => by simp only [List.map_append, a.str, b.str]
  fre := fun _ => by simp only [List.all_append, a.fre, b.fre, Bool.and_self]

def EmC.iso (a : EmC β) (f : α → β) (hf : ∀ x y, f x = f y → x = y) : EmC α where
  cells := fun x => a.cells (f x)
  len := a.len
  hlen := fun x => a.hlen _
  inj := fun h => hf _ _ (a.inj h)
  str := fun x => a.str _
  fre := fun x => a.fre _

def Em.agg (a : EmC α) : Em α where
  emb := fun x => .agg (a.cells x)
  inj := fun h => a.inj (by simpa using h)
  str := fun _ => by simp only [PD.strip, PD.stripL_map, a.str]
  fre := fun _ => by simp only [PD.idfree, PD.idfreeL_all, a.fre]

def Em.iso (a : Em β) (f : α → β) (hf : ∀ x y, f x = f y → x = y) : Em α where
  emb := fun x => a.emb (f x)
  inj := fun h => hf _ _ (a.inj h)
  str := fun x => a.str _
  fre := fun x => a.fre _

@[simp] theorem emb_int {k : IntKind} {n : Int} : (Em.int k).emb n = .int k n := rfl
@[simp] theorem emb_bool {b : Bool} : Em.bool.emb b = .bool b := rfl
@[simp] theorem emb_text {s : List UInt8} : Em.text.emb s = .str s := rfl
@[simp] theorem emb_unit {u : Unit} : Em.unit.emb u = .tup [] := rfl
@[simp] theorem emb_list {e : Em α} {k : Nat} {xs : List α} : (e.list k).emb xs = .slice (sz k xs) (xs.map e.emb) .any := rfl
@[simp] theorem emb_tup2 {a : Em α} {b : Em β} {x : α × β} : (a.tup2 b).emb x = .tup [a.emb x.1, b.emb x.2] := rfl
@[simp] theorem emb_tup3 {a : Em α} {b : Em β} {c : Em γ} {x : α × β × γ} : (a.tup3 b c).emb x = .tup [a.emb x.1, b.emb x.2.1, c.emb x.2.2] := rfl
@[simp] theorem emb_tup4 {a : Em α} {b : Em β} {c : Em γ} {d : Em δ} {x : α × β × γ × δ} : (a.tup4 b c d).emb x = .tup [a.emb x.1, b.emb x.2.1, c.emb x.2.2.1, d.emb x.2.2.2] := rfl

@[simp] theorem dec_int {k : IntKind} {n : Int} : (Em.int k).dec (.int k n) = some n := Em.dec_some (by simp [PD.strip])
@[simp] theorem dec_bool {b : Bool} : Em.bool.dec (.bool b) = some b := Em.dec_some (by simp [PD.strip])
@[simp] theorem dec_text {s : List UInt8} : Em.text.dec (.str s) = some s := Em.dec_some (by simp [PD.strip])

theorem dec_list {e : Em α} {k s : Nat} {xs : List α} {tok : Tok} (h : xs = [] ∨ s = k) : (e.list k).dec (.slice s (xs.map e.emb) tok) = some xs := by
  refine Em.dec_some ?_
  cases xs with
  | nil => simp [PD.strip_slice, sz]
  | cons x xs =>
    have h : s = k := by simpa using h
    subst h
    simp only [List.map_cons, PD.strip_slice, List.length_cons, Nat.add_one_ne_zero, if_false, e.str, List.map_map, emb_list, sz]
    congr 2
    exact List.map_congr_left fun x _ => e.str x
@[simp] theorem dec_list_sz {e : Em α} {k : Nat} {xs : List α} {tok : Tok} : (e.list k).dec (.slice (sz k xs) (xs.map e.emb) tok) = some xs := dec_list (by simp)
@[simp] theorem dec_list_k {e : Em α} {k : Nat} {xs : List α} {tok : Tok} : (e.list k).dec (.slice k (xs.map e.emb) tok) = some xs := dec_list (by simp)
@[simp] theorem dec_list_nil {e : Em α} {k s : Nat} {tok : Tok} : (e.list k).dec (.slice s [] tok) = some [] := dec_list (xs := []) (by simp)

/-! ### functions of the table -/
open Classical in
/-- The answer, where the condition holds. -/
noncomputable def gif (c : Prop) (x : Option α) : Option α := if c then x else none
@[simp] theorem gif_pos {c : Prop} {x : Option α} (h : c) : gif c x = x := if_pos h
theorem gif_some {c : Prop} {x : Option α} {y : α} (h : gif c x = some y) : c ∧ x = some y := by
  unfold gif at h
  split at h
  · exact ⟨‹_›, h⟩
  · cases h

noncomputable def gf0 (r : Em β) (F : Option β) : List PD → Option PD
  | [] => match F with | some z => some (r.emb z) | none => none
  | _ => none
noncomputable def gf1 (a : Em α) (r : Em β) (F : α → Option β) : List PD → Option PD
  | [p] => match a.dec p with
    | some x => match F x with | some z => some (r.emb z) | none => none
    | none => none
  | _ => none
noncomputable def gf2 (a : Em α) (b : Em β) (r : Em γ) (F : α → β → Option γ) : List PD → Option PD
  | [p, q] => match a.dec p, b.dec q with
    | some x, some y => match F x y with | some z => some (r.emb z) | none => none
    | _, _ => none
  | _ => none
noncomputable def gf3 (a : Em α) (b : Em β) (c : Em γ) (r : Em δ) (F : α → β → γ → Option δ) : List PD → Option PD
  | [p, q, s] => match a.dec p, b.dec q, c.dec s with
    | some x, some y, some u => match F x y u with | some z => some (r.emb z) | none => none
    | _, _, _ => none
  | _ => none

/-- As an entry of the table. -/
def entry (g : List PD → Option PD) : Nat → List PD → List SObj → Option (PD × List SObj) := fun _ args σ => match g args with | some p => some (p, σ) | none => none

variable {P : Program} {E : PExt} {f : FuncId}

/-- What is to be shown of a function: from an empty store, out of its body. -/
def Run (P : Program) (E : PExt) (f : FuncId) (args : List PD) (p : PD) : Prop := ∃ p1 σ1, EvC P E 0 (.inl f) args [] p1 σ1 ∧ p1.strip = p

theorem ExtOk.add0 (hE : ExtOk P E) (hP : P.follows .mixedOrders = true) {r : Em β} {F : Option β} (h : ∀ z, F = some z → Run P E f [] (r.emb z)) : ExtOk P (E.add f (entry (gf0 r F))) := by
  refine hE.addFree hP fun args p hg => ?_
  match args, hg with
  | [], hg =>
    cases F with
    | none => simp [gf0] at hg
    | some z =>
      simp only [gf0, Option.some.injEq] at hg; subst hg
      obtain ⟨p1, σ1, e1, e2⟩ := h z rfl
      exact ⟨p1, σ1, e1, e2, rfl, r.fre z⟩

theorem ExtOk.add1 (hE : ExtOk P E) (hP : P.follows .mixedOrders = true) {a : Em α} {r : Em β} {F : α → Option β} (h : ∀ x z, F x = some z → Run P E f [a.emb x] (r.emb z)) : ExtOk P (E.add f (entry (gf1 a r F))) := by
  refine hE.addFree hP fun args p hg => ?_
  match args, hg with
  | [q], hg =>
    simp only [gf1] at hg
    split at hg
    · rename_i x hx
      split at hg
      · rename_i z hz
        simp only [Option.some.injEq] at hg; subst hg
        obtain ⟨p1, σ1, e1, e2⟩ := h x z hz
        have := Em.of_dec hx
        exact ⟨p1, σ1, by simpa [this] using e1, e2, by simp [this, PD.idfreeL, a.fre], r.fre z⟩
      · cases hg
    · cases hg

theorem ExtOk.add2 (hE : ExtOk P E) (hP : P.follows .mixedOrders = true) {a : Em α} {b : Em β} {r : Em γ} {F : α → β → Option γ} (h : ∀ x y z, F x y = some z → Run P E f [a.emb x, b.emb y] (r.emb z)) :
    ExtOk P (E.add f (entry (gf2 a b r F))) := by
  refine hE.addFree hP fun args p hg => ?_
  match args, hg with
  | [q, s], hg =>
    simp only [gf2] at hg
    split at hg
    · rename_i x y hx hy
      split at hg
      · rename_i z hz
        simp only [Option.some.injEq] at hg; subst hg
        obtain ⟨p1, σ1, e1, e2⟩ := h x y z hz
        have h1 := Em.of_dec hx
        have h2 := Em.of_dec hy
        exact ⟨p1, σ1, by simpa [h1, h2] using e1, e2, by simp [h1, h2, PD.idfreeL, a.fre, b.fre], r.fre z⟩
      · cases hg
    · cases hg

theorem ExtOk.add3 (hE : ExtOk P E) (hP : P.follows .mixedOrders = true) {a : Em α} {b : Em β} {c : Em γ} {r : Em δ} {F : α → β → γ → Option δ}
    (h : ∀ x y u z, F x y u = some z → Run P E f [a.emb x, b.emb y, c.emb u] (r.emb z)) : ExtOk P (E.add f (entry (gf3 a b c r F))) := by
  refine hE.addFree hP fun args p hg => ?_
  match args, hg with
  | [q, s, t], hg =>
    simp only [gf3] at hg
    split at hg
    · rename_i x y u hx hy hu
      split at hg
      · rename_i z hz
        simp only [Option.some.injEq] at hg; subst hg
        obtain ⟨p1, σ1, e1, e2⟩ := h x y u z hz
        have h1 := Em.of_dec hx
        have h2 := Em.of_dec hy
        have h3 := Em.of_dec hu
        exact ⟨p1, σ1, by simpa [h1, h2, h3] using e1, e2, by simp [h1, h2, h3, PD.idfreeL, a.fre, b.fre, c.fre], r.fre z⟩
      · cases hg
    · cases hg

theorem Run.of {args : List PD} {p1 : PD} {σ1 : List SObj} (h : EvC P E 0 (.inl f) args [] p1 σ1) : Run P E f args p1.strip := ⟨p1, σ1, h, rfl⟩

end
end Go.Kz
