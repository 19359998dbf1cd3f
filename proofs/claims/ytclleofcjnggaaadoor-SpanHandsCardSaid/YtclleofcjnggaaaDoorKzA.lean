/-
  Pure data for the model's values, and when a value in a world stands for such data.
-/
import Derived.Test.YtclleofcjnggaaaDoorKz0
import Derived.Maps.AppendAt
import Derived.CallsIn
set_option linter.all false
namespace Go.Kz
open Go.RowKit

/-- What is known of the room behind a slice: nothing; none at all; it is the newest end of the row with this number. -/
inductive Tok where
  | any
  | full
  | own (id : Nat)

inductive PD where
  | bool (b : Bool)
  | int (k : IntKind) (n : Int)
  | str (s : List UInt8)
  | agg (cs : List PD)
  | slice (size : Nat) (xs : List PD) (tok : Tok)
  | ptr (id off : Nat)
  | eptr (cs : List PD) (off : Nat)
  | nilptr
  | func (f : Nat) (cap : List PD)
  | yield (id : Nat)
  | nilfunc
  | tup (vs : List PD)

instance : Inhabited PD := ⟨.tup []⟩

def PD.cells : PD → List PD
  | .agg cs => cs
  | p => [p]

/-- Where a range over a function stands: between two rounds; in a round; left by a jump. -/
inductive LSt where
  | ready
  | busy
  | done (jump : Code)

/-- The objects of the pure store. -/
inductive SObj where
  | none
  | box (p : PD)
  | own (e : TypeId) (size n : Nat)
  | mark
  | loop (st : LSt) (fr : List PD) (ps : List Tmp) (assign body : Code)

def LSt.fits (r : Loop) : LSt → Prop
  | .ready => r.state = .ready ∧ r.pending = none
  | .busy => r.state = .busy
  | .done j => r.state = .done ∧ r.pending = some j

def notOwn : Option SObj → Prop
  | some (.own _ _ _) => False
  | _ => True

def blk : Value → Option Nat
  | .pointer (some a) => some a.block
  | .slice (some a) _ _ => some a.block
  | _ => none

/-- The cell does not lie where the object may be written. -/
def SObj.avoids (v : Value) (a : Addr) : SObj → Prop
  | .none => True
  | .box _ => ∀ b, blk v = some b → a.block ≠ b
  | .own _ size n => ∀ b, blk v = some b → a.block = b → a.off < n * size
  | .mark => True
  | .loop _ _ _ _ _ => True

/-- A world, and how the pure store lies in it. -/
structure Cx where
  w : World
  ρ : Nat → Value
  σ : List SObj
  D : Nat → Prop
  X : Addr → Prop

def Cx.av (c : Cx) (a : Addr) : Prop := c.X a ∧ ∀ id o, c.D id → c.σ[id]? = some o → o.avoids (c.ρ id) a

def TokR (c : Cx) (size n cap : Nat) (v : Value) : Tok → Prop
  | .any => True
  | .full => n = cap
  | .own id => c.D id ∧ ∃ e m, c.σ[id]? = some (.own e size m) ∧ n ≤ m ∧ (n = m → c.ρ id = v)

inductive VR (c : Cx) : Value → PD → Prop where
  | bool (b : Bool) : VR c (.bool b) (.bool b)
  | int (k : IntKind) (n : Int) : VR c (.int k n) (.int k n)
  | str (s : List UInt8) : VR c (.string ⟨s.toArray⟩) (.str s)
  | agg (cs : List Value) (ds : List PD) : cs.length = ds.length → (∀ v ∈ cs, v.oneCell' = true) →
      (∀ (i : Nat) (v : Value) (d : PD), cs[i]? = some v → ds[i]? = some d → VR c v d) → VR c (.agg cs.toArray) (.agg ds)
  | slice (A : Option Addr) (n cap size : Nat) (xs : List PD) (tok : Tok) (fl : List Value) :
      n = xs.length → n ≤ cap → cap ≤ maxLen → (∀ x ∈ xs, x.cells.length = size) → fl.length = n * size → (∀ v ∈ fl, v.oneCell' = true) →
      (∀ (j : Nat) (v : Value), fl[j]? = some v → ∃ ad, A = some ad ∧ c.w.cell? (ad.add j) = some v ∧ c.av (ad.add j)) →
      (∀ (j : Nat) (v : Value) (d : PD), fl[j]? = some v → (xs.flatMap PD.cells)[j]? = some d → VR c v d) →
      TokR c size n cap (.slice A n cap) tok → VR c (.slice A n cap) (.slice size xs tok)
  | ptr (id off b : Nat) : c.D id → (∃ p, c.σ[id]? = some (.box p)) → c.ρ id = .pointer (some ⟨b, 0, none⟩) → VR c (.pointer (some ⟨b, off, none⟩)) (.ptr id off)
  | eptr (ad : Addr) (fl : List Value) (ds : List PD) (off : Nat) : fl.length = ds.length → (∀ v ∈ fl, v.oneCell' = true) →
      (∀ (j : Nat) (v : Value), fl[j]? = some v → c.w.cell? (ad.add j) = some v ∧ c.av (ad.add j)) →
      (∀ (j : Nat) (v : Value) (d : PD), fl[j]? = some v → ds[j]? = some d → VR c v d) → VR c (.pointer (some (ad.add off))) (.eptr ds off)
  | nilptr : VR c (.pointer none) .nilptr
  | func (f : Nat) (cs : List Value) (ds : List PD) : cs.length = ds.length →
      (∀ (i : Nat) (v : Value) (d : PD), cs[i]? = some v → ds[i]? = some d → VR c v d) → VR c (.func (.func f) #[] cs.toArray) (.func f ds)
  | nilfunc : VR c .nilFunc .nilfunc
  | yield (id l : Nat) : c.D id → notOwn c.σ[id]? → c.ρ id = .pointer (some ⟨l, 0, none⟩) → VR c (.func (.yield l) #[] #[]) (.yield id)
  | tup (cs : List Value) (ds : List PD) : cs.length = ds.length →
      (∀ (i : Nat) (v : Value) (d : PD), cs[i]? = some v → ds[i]? = some d → VR c v d) → VR c (.tuple cs.toArray) (.tup ds)

/-- Two lists, place by place. -/
def VRs (c : Cx) (cs : List Value) (ds : List PD) : Prop := cs.length = ds.length ∧ ∀ (i : Nat) (v : Value) (d : PD), cs[i]? = some v → ds[i]? = some d → VR c v d

/-- The cells of a plain table. -/
def gcells (g : Nat) : Option (List PD) := match gtab g with
  | some (k, xs) => some (xs.map (PD.int k))
  | none => none

/-- The plain tables lie in the world. -/
def Gl (c : Cx) : Prop := ∀ g ds, gcells g = some ds → VR c (.pointer (some ⟨g, 0, none⟩)) (.eptr ds 0)

/-- The world bears the store. -/
structure Sr (c : Cx) : Prop where
  box : ∀ id p, c.D id → c.σ[id]? = some (.box p) → ∃ b cs T, c.ρ id = .pointer (some ⟨b, 0, none⟩) ∧ c.w.heap[b]? = some (.cells cs T (0, 0)) ∧
    VRs c cs.toList p.cells ∧ (∀ v ∈ cs.toList, v.oneCell' = true)
  own : ∀ id e size n, c.D id → c.σ[id]? = some (.own e size n) → ∃ xs, c.w.ownsRow 0 e size (c.ρ id) n xs
  mark : ∀ id, c.D id → c.σ[id]? = some .mark → ∃ b, c.ρ id = .pointer (some ⟨b, 0, none⟩) ∧ c.w.heap[b]? = some (.deferred (some []))
  loop : ∀ id st fr ps assign body, c.D id → c.σ[id]? = some (.loop st fr ps assign body) → ∃ b r, c.ρ id = .pointer (some ⟨b, 0, none⟩) ∧ c.w.heap[b]? = some (.loop r) ∧
    r.params = ps.toArray ∧ r.assign = assign ∧ r.body = body ∧ VRs c r.tmps.toList fr ∧ st.fits r
  inj : ∀ id id' b, c.D id → c.D id' → id ≠ id' → blk (c.ρ id) = some b → blk (c.ρ id') ≠ some b
  lt : ∀ id b, c.D id → blk (c.ρ id) = some b → b < c.w.heap.size
  dom : ∀ id, c.D id → id < c.σ.length
  fresh : ∀ a : Addr, c.w.heap.size ≤ a.block → c.X a
  glob : Gl c

/-- From one state to a later one: what was there still stands. 'fl': store objects below it are not written. -/
structure Nx (fl : Nat) (c c' : Cx) : Prop where
  X : c'.X = c.X
  os : c'.w.os = c.w.os
  tape : c'.w.tape = c.w.tape
  output : c'.w.output = c.w.output
  size : c.w.heap.size ≤ c'.w.heap.size
  len : c.σ.length ≤ c'.σ.length
  cell : ∀ a v, c.av a → c.w.cell? a = some v → c'.av a ∧ c'.w.cell? a = some v
  dom : ∀ id, c.D id → c'.D id
  new : ∀ id, c'.D id → c.D id ∨ c.σ.length ≤ id
  rbox : ∀ id p, c.D id → c.σ[id]? = some (.box p) → c'.ρ id = c.ρ id ∧ ∃ p', c'.σ[id]? = some (.box p')
  rkeep : ∀ id, c.D id → notOwn c.σ[id]? → c'.ρ id = c.ρ id ∧ notOwn c'.σ[id]?
  rown : ∀ id e s n, c.D id → c.σ[id]? = some (.own e s n) → ∃ n', c'.σ[id]? = some (.own e s n') ∧ n ≤ n' ∧ (n' = n → c'.ρ id = c.ρ id)
  back : ∀ id b, c'.D id → blk (c'.ρ id) = some b → b < c.w.heap.size → c.D id ∧ blk (c.ρ id) = some b
  frame : ∀ k, k < c.w.heap.size → (∀ id, c.D id → fl ≤ id → blk (c.ρ id) ≠ some k) → c'.w.heap[k]? = c.w.heap[k]?
  ro : ∀ id, id < fl → id < c.σ.length → c'.σ[id]? = c.σ[id]?
  hole : ∀ id, id < c.σ.length → ¬ c.D id → c'.σ[id]? = c.σ[id]?

theorem Nx.refl (fl : Nat) (c : Cx) : Nx fl c c :=
  ⟨rfl, rfl, rfl, rfl, Nat.le_refl _, Nat.le_refl _, fun _ _ h h' => ⟨h, h'⟩, fun _ h => h, fun _ h => .inl h, fun _ p _ h => ⟨rfl, p, h⟩, fun _ _ h => ⟨rfl, h⟩,
   fun _ _ _ n _ h => ⟨n, h, Nat.le_refl _, fun _ => rfl⟩, fun _ _ h h' _ => ⟨h, h'⟩, fun _ _ _ => rfl, fun _ _ _ => rfl, fun _ _ _ => rfl⟩

theorem Nx.trans {fl : Nat} {a b c : Cx} (h : Nx fl a b) (k : Nx fl b c) : Nx fl a c where
  X := k.X.trans h.X
  os := k.os.trans h.os
  tape := k.tape.trans h.tape
  output := k.output.trans h.output
  size := Nat.le_trans h.size k.size
  len := Nat.le_trans h.len k.len
  cell := fun x v h1 h2 => let ⟨q1, q2⟩ := h.cell x v h1 h2; k.cell x v q1 q2
  dom := fun id hd => k.dom id (h.dom id hd)
  new := fun id hd => (k.new id hd).elim (fun q => h.new id q) (fun q => .inr (Nat.le_trans h.len q))
  rbox := fun id p hd hs => by
    obtain ⟨e1, p', hs'⟩ := h.rbox id p hd hs
    obtain ⟨e2, p'', hs''⟩ := k.rbox id p' (h.dom id hd) hs'
    exact ⟨e2.trans e1, p'', hs''⟩
  rkeep := fun id hd hn => by
    obtain ⟨e1, hn'⟩ := h.rkeep id hd hn
    obtain ⟨e2, hn''⟩ := k.rkeep id (h.dom id hd) hn'
    exact ⟨e2.trans e1, hn''⟩
  rown := fun id e s n hd hs => by
    obtain ⟨n', hs', hle, he⟩ := h.rown id e s n hd hs
    obtain ⟨n'', hs'', hle', he'⟩ := k.rown id e s n' (h.dom id hd) hs'
    exact ⟨n'', hs'', Nat.le_trans hle hle', fun heq => (he' (by omega)).trans (he (by omega))⟩
  back := fun id bk hd hb hlt => by
    obtain ⟨q1, q2⟩ := k.back id bk hd hb (Nat.lt_of_lt_of_le hlt h.size)
    exact h.back id bk q1 q2 hlt
  frame := fun n hn hx => by
    rw [k.frame n (Nat.lt_of_lt_of_le hn h.size) (fun id hd hfl hb => ?_)]
    · exact h.frame n hn hx
    · obtain ⟨q1, q2⟩ := h.back id n hd hb hn
      exact hx id q1 hfl q2
  ro := fun id hlt hl => (k.ro id hlt (Nat.lt_of_lt_of_le hl h.len)).trans (h.ro id hlt hl)
  hole := fun id hl hd => (k.hole id (Nat.lt_of_lt_of_le hl h.len) (fun hb => (h.new id hb).elim hd (fun q => by omega))).trans (h.hole id hl hd)

theorem Nx.weaken {fl fl' : Nat} {a b : Cx} (h : Nx fl a b) (hle : fl' ≤ fl) : Nx fl' a b :=
  { h with frame := fun k hk hx => h.frame k hk (fun id hd hf => hx id hd (Nat.le_trans hle hf)), ro := fun id hlt hl => h.ro id (Nat.lt_of_lt_of_le hlt hle) hl }

/-- What a value needs to go on standing for its datum. -/
structure Nv (c c' : Cx) : Prop where
  cell : ∀ a v, c.av a → c.w.cell? a = some v → c'.av a ∧ c'.w.cell? a = some v
  dom : ∀ id, c.D id → c'.D id
  rbox : ∀ id p, c.D id → c.σ[id]? = some (.box p) → c'.ρ id = c.ρ id ∧ ∃ p', c'.σ[id]? = some (.box p')
  rkeep : ∀ id, c.D id → notOwn c.σ[id]? → c'.ρ id = c.ρ id ∧ notOwn c'.σ[id]?
  rown : ∀ id e s n, c.D id → c.σ[id]? = some (.own e s n) → ∃ n', c'.σ[id]? = some (.own e s n') ∧ n ≤ n' ∧ (n' = n → c'.ρ id = c.ρ id)

theorem Nx.toV {fl : Nat} {c c' : Cx} (h : Nx fl c c') : Nv c c' := ⟨h.cell, h.dom, h.rbox, h.rkeep, h.rown⟩

theorem TokR.monoV {c c' : Cx} (h : Nv c c') {size n cap : Nat} {v : Value} {t : Tok} (ht : TokR c size n cap v t) : TokR c' size n cap v t := by
  cases t with
  | any => trivial
  | full => exact ht
  | own id =>
    obtain ⟨hd, e, m, hs, hle, he⟩ := ht
    obtain ⟨m', hs', hle', he'⟩ := h.rown id e size m hd hs
    exact ⟨h.dom id hd, e, m', hs', Nat.le_trans hle hle', fun heq => (he' (by omega)).trans (he (by omega))⟩

theorem VR.monoV {c c' : Cx} (h : Nv c c') {v : Value} {p : PD} (hv : VR c v p) : VR c' v p := by
  induction hv with
  | bool b => exact .bool b
  | int k n => exact .int k n
  | str s => exact .str s
  | agg cs ds hl h1 _ ih => exact .agg cs ds hl h1 ih
  | slice A n cap size xs tok fl' hn hc hm hx hf h1 hcell _ ht ih =>
    refine .slice A n cap size xs tok fl' hn hc hm hx hf h1 (fun j v hj => ?_) ih (ht.monoV h)
    obtain ⟨ad, e, h2, h3⟩ := hcell j v hj
    obtain ⟨q1, q2⟩ := h.cell _ _ h3 h2
    exact ⟨ad, e, q2, q1⟩
  | ptr id off b hd hs hr =>
    obtain ⟨p, hs⟩ := hs
    obtain ⟨e, p', hs'⟩ := h.rbox id p hd hs
    exact .ptr id off b (h.dom id hd) ⟨p', hs'⟩ (e.trans hr)
  | eptr ad fl' ds off hl h1 hcell _ ih =>
    refine .eptr ad fl' ds off hl h1 (fun j v hj => ?_) ih
    obtain ⟨h2, h3⟩ := hcell j v hj
    obtain ⟨q1, q2⟩ := h.cell _ _ h3 h2
    exact ⟨q2, q1⟩
  | nilptr => exact .nilptr
  | func f cs ds hl _ ih => exact .func f cs ds hl ih
  | nilfunc => exact .nilfunc
  | yield id l hd hn hr =>
    obtain ⟨e, hn'⟩ := h.rkeep id hd hn
    exact .yield id l (h.dom id hd) hn' (e.trans hr)
  | tup cs ds hl _ ih => exact .tup cs ds hl ih

theorem TokR.mono {fl : Nat} {c c' : Cx} (h : Nx fl c c') {size n cap : Nat} {v : Value} {t : Tok} (ht : TokR c size n cap v t) : TokR c' size n cap v t := ht.monoV h.toV

theorem VR.mono {fl : Nat} {c c' : Cx} (h : Nx fl c c') {v : Value} {p : PD} (hv : VR c v p) : VR c' v p := hv.monoV h.toV

theorem VRs.monoV {c c' : Cx} (h : Nv c c') {cs : List Value} {ds : List PD} (hv : VRs c cs ds) : VRs c' cs ds :=
  ⟨hv.1, fun i v d h1 h2 => (hv.2 i v d h1 h2).monoV h⟩

theorem Gl.monoV {c c' : Cx} (h : Nv c c') (hg : Gl c) : Gl c' := fun g ds e => (hg g ds e).monoV h

theorem Gl.mono {fl : Nat} {c c' : Cx} (h : Nx fl c c') (hg : Gl c) : Gl c' := hg.monoV h.toV

theorem VRs.mono {fl : Nat} {c c' : Cx} (h : Nx fl c c') {cs : List Value} {ds : List PD} (hv : VRs c cs ds) : VRs c' cs ds :=
  ⟨hv.1, fun i v d h1 h2 => (hv.2 i v d h1 h2).mono h⟩

/-! ### what is forgotten of a datum -/
mutual
/-- Nothing is kept of the room behind slices. -/
def PD.strip : PD → PD
  | .agg cs => .agg (PD.stripL cs)
  | .slice _ [] _ => .slice 0 [] .any
  | .slice n (x :: xs) _ => .slice n (x.strip :: PD.stripL xs) .any
  | .tup vs => .tup (PD.stripL vs)
  | p => p
def PD.stripL : List PD → List PD
  | [] => []
  | x :: xs => x.strip :: PD.stripL xs
end

mutual
/-- Names no object of the store. -/
def PD.idfree : PD → Bool
  | .agg cs => PD.idfreeL cs
  | .slice _ xs tok => PD.idfreeL xs && (match tok with | .own _ => false | _ => true)
  | .tup vs => PD.idfreeL vs
  | .eptr cs _ => PD.idfreeL cs
  | .func _ cap => PD.idfreeL cap
  | .ptr _ _ => false
  | .yield _ => false
  | _ => true
def PD.idfreeL : List PD → Bool
  | [] => true
  | x :: xs => x.idfree && PD.idfreeL xs
end

theorem PD.stripL_map : ∀ xs : List PD, PD.stripL xs = xs.map PD.strip
  | [] => by simp [PD.stripL]
  | x :: xs => by simp [PD.stripL, PD.stripL_map xs]

theorem PD.idfreeL_all : ∀ xs : List PD, PD.idfreeL xs = xs.all PD.idfree
  | [] => by simp [PD.idfreeL]
  | x :: xs => by simp [PD.idfreeL, PD.idfreeL_all xs]

theorem PD.strip_cells (p : PD) : p.strip.cells = p.cells.map PD.strip := by
  cases p with
  | slice n xs tok => cases xs <;> simp [PD.strip, PD.cells]
  | _ => simp [PD.strip, PD.cells, PD.stripL_map]

theorem PD.strip_slice (n : Nat) (xs : List PD) (tok : Tok) : PD.strip (.slice n xs tok) = .slice (if xs.length = 0 then 0 else n) (xs.map PD.strip) .any := by
  cases xs <;> simp [PD.strip, PD.stripL_map]

theorem VR.strip {c : Cx} {v : Value} {p : PD} (hv : VR c v p) : VR c v p.strip := by
  induction hv with
  | bool b => simp only [PD.strip]; exact .bool b
  | int k n => simp only [PD.strip]; exact .int k n
  | str s => simp only [PD.strip]; exact .str s
  | agg cs ds hl h1 _ ih =>
    simp only [PD.strip, PD.stripL_map]
    refine .agg cs _ (by simpa using hl) h1 (fun i v d hv hd => ?_)
    rw [List.getElem?_map] at hd
    cases hx : ds[i]? with
    | none => rw [hx] at hd; simp at hd
    | some x =>
      rw [hx] at hd; simp only [Option.map_some, Option.some.injEq] at hd; subst hd
      exact ih i v x hv hx
  | slice A n cap size xs tok fl hn hc hm hx hf h1 hcell _ ht ih =>
    rw [PD.strip_slice]
    refine .slice A n cap _ _ .any fl (by simpa using hn) hc hm ?_ ?_ h1 hcell (fun j v d hv hd => ?_) trivial
    · intro x hxm
      obtain ⟨y, hy, rfl⟩ := List.mem_map.1 hxm
      rw [PD.strip_cells, List.length_map, hx y hy]
      have : xs.length ≠ 0 := fun e => by rw [List.eq_nil_of_length_eq_zero e] at hy; cases hy
      rw [if_neg this]
    · rw [hf, hn]
      split
      · rename_i h0; rw [h0]; simp
      · rfl
    · rw [List.flatMap_map] at hd
      have e : (xs.flatMap fun a => (PD.strip a).cells) = (xs.flatMap PD.cells).map PD.strip := by
        rw [List.map_flatMap]
        exact congrArg (fun f => xs.flatMap f) (funext PD.strip_cells)
      rw [e, List.getElem?_map] at hd
      cases hx : (xs.flatMap PD.cells)[j]? with
      | none => rw [hx] at hd; simp at hd
      | some x =>
        rw [hx] at hd; simp only [Option.map_some, Option.some.injEq] at hd; subst hd
        exact ih j v x hv hx
  | ptr id off b hd hs hr => simp only [PD.strip]; exact .ptr id off b hd hs hr
  | eptr ad fl ds off hl h1 hcell h2 _ => simp only [PD.strip]; exact .eptr ad fl ds off hl h1 hcell h2
  | nilptr => simp only [PD.strip]; exact .nilptr
  | func f cs ds hl h _ => simp only [PD.strip]; exact .func f cs ds hl h
  | nilfunc => simp only [PD.strip]; exact .nilfunc
  | yield id l hd hn hr => simp only [PD.strip]; exact .yield id l hd hn hr
  | tup cs ds hl _ ih =>
    simp only [PD.strip, PD.stripL_map]
    refine .tup cs _ (by simpa using hl) (fun i v d hv hd => ?_)
    rw [List.getElem?_map] at hd
    cases hx : ds[i]? with
    | none => rw [hx] at hd; simp at hd
    | some x =>
      rw [hx] at hd; simp only [Option.map_some, Option.some.injEq] at hd; subst hd
      exact ih i v x hv hx

/-- What names no object stands in every context where the cells stand. -/
theorem VR.free {c c' : Cx} (hcell : ∀ a v, c.av a → c.w.cell? a = some v → c'.av a ∧ c'.w.cell? a = some v) {v : Value} {p : PD} (hv : VR c v p) : p.idfree = true → VR c' v p := by
  have at_ : ∀ {ds : List PD} {i : Nat} {d : PD}, PD.idfreeL ds = true → ds[i]? = some d → d.idfree = true := by
    intro ds i d h hd
    rw [PD.idfreeL_all] at h
    exact List.all_eq_true.1 h d (List.mem_of_getElem? hd)
  induction hv with
  | bool b => intro _; exact .bool b
  | int k n => intro _; exact .int k n
  | str s => intro _; exact .str s
  | agg cs ds hl h1 _ ih =>
    intro hp
    simp only [PD.idfree] at hp
    exact .agg cs ds hl h1 (fun i v d hv hd => ih i v d hv hd (at_ hp hd))
  | slice A n cap size xs tok fl' hn hc hm hx hf h1 hcl _ ht ih =>
    intro hp
    simp only [PD.idfree, Bool.and_eq_true] at hp
    refine .slice A n cap size xs tok fl' hn hc hm hx hf h1 (fun j v hj => ?_) (fun j v d hv hd => ih j v d hv hd ?_) ?_
    · obtain ⟨ad, e, h2, h3⟩ := hcl j v hj
      obtain ⟨q1, q2⟩ := hcell _ _ h3 h2
      exact ⟨ad, e, q2, q1⟩
    · obtain ⟨x, hxm, hdm⟩ := List.mem_flatMap.1 (List.mem_of_getElem? hd)
      have hxf : x.idfree = true := by
        have := hp.1
        rw [PD.idfreeL_all] at this
        exact List.all_eq_true.1 this x hxm
      cases x with
      | agg cs =>
        simp only [PD.cells] at hdm
        simp only [PD.idfree, PD.idfreeL_all] at hxf
        exact List.all_eq_true.1 hxf d hdm
      | _ => simp only [PD.cells, List.mem_singleton] at hdm; rw [hdm]; exact hxf
    · cases tok with
      | any => trivial
      | full => exact ht
      | own id => simp at hp
  | ptr id off b hd hs hr => intro hp; simp [PD.idfree] at hp
  | eptr ad fl' ds off hl h1 hcl _ ih =>
    intro hp
    simp only [PD.idfree] at hp
    refine .eptr ad fl' ds off hl h1 (fun j v hj => ?_) (fun j v d hv hd => ih j v d hv hd (at_ hp hd))
    obtain ⟨h2, h3⟩ := hcl j v hj
    obtain ⟨q1, q2⟩ := hcell _ _ h3 h2
    exact ⟨q2, q1⟩
  | nilptr => intro _; exact .nilptr
  | func f cs ds hl _ ih =>
    intro hp
    simp only [PD.idfree] at hp
    exact .func f cs ds hl (fun i v d hv hd => ih i v d hv hd (at_ hp hd))
  | nilfunc => intro _; exact .nilfunc
  | yield id l hd hn hr => intro hp; simp [PD.idfree] at hp
  | tup cs ds hl _ ih =>
    intro hp
    simp only [PD.idfree] at hp
    exact .tup cs ds hl (fun i v d hv hd => ih i v d hv hd (at_ hp hd))

theorem VRs.strip {c : Cx} {cs : List Value} {ds : List PD} (hv : VRs c cs ds) : VRs c cs (ds.map PD.strip) :=
  ⟨by simpa using hv.1, fun i v d h1 h2 => by
    rw [List.getElem?_map] at h2
    cases hx : ds[i]? with
    | none => rw [hx] at h2; simp at h2
    | some x =>
      rw [hx] at h2; simp only [Option.map_some, Option.some.injEq] at h2; subst h2
      exact (hv.2 i v x h1 hx).strip⟩

theorem VRs.free {c c' : Cx} (hcell : ∀ a v, c.av a → c.w.cell? a = some v → c'.av a ∧ c'.w.cell? a = some v) {cs : List Value} {ds : List PD} (hv : VRs c cs ds) (h : PD.idfreeL ds = true) : VRs c' cs ds :=
  ⟨hv.1, fun i v d h1 h2 => (hv.2 i v d h1 h2).free hcell (by
    rw [PD.idfreeL_all] at h
    exact List.all_eq_true.1 h d (List.mem_of_getElem? h2))⟩

end Go.Kz
