/-
  LexerReads holds: the law answers true, whatever it is handed.
-/
import Derived.Test.YtngmkfjeekpnpaaDoorP8
import Derived.Test.YtngmkfjeekpnpaaDoorP6
import Derived.Test.YtngmkfjeekpnpaaDoorP3
set_option linter.all false

/-
  Layer 19: readers: Clone, Read, Next, At, Left, and what is asked of a token.
-/
namespace Go.Kz
open Go Go.Proofs

/-- A reader of tokens, some of them taken: nil, or in a box. -/
def Rd (σ : List SObj) (r : PD) (l : List Tk) (n : Nat) : Prop := (r = .nilptr ∧ l = [] ∧ n = 0) ∨ ∃ id, r = .ptr id 0 ∧ σ[id]? = some (.box (.agg [tks.emb l, .int .i64 n]))
theorem Rd.uniq {σ : List SObj} {r : PD} {l l' : List Tk} {n n' : Nat} (h : Rd σ r l n) (h' : Rd σ r l' n') : l = l' ∧ n = n' := by
  rcases h with ⟨rfl, rfl, rfl⟩ | ⟨id, rfl, h⟩
  · rcases h' with ⟨_, rfl, rfl⟩ | ⟨id', e, _⟩
    · exact ⟨rfl, rfl⟩
    · cases e
  · rcases h' with ⟨e, _⟩ | ⟨id', e, h'⟩
    · cases e
    · cases e
      rw [h] at h'
      simp only [Option.some.injEq, SObj.box.injEq, PD.agg.injEq, List.cons.injEq, PD.int.injEq, true_and, and_true] at h'
      exact ⟨tks.inj h'.1, by omega⟩
/-- What stands in boxes stays, but for the reader. -/
def KpR (r : PD) (σ σ' : List SObj) : Prop := ∀ (j : Nat) (q : PD), r ≠ .ptr j 0 → σ[j]? = some (.box q) → σ'[j]? = some (.box q)
theorem KpR.rfl' {r : PD} {σ : List SObj} : KpR r σ σ := fun _ _ _ h => h
theorem KpR.trans {r : PD} {a b c : List SObj} (h : KpR r a b) (k : KpR r b c) : KpR r a c := fun j q hj h1 => k j q hj (h j q hj h1)
theorem KpR.more {r : PD} {σ τ : List SObj} : KpR r σ (σ ++ τ) := fun j q _ h => by rw [List.getElem?_append_left (List.getElem?_eq_some_iff.1 h).1]; exact h
theorem KpR.set {id : Nat} {σ : List SObj} {x : SObj} : KpR (.ptr id 0) σ (σ.set id x) := fun j q hj h => by rw [List.getElem?_set_ne (fun e => hj (by rw [e]))]; exact h

def nextS (l : List Tk) (n : Nat) : Tk × Bool := match l[n]? with | some t => (t, true) | none => (noTk, false)
def posS (l : List Tk) (n : Nat) : Int × Int := match l[min n (l.length - 1)]? with | some t => (t.line, t.col) | none => (0, 0)

noncomputable def gNext : List PD → Option PD
  | [.eptr [s, .int .i64 n] 0] => (match tks.dec s with | some l => gif (s = tks.emb l ∧ 0 ≤ n ∧ n ≤ l.length ∧ l.length ≤ 100000) (some ((Em.tk.tup2 .bool).emb (nextS l n.toNat))) | none => none)
  | [.nilptr] => some ((Em.tk.tup2 .bool).emb (noTk, false))
  | _ => none
noncomputable def gAt : List PD → Option PD
  | [.eptr [s, .int .i64 n] 0] => (match tks.dec s with | some l => gif (s = tks.emb l ∧ 0 ≤ n ∧ n ≤ l.length ∧ l.length ≤ 100000) (some (Em.pos.emb (posS l n.toNat))) | none => none)
  | [.nilptr] => some (Em.pos.emb (0, 0))
  | _ => none
noncomputable def gLeft : List PD → Option PD
  | [.eptr [s, .int .i64 n] 0] => (match tks.dec s with | some l => gif (s = tks.emb l ∧ 0 ≤ n ∧ n ≤ l.length ∧ l.length ≤ 100000) (some (.int .i64 ((l.length : Int) - n))) | none => none)
  | [.nilptr] => some (.int .i64 0)
  | _ => none

theorem read_args {σ : List SObj} {id : Nat} {l : List Tk} {n : Nat} (h : σ[id]? = some (.box (.agg [tks.emb l, .int .i64 n]))) : preadArgs σ [.ptr id 0] = some [.eptr [tks.emb l, .int .i64 n] 0] := by
  simp only [preadArgs, preadArg, h, PD.cells, List.map_cons, List.map_nil, tks.str]
  rfl
theorem next_at {σ : List SObj} {r : PD} {l : List Tk} {n : Nat} (h : Rd σ r l n) (hn : n ≤ l.length) (hl : l.length ≤ 100000) (fl : Nat) : rentry gNext fl [r] σ = some ((Em.tk.tup2 .bool).emb (nextS l n), σ) := by
  rcases h with ⟨rfl, rfl, rfl⟩ | ⟨id, rfl, h⟩
  · rfl
  · simp only [rentry, read_args h, gNext, Em.dec_emb]
    rw [gif_pos ⟨trivial, by omega, by omega, hl⟩, Int.toNat_natCast]
theorem at_at {σ : List SObj} {r : PD} {l : List Tk} {n : Nat} (h : Rd σ r l n) (hn : n ≤ l.length) (hl : l.length ≤ 100000) (fl : Nat) : rentry gAt fl [r] σ = some (Em.pos.emb (posS l n), σ) := by
  rcases h with ⟨rfl, rfl, rfl⟩ | ⟨id, rfl, h⟩
  · rfl
  · simp only [rentry, read_args h, gAt, Em.dec_emb]
    rw [gif_pos ⟨trivial, by omega, by omega, hl⟩, Int.toNat_natCast]
theorem left_at {σ : List SObj} {r : PD} {l : List Tk} {n : Nat} (h : Rd σ r l n) (hn : n ≤ l.length) (hl : l.length ≤ 100000) (fl : Nat) : rentry gLeft fl [r] σ = some (.int .i64 ((l.length : Int) - n), σ) := by
  rcases h with ⟨rfl, rfl, rfl⟩ | ⟨id, rfl, h⟩
  · rfl
  · simp only [rentry, read_args h, gLeft, Em.dec_emb]
    rw [gif_pos ⟨trivial, by omega, by omega, hl⟩]

@[simp] theorem rd_nil1 {cs : List PD} {off : Nat} : pbin Tryd.prog .eql 47 (.eptr cs off) .nilptr = some (.bool false) := by
  unfold pbin peq peqIn
  simp only [Tryd.underlying47]
@[simp] theorem rd_nil2 : pbin Tryd.prog .eql 47 .nilptr .nilptr = some (.bool true) := by
  unfold pbin peq peqIn
  simp only [Tryd.underlying47]

/-! ### what is asked of a token -/
def isWord (k : Int) (w : List UInt8) (t : Tk) : Bool := decide (t.kind = k) && decide (t.text = w)
noncomputable def gTake1 : List PD → Option PD
  | [x, .eptr [.int .i64 k] 0] => (match Em.tk.dec x with | some t => gif (x = Em.tk.emb t) (some (.bool (decide (t.kind = k)))) | none => none)
  | _ => none
noncomputable def gWord1 (a : Int) : List PD → Option PD
  | [x, .eptr [.str w] 0] => (match Em.tk.dec x with | some t => gif (x = Em.tk.emb t) (some (.bool (isWord a w t))) | none => none)
  | _ => none
noncomputable def gSkip1 : List PD → Option PD
  | [x] => (match Em.tk.dec x with | some t => gif (x = Em.tk.emb t) (some (.bool true)) | none => none)
  | _ => none

variable {E : PExt} (hU : Uni E)
include hU
set_option maxRecDepth 10000
set_option maxHeartbeats 4000000

theorem r_Clone (h0 : E 39 = none) (l : List Tk) (hne : l ≠ []) (hl : l.length ≤ 100000) : Run Tryd.prog E 39 [tks.emb l] (tks.emb l) := by
  have hb : pisnil (.slice (sz 7 l) (l.map Em.tk.emb) .any) = some false := by
    simp [pisnil, sz, hne]
  have hle : (l.length : Int) ≤ 100000 := by omega
  obtain ⟨tk1, σ1, ap1, ra1⟩ := pappend_many (P := Tryd.prog) (t := 24) (e := 41) (k := 7) (b := 64) (s := sz 7 l) (xs := []) (ys := l.map Em.tk.emb) (tk := .any) (tok := .full)
    (σ := []) Tryd.underlying24 (by kernel_rfl)
    (by cases l <;> simp [sz]) (.inl ⟨rfl, rfl⟩) (by simp only [List.length_nil, List.length_map]; omega) (by simp only [List.length_nil, List.length_map]; omega)
  simp only [List.nil_append, List.length_nil, Nat.zero_add] at ap1 ra1
  apply Run.bodyL h0 Tryd.func39 rfl
  focus (simp [show Tryd.f39.ntmps = _ from rfl, List.replicate]; rfl)
  have hs : (PD.slice 7 (l.map Em.tk.emb) tk1).strip = tks.emb l := Em.of_dec dec_list_k
  have gx := And.intro @hb (@ap1)
  refine goA ?_
  clear gx
  simp (disch := first | omega | (simp; done) | (simp; omega)) [decide_eq_decide, hs] <;> try rfl
theorem r_Clone0 (h0 : E 39 = none) : Run Tryd.prog E 39 [.slice 0 [] .nul] (tks.emb []) := by
  have hb : pisnil (.slice 0 [] .nul) = some true := rfl
  apply Run.bodyL h0 Tryd.func39 rfl
  focus (simp [show Tryd.f39.ntmps = _ from rfl, List.replicate]; rfl)
  have gx := @hb
  refine goA ?_
  clear gx
  simp (disch := first | omega | (simp; done) | (simp; omega)) [decide_eq_decide] <;> try rfl
theorem r_Clone1 (h0 : E 39 = none) : Run Tryd.prog E 39 [.slice 0 [] .non] (tks.emb []) := by
  have hb : pisnil (.slice 0 [] .non) = some false := rfl
  apply Run.bodyL h0 Tryd.func39 rfl
  focus (simp [show Tryd.f39.ntmps = _ from rfl, List.replicate]; rfl)
  have gx := @hb
  refine goA ?_
  clear gx
  simp (disch := first | omega | (simp; done) | (simp; omega)) [decide_eq_decide] <;> try rfl
theorem r_Next (h0 : E 21 = none) (l : List Tk) (n : Nat) (hn : n ≤ l.length) (hl : l.length ≤ 100000) : Run Tryd.prog E 21 [.eptr [tks.emb l, .int .i64 n] 0] ((Em.tk.tup2 .bool).emb (nextS l n)) := by
  apply Run.bodyL h0 Tryd.func21 rfl
  focus (simp [show Tryd.f21.ntmps = _ from rfl, List.replicate]; rfl)
  by_cases q1 : n < l.length
  · have q2 : (n : Int) < (l.length : Int) := by omega
    obtain ⟨t, ht⟩ : ∃ t, l[n] = t := ⟨_, rfl⟩
    have hN : nextS l n = (t, true) := by simp [nextS, q1, ht]
    have q3 : ¬ l.length ≤ n := by omega
    have gx := And.intro @q1 (And.intro @q2 (And.intro @q3 (@ht)))
    refine goA ?_
    clear gx
    simp (disch := first | omega | (simp; done) | (simp; omega)) [decide_eq_decide, hN] <;> try rfl
  · have q2 : ¬ (n : Int) < (l.length : Int) := by omega
    have hN : nextS l n = (noTk, false) := by simp [nextS, q1]
    have q3 : l.length ≤ n := by omega
    have gx := And.intro @q1 (And.intro @q2 (@q3))
    refine goA ?_
    clear gx
    simp (disch := first | omega | (simp; done) | (simp; omega)) [decide_eq_decide, hN, noTk] <;> try rfl
theorem r_Next0 (h0 : E 21 = none) : Run Tryd.prog E 21 [.nilptr] ((Em.tk.tup2 .bool).emb (noTk, false)) := by
  apply Run.bodyL h0 Tryd.func21 rfl
  focus (simp [show Tryd.f21.ntmps = _ from rfl, List.replicate]; rfl)
  have gx := True.intro
  refine goA ?_
  clear gx
  simp (disch := first | omega | (simp; done) | (simp; omega)) [decide_eq_decide, noTk] <;> try rfl
theorem r_At (h0 : E 26 = none) (l : List Tk) (n : Nat) (hn : n ≤ l.length) (hl : l.length ≤ 100000) : Run Tryd.prog E 26 [.eptr [tks.emb l, .int .i64 n] 0] (Em.pos.emb (posS l n)) := by
  apply Run.bodyL h0 Tryd.func26 rfl
  focus (simp [show Tryd.f26.ntmps = _ from rfl, List.replicate]; rfl)
  by_cases q1 : l = []
  · subst q1
    have hP : posS [] n = (0, 0) := rfl
    have gx := True.intro
    refine goA ?_
    clear gx
    simp (disch := first | omega | (simp; done) | (simp; omega)) [decide_eq_decide, hP] <;> try rfl
  · have q2 : 0 < l.length := List.length_pos_iff.2 q1
    have q3 : ¬ (l.length : Int) = 0 := by omega
    obtain ⟨k, hk⟩ : ∃ k, min n (l.length - 1) = k := ⟨_, rfl⟩
    have hkl : k < l.length := by omega
    obtain ⟨t, ht⟩ : ∃ t, l[k] = t := ⟨_, rfl⟩
    have hP : posS l n = (t.line, t.col) := by simp [posS, hk, hkl, ht]
    by_cases q4 : (l.length : Int) - 1 < (n : Int)
    · have hkk : (l.length : Int) - 1 = (k : Int) := by omega
      have q5 : (k : Int) < (n : Int) := by omega
      have gx := And.intro @q1 (And.intro @q3 (And.intro @q4 (And.intro @hkk (And.intro @q5 (And.intro @hkl (@ht))))))
      refine goA ?_
      clear gx
      simp (disch := first | omega | (simp; done) | (simp; omega)) [decide_eq_decide, hP] <;> try rfl
    · have hkk : n = k := by omega
      have q5 : ¬ (l.length : Int) - 1 < (k : Int) := by omega
      subst hkk
      have gx := And.intro @q1 (And.intro @q3 (And.intro @q4 (And.intro @hkl (@ht))))
      refine goA ?_
      clear gx
      simp (disch := first | omega | (simp; done) | (simp; omega)) [decide_eq_decide, hP] <;> try rfl
theorem r_At0 (h0 : E 26 = none) : Run Tryd.prog E 26 [.nilptr] (Em.pos.emb (0, 0)) := by
  apply Run.bodyL h0 Tryd.func26 rfl
  focus (simp [show Tryd.f26.ntmps = _ from rfl, List.replicate]; rfl)
  have gx := True.intro
  refine goA ?_
  clear gx
  simp (disch := first | omega | (simp; done) | (simp; omega)) [decide_eq_decide] <;> try rfl
theorem r_Left (h0 : E 27 = none) (l : List Tk) (n : Nat) (hn : n ≤ l.length) (hl : l.length ≤ 100000) : Run Tryd.prog E 27 [.eptr [tks.emb l, .int .i64 n] 0] (.int .i64 ((l.length : Int) - n)) := by
  apply Run.bodyL h0 Tryd.func27 rfl
  focus (simp [show Tryd.f27.ntmps = _ from rfl, List.replicate]; rfl)
  have gx := True.intro
  refine goA ?_
  clear gx
  simp (disch := first | omega | (simp; done) | (simp; omega)) [decide_eq_decide] <;> try rfl
theorem r_Left0 (h0 : E 27 = none) : Run Tryd.prog E 27 [.nilptr] (.int .i64 0) := by
  apply Run.bodyL h0 Tryd.func27 rfl
  focus (simp [show Tryd.f27.ntmps = _ from rfl, List.replicate]; rfl)
  have gx := True.intro
  refine goA ?_
  clear gx
  simp (disch := first | omega | (simp; done) | (simp; omega)) [decide_eq_decide] <;> try rfl
theorem r_position (h0 : E 30 = none) (l : List Tk) (n : Nat) (hn : n ≤ l.length) (hl : l.length ≤ 100000) : Run Tryd.prog E 30 [tks.emb l, .int .i64 n] (Em.pos.emb (posS l n)) := by
  apply Run.bodyL h0 Tryd.func30 rfl
  focus (simp [show Tryd.f30.ntmps = _ from rfl, List.replicate]; rfl)
  by_cases q1 : l = []
  · subst q1
    have hP : posS [] n = (0, 0) := rfl
    have gx := True.intro
    refine goA ?_
    clear gx
    simp (disch := first | omega | (simp; done) | (simp; omega)) [decide_eq_decide, hP] <;> try rfl
  · have q2 : 0 < l.length := List.length_pos_iff.2 q1
    have q3 : ¬ (l.length : Int) = 0 := by omega
    obtain ⟨k, hk⟩ : ∃ k, min n (l.length - 1) = k := ⟨_, rfl⟩
    have hkl : k < l.length := by omega
    obtain ⟨t, ht⟩ : ∃ t, l[k] = t := ⟨_, rfl⟩
    have hP : posS l n = (t.line, t.col) := by simp [posS, hk, hkl, ht]
    by_cases q4 : (l.length : Int) - 1 < (n : Int)
    · have hkk : (l.length : Int) - 1 = (k : Int) := by omega
      have q5 : (k : Int) < (n : Int) := by omega
      have gx := And.intro @q1 (And.intro @q3 (And.intro @q4 (And.intro @hkk (And.intro @q5 (And.intro @hkl (@ht))))))
      refine goA ?_
      clear gx
      simp (disch := first | omega | (simp; done) | (simp; omega)) [decide_eq_decide, hP] <;> try rfl
    · have hkk : n = k := by omega
      subst hkk
      have gx := And.intro @q1 (And.intro @q3 (And.intro @q4 (And.intro @hkl (@ht))))
      refine goA ?_
      clear gx
      simp (disch := first | omega | (simp; done) | (simp; omega)) [decide_eq_decide, hP] <;> try rfl

theorem r_Take1 (h0 : E 41 = none) (t : Tk) (k : Int) : Run Tryd.prog E 41 [Em.tk.emb t, .eptr [.int .i64 k] 0] (Em.bool.emb (decide (t.kind = k))) := by
  apply Run.bodyL h0 Tryd.func41 rfl
  focus (simp [show Tryd.f41.ntmps = _ from rfl, List.replicate]; rfl)
  have gx := True.intro
  refine goA ?_
  clear gx
  simp (disch := first | omega | (simp; done) | (simp; omega)) [decide_eq_decide] <;> try rfl
theorem r_Skip1 (h0 : E 42 = none) (t : Tk) : Run Tryd.prog E 42 [Em.tk.emb t] (Em.bool.emb true) := by
  apply Run.bodyL h0 Tryd.func42 rfl
  focus (simp [show Tryd.f42.ntmps = _ from rfl, List.replicate]; rfl)
  have gx := True.intro
  refine goA ?_
  clear gx
  simp (disch := first | omega | (simp; done) | (simp; omega)) [decide_eq_decide] <;> try rfl
theorem r_Keyword1 (h0 : E 43 = none) (t : Tk) (w : List UInt8) : Run Tryd.prog E 43 [Em.tk.emb t, .eptr [.str w] 0] (Em.bool.emb (isWord 1 w t)) := by
  apply Run.bodyL h0 Tryd.func43 rfl
  focus (simp [show Tryd.f43.ntmps = _ from rfl, List.replicate]; rfl)
  by_cases h : t.kind = 1
  · have gx := @h
    refine goA ?_
    clear gx
    simp (disch := first | omega | (simp; done) | (simp; omega)) [decide_eq_decide, isWord, h] <;> try rfl
    by_cases h2 : t.text = w <;> simp [h2]
  · have gx := @h
    refine goA ?_
    clear gx
    simp (disch := first | omega | (simp; done) | (simp; omega)) [decide_eq_decide, isWord, h] <;> try rfl
theorem r_Sign1 (h0 : E 44 = none) (t : Tk) (w : List UInt8) : Run Tryd.prog E 44 [Em.tk.emb t, .eptr [.str w] 0] (Em.bool.emb (isWord 5 w t)) := by
  apply Run.bodyL h0 Tryd.func44 rfl
  focus (simp [show Tryd.f44.ntmps = _ from rfl, List.replicate]; rfl)
  by_cases h : t.kind = 5
  · have gx := @h
    refine goA ?_
    clear gx
    simp (disch := first | omega | (simp; done) | (simp; omega)) [decide_eq_decide, isWord, h] <;> try rfl
    by_cases h2 : t.text = w <;> simp [h2]
  · have gx := @h
    refine goA ?_
    clear gx
    simp (disch := first | omega | (simp; done) | (simp; omega)) [decide_eq_decide, isWord, h] <;> try rfl
end Go.Kz

/-
  Layer 19: readers: take, Take, Skip, Keyword, Sign, Read.
-/
namespace Go.Kz
open Go Go.Proofs

/-- What a function asks of a token. -/
def Asks (σ : List SObj) (g : PD) (q : Tk → Bool) : Prop :=
  (∃ b k, g = .func 41 [.ptr b 0] ∧ σ[b]? = some (.box (.int .i64 k)) ∧ q = fun t => decide (t.kind = k)) ∨
  (g = .func 42 [] ∧ q = fun _ => true) ∨
  (∃ b w, g = .func 43 [.ptr b 0] ∧ σ[b]? = some (.box (.str w)) ∧ q = isWord 1 w) ∨
  (∃ b w, g = .func 44 [.ptr b 0] ∧ σ[b]? = some (.box (.str w)) ∧ q = isWord 5 w)
theorem Asks.uniq {σ : List SObj} {g : PD} {q q' : Tk → Bool} (h : Asks σ g q) (h' : Asks σ g q') : q = q' := by
  rcases h with ⟨b, k, rfl, h1, rfl⟩ | ⟨rfl, rfl⟩ | ⟨b, k, rfl, h1, rfl⟩ | ⟨b, k, rfl, h1, rfl⟩ <;>
  rcases h' with ⟨b', k', e, h2, rfl⟩ | ⟨e, rfl⟩ | ⟨b', k', e, h2, rfl⟩ | ⟨b', k', e, h2, rfl⟩ <;>
  first
    | rfl
    | (cases e; done)
    | (cases e; rw [h1] at h2; cases h2; rfl)
theorem Asks.more {σ τ : List SObj} {g : PD} {q : Tk → Bool} (h : Asks σ g q) : Asks (σ ++ τ) g q := by
  have up : ∀ (b : Nat) (p : PD), σ[b]? = some (.box p) → (σ ++ τ)[b]? = some (.box p) := fun b p h => by rw [List.getElem?_append_left (List.getElem?_eq_some_iff.1 h).1]; exact h
  rcases h with ⟨b, k, rfl, h1, rfl⟩ | ⟨rfl, rfl⟩ | ⟨b, k, rfl, h1, rfl⟩ | ⟨b, k, rfl, h1, rfl⟩
  · exact .inl ⟨b, k, rfl, up b _ h1, rfl⟩
  · exact .inr (.inl ⟨rfl, rfl⟩)
  · exact .inr (.inr (.inl ⟨b, k, rfl, up b _ h1, rfl⟩))
  · exact .inr (.inr (.inr ⟨b, k, rfl, up b _ h1, rfl⟩))
theorem Rd.more {σ τ : List SObj} {r : PD} {l : List Tk} {n : Nat} (h : Rd σ r l n) : Rd (σ ++ τ) r l n := by
  rcases h with h | ⟨id, rfl, h⟩
  · exact .inl h
  · exact .inr ⟨id, rfl, by rw [List.getElem?_append_left (List.getElem?_eq_some_iff.1 h).1]; exact h⟩

/-- What is taken, and where the reader is behind it. -/
def takeR (q : Tk → Bool) (l : List Tk) (n : Nat) : (Tk × Bool) × Nat := match l[n]? with
  | some t => if q t = true then ((t, true), n + 1) else ((noTk, false), n)
  | none => ((noTk, false), n)
theorem takeR_le (q : Tk → Bool) {l : List Tk} {n : Nat} (h : n ≤ l.length) : (takeR q l n).2 ≤ l.length := by
  unfold takeR
  split
  · rename_i t ht
    have := (List.getElem?_eq_some_iff.1 ht).1
    split
    · simp only; omega
    · exact h
  · exact h

/-- What a method that takes does. -/
def RQ (dec : List SObj → List PD → PD → (Tk → Bool) → Prop) (out : Tk × Bool → PD) : List PD → List SObj → PD → List SObj → Prop := fun args σ p σ' => σ ≠ [] ∧ ∀ r q l n, dec σ args r q → Rd σ r l n → p = out (takeR q l n).1 ∧ Rd σ' r l (takeR q l n).2 ∧ KpR r σ σ' ∧ σ.length ≤ σ'.length
def decIs : List SObj → List PD → PD → (Tk → Bool) → Prop := fun σ args r q => ∃ g, args = [r, g] ∧ Asks σ g q
def decTake : List SObj → List PD → PD → (Tk → Bool) → Prop := fun _ args r q => ∃ k, args = [r, .int .i64 k] ∧ q = fun t => decide (t.kind = k)
def decSkip : List SObj → List PD → PD → (Tk → Bool) → Prop := fun _ args r q => args = [r] ∧ q = fun _ => true
def decWord (a : Int) : List SObj → List PD → PD → (Tk → Bool) → Prop := fun _ args r q => ∃ w, args = [r, .str w] ∧ q = isWord a w
abbrev outT : Tk × Bool → PD := (Em.tk.tup2 .bool).emb
def outB : Tk × Bool → PD := fun x => .bool x.2

theorem asks_call {E : PExt} (h1 : E 41 = some (rentry gTake1)) (h2 : E 42 = some (rentry gSkip1)) (h3 : E 43 = some (rentry (gWord1 1))) (h4 : E 44 = some (rentry (gWord1 5)))
    {σ : List SObj} {g : PD} {q : Tk → Bool} (h : Asks σ g q) : ∃ fi cap gi, g = .func fi cap ∧ E fi = some gi ∧ ∀ (t : Tk) (τ : List SObj), gi 0 (.agg [.int .i64 t.kind, .str t.text, .int .i64 t.num, .int .i64 t.feet.1, .int .i64 t.feet.2, .int .i64 t.line, .int .i64 t.col] :: cap) (σ ++ τ) = some (.bool (q t), σ ++ τ) := by
  have up : ∀ (τ : List SObj) (b : Nat) (p : PD), σ[b]? = some (.box p) → (σ ++ τ)[b]? = some (.box p) := fun τ b p h => by rw [List.getElem?_append_left (List.getElem?_eq_some_iff.1 h).1]; exact h
  have ht : ∀ t : Tk, PD.strip (.agg [.int .i64 t.kind, .str t.text, .int .i64 t.num, .int .i64 t.feet.1, .int .i64 t.feet.2, .int .i64 t.line, .int .i64 t.col]) = Em.tk.emb t := fun t => Em.tk.str t
  rcases h with ⟨b, k, rfl, hb, rfl⟩ | ⟨rfl, rfl⟩ | ⟨b, k, rfl, hb, rfl⟩ | ⟨b, k, rfl, hb, rfl⟩
  · refine ⟨_, _, _, rfl, h1, fun t τ => ?_⟩
    have e : preadArgs (σ ++ τ) [.agg [.int .i64 t.kind, .str t.text, .int .i64 t.num, .int .i64 t.feet.1, .int .i64 t.feet.2, .int .i64 t.line, .int .i64 t.col], .ptr b 0] = some [Em.tk.emb t, .eptr [.int .i64 k] 0] := by
      simp only [preadArgs, preadArg, up τ b _ hb, ht]
      rfl
    simp only [rentry, e, gTake1, Em.dec_emb]
    rw [gif_pos trivial]
  · refine ⟨_, _, _, rfl, h2, fun t τ => ?_⟩
    have e : preadArgs (σ ++ τ) [.agg [.int .i64 t.kind, .str t.text, .int .i64 t.num, .int .i64 t.feet.1, .int .i64 t.feet.2, .int .i64 t.line, .int .i64 t.col]] = some [Em.tk.emb t] := by
      simp only [preadArgs, preadArg, ht]
    simp only [rentry, e, gSkip1, Em.dec_emb]
    rw [gif_pos trivial]
  · refine ⟨_, _, _, rfl, h3, fun t τ => ?_⟩
    have e : preadArgs (σ ++ τ) [.agg [.int .i64 t.kind, .str t.text, .int .i64 t.num, .int .i64 t.feet.1, .int .i64 t.feet.2, .int .i64 t.line, .int .i64 t.col], .ptr b 0] = some [Em.tk.emb t, .eptr [.str k] 0] := by
      simp only [preadArgs, preadArg, up τ b _ hb, ht]
      rfl
    simp only [rentry, e, gWord1, Em.dec_emb]
    rw [gif_pos trivial]
  · refine ⟨_, _, _, rfl, h4, fun t τ => ?_⟩
    have e : preadArgs (σ ++ τ) [.agg [.int .i64 t.kind, .str t.text, .int .i64 t.num, .int .i64 t.feet.1, .int .i64 t.feet.2, .int .i64 t.line, .int .i64 t.col], .ptr b 0] = some [Em.tk.emb t, .eptr [.str k] 0] := by
      simp only [preadArgs, preadArg, up τ b _ hb, ht]
      rfl
    simp only [rentry, e, gWord1, Em.dec_emb]
    rw [gif_pos trivial]

variable {E : PExt} (hU : Uni E)
include hU
set_option maxRecDepth 10000
set_option maxHeartbeats 4000000

theorem w_take (h0 : E 40 = none) (hN : E 21 = some (rentry gNext)) (h1 : E 41 = some (rentry gTake1)) (h2 : E 42 = some (rentry gSkip1)) (h3 : E 43 = some (rentry (gWord1 1))) (h4 : E 44 = some (rentry (gWord1 5)))
    {σ : List SObj} {r g : PD} {q : Tk → Bool} {l : List Tk} {n : Nat} (hs : σ ≠ []) (ha : Asks σ g q) (h : Rd σ r l n) (hn : n ≤ l.length) (hl : l.length ≤ 100000) :
    WpC Tryd.prog E 0 (.inl 40) [r, g] σ (RQ decIs outT [r, g] σ) := by
  have hpost : ∀ p σ', p = outT (takeR q l n).1 → Rd σ' r l (takeR q l n).2 → KpR r σ σ' → σ.length ≤ σ'.length → RQ decIs outT [r, g] σ p σ' := by
    rintro p σ' rfl e1 e2 e3
    refine ⟨hs, ?_⟩
    rintro r' q' l' n' ⟨g', e, ha'⟩ h'
    simp only [List.cons.injEq, and_true] at e
    obtain ⟨rfl, rfl⟩ := e
    obtain rfl := ha.uniq ha'
    obtain ⟨rfl, rfl⟩ := h.uniq h'
    exact ⟨rfl, e1, e2, e3⟩
  obtain ⟨fi, cap, gi, rfl, hfi, hgi⟩ := asks_call h1 h2 h3 h4 ha
  have hnx := fun τ => next_at (h.more (τ := τ)) hn hl 0
  by_cases q1 : n < l.length
  · obtain ⟨t, ht⟩ : ∃ t, l[n] = t := ⟨_, rfl⟩
    have hS : nextS l n = (t, true) := by simp [nextS, q1, ht]
    simp only [hS] at hnx
    rcases h with ⟨_, rfl, _⟩ | ⟨id, rfl, h⟩
    · simp at q1
    have hid : id < σ.length := (List.getElem?_eq_some_iff.1 h).1
    have hg' : σ[id] = .box (.agg [tks.emb l, .int .i64 n]) := by rw [List.getElem?_eq_getElem hid] at h; simpa using h
    have hid2 : ∀ x y : SObj, (σ ++ [x, y])[id]? = some (.box (.agg [tks.emb l, .int .i64 n])) := fun x y => by rw [List.getElem?_append_left hid]; exact h
    have j0 : ∀ x y : SObj, (σ ++ [x, y])[σ.length]? = some x := fun x y => by simp
    have j1 : ∀ x y : SObj, (σ ++ [x, y])[σ.length + 1]? = some y := fun x y => by simp
    have s0 : ∀ x y z : SObj, (σ ++ [x, y]).set σ.length z = σ ++ [z, y] := fun x y z => by simp
    have hln : ∀ x y : SObj, (σ ++ [x, y]).length = σ.length + 2 := fun x y => by simp
    cases hqt : q t with
    | false =>
      have hT : takeR q l n = ((noTk, false), n) := by simp [takeR, q1, ht, hqt]
      rw [hT] at hpost
      have hfin := fun x y => hpost _ (σ ++ [x, y]) rfl (.inr ⟨id, rfl, hid2 x y⟩) KpR.more (by simp)
      apply WpC.bodyL h0 Tryd.func40 rfl
      focus (simp [show Tryd.f40.ntmps = _ from rfl, List.replicate]; rfl)
      have gx := And.intro @hN (@hnx)
      refine goA ?_
      clear gx
      first | refine Wp.seq ?_ | skip
      apply Wp.regionS
      repeat (first
        | (refine Fr.i ?_; simp only [pput, List.set_cons_zero, List.set_cons_succ]; try rfl)
        | (refine By.i ?_; (focus (simp (disch := first | omega | (simp; done) | (simp; omega)) [wrap_i64, wrap_u64, hfi, hgi, hqt]; first | done | rfl | exact ⟨rfl, rfl⟩)))
        | (refine By.i ?_; simp (disch := first | omega | (simp; done) | (simp; omega)) [wrap_i64, wrap_u64, hfi, hgi, hqt]; refine ⟨(by (try simp only [List.length_append, List.length_cons, List.length_nil, maxLen]); omega), rfl⟩)
        | (refine Wt.i ?_; first | rfl | (focus (simp [hfi, hgi, hqt]; done)))
        | (refine Ns.i ?_; (try simp only [List.append_nil, List.nil_append, List.cons_append, List.append_assoc, List.length_append, List.length_cons, List.length_nil, Nat.zero_add, Nat.reduceAdd]); rfl) | rfl
        | (apply SL.pass; (focus (refine Wt.i ?_; rfl))) | (apply SL.convertR; (focus rfl)) | apply SL.move | apply SL.assign | apply SL.load | apply SL.isnilE | apply SL.isnilN | apply SL.make | apply SL.binOp | apply SL.append
        | apply SL.builtin | apply SL.fieldAddr | apply SL.indexAddr | apply SL.field | apply SL.extract | apply SL.fcall | apply SL.pick | apply SL.store | apply SL.unOp | apply SL.convert | apply SL.index | apply SL.slice | apply SL.build
        | apply SL.nilCheck | apply SL.buildSlice | apply SL.box | apply SL.alloc | apply SL.makeFunc)
      apply SQ.nil
      have gx := And.intro @j0 (And.intro @j1 (And.intro @s0 (@hln)))
      refine goA ?_
      clear gx
      simp
      exact ⟨_, _, ⟨rfl, rfl⟩, hfin _ _⟩
    | true =>
      have hT : takeR q l n = ((t, true), n + 1) := by simp [takeR, q1, ht, hqt]
      rw [hT] at hpost
      have e1 : (n : Int) + 1 = ((n + 1 : Nat) : Int) := by omega
      have si : ∀ x y z : SObj, (σ ++ [x, y]).set id z = σ.set id z ++ [x, y] := fun x y z => by rw [List.set_append_left _ _ hid]
      have k0 : ∀ x y z : SObj, (σ.set id z ++ [x, y])[σ.length]? = some x := fun x y z => by
        have : (σ.set id z).length = σ.length := by simp
        rw [← this]
        simp
      have k1 : ∀ x y z : SObj, (σ.set id z ++ [x, y])[σ.length + 1]? = some y := fun x y z => by
        have : (σ.set id z).length = σ.length := by simp
        rw [← this]
        simp
      have t0 : ∀ x y z u : SObj, (σ.set id z ++ [x, y]).set σ.length u = σ.set id z ++ [u, y] := fun x y z u => by
        have : (σ.set id z).length = σ.length := by simp
        rw [← this]
        simp
      have hfin := fun x y => hpost _ (σ.set id (.box (.agg [tks.emb l, .int .i64 ((n : Int) + 1)])) ++ [x, y]) rfl (.inr ⟨id, rfl, by rw [List.getElem?_append_left (by rw [List.length_set]; exact hid), List.getElem?_set_self hid, e1]⟩) (KpR.trans KpR.set KpR.more) (by simp)
      apply WpC.bodyL h0 Tryd.func40 rfl
      focus (simp [show Tryd.f40.ntmps = _ from rfl, List.replicate]; rfl)
      have gx := And.intro @hN (@hnx)
      refine goA ?_
      clear gx
      first | refine Wp.seq ?_ | skip
      apply Wp.regionS
      repeat (first
        | (refine Fr.i ?_; simp only [pput, List.set_cons_zero, List.set_cons_succ]; try rfl)
        | (refine By.i ?_; (focus (simp (disch := first | omega | (simp; done) | (simp; omega)) [wrap_i64, wrap_u64, hfi, hgi, hqt]; first | done | rfl | exact ⟨rfl, rfl⟩)))
        | (refine By.i ?_; simp (disch := first | omega | (simp; done) | (simp; omega)) [wrap_i64, wrap_u64, hfi, hgi, hqt]; refine ⟨(by (try simp only [List.length_append, List.length_cons, List.length_nil, maxLen]); omega), rfl⟩)
        | (refine Wt.i ?_; first | rfl | (focus (simp [hfi, hgi, hqt]; done)))
        | (refine Ns.i ?_; (try simp only [List.append_nil, List.nil_append, List.cons_append, List.append_assoc, List.length_append, List.length_cons, List.length_nil, Nat.zero_add, Nat.reduceAdd]); rfl) | rfl
        | (apply SL.pass; (focus (refine Wt.i ?_; rfl))) | (apply SL.convertR; (focus rfl)) | apply SL.move | apply SL.assign | apply SL.load | apply SL.isnilE | apply SL.isnilN | apply SL.make | apply SL.binOp | apply SL.append
        | apply SL.builtin | apply SL.fieldAddr | apply SL.indexAddr | apply SL.field | apply SL.extract | apply SL.fcall | apply SL.pick | apply SL.store | apply SL.unOp | apply SL.convert | apply SL.index | apply SL.slice | apply SL.build
        | apply SL.nilCheck | apply SL.buildSlice | apply SL.box | apply SL.alloc | apply SL.makeFunc)
      apply SQ.nil
      have gx := And.intro @j0 (And.intro @j1 (And.intro @s0 (And.intro @hln (And.intro @hid2 (And.intro @si (And.intro @k0 (And.intro @k1 (And.intro @t0 (And.intro @hid (And.intro @h (And.intro @hg' (@q1))))))))))))
      refine goA ?_
      clear gx
      simp
      exact ⟨_, _, ⟨rfl, rfl⟩, hfin _ _⟩
  · have hS : nextS l n = (noTk, false) := by simp [nextS, q1]
    simp only [hS] at hnx
    have j0 : ∀ x y : SObj, (σ ++ [x, y])[σ.length]? = some x := fun x y => by simp
    have s0 : ∀ x y z : SObj, (σ ++ [x, y]).set σ.length z = σ ++ [z, y] := fun x y z => by simp
    have hln : ∀ x y : SObj, (σ ++ [x, y]).length = σ.length + 2 := fun x y => by simp
    have hT : takeR q l n = ((noTk, false), n) := by simp [takeR, q1]
    rw [hT] at hpost
    have hfin := fun x y => hpost _ (σ ++ [x, y]) rfl h.more KpR.more (by simp)
    apply WpC.bodyL h0 Tryd.func40 rfl
    focus (simp [show Tryd.f40.ntmps = _ from rfl, List.replicate]; rfl)
    have gx := And.intro @hN (@hnx)
    refine goA ?_
    clear gx
    first | refine Wp.seq ?_ | skip
    apply Wp.regionS
    repeat (first
      | (refine Fr.i ?_; simp only [pput, List.set_cons_zero, List.set_cons_succ]; try rfl)
      | (refine By.i ?_; (focus (simp (disch := first | omega | (simp; done) | (simp; omega)) [wrap_i64, wrap_u64, hfi, hgi]; first | done | rfl | exact ⟨rfl, rfl⟩)))
      | (refine By.i ?_; simp (disch := first | omega | (simp; done) | (simp; omega)) [wrap_i64, wrap_u64, hfi, hgi]; refine ⟨(by (try simp only [List.length_append, List.length_cons, List.length_nil, maxLen]); omega), rfl⟩)
      | (refine Wt.i ?_; first | rfl | (focus (simp [hfi, hgi]; done)))
      | (refine Ns.i ?_; (try simp only [List.append_nil, List.nil_append, List.cons_append, List.append_assoc, List.length_append, List.length_cons, List.length_nil, Nat.zero_add, Nat.reduceAdd]); rfl) | rfl
      | (apply SL.pass; (focus (refine Wt.i ?_; rfl))) | (apply SL.convertR; (focus rfl)) | apply SL.move | apply SL.assign | apply SL.load | apply SL.isnilE | apply SL.isnilN | apply SL.make | apply SL.binOp | apply SL.append
      | apply SL.builtin | apply SL.fieldAddr | apply SL.indexAddr | apply SL.field | apply SL.extract | apply SL.fcall | apply SL.pick | apply SL.store | apply SL.unOp | apply SL.convert | apply SL.index | apply SL.slice | apply SL.build
      | apply SL.nilCheck | apply SL.buildSlice | apply SL.box | apply SL.alloc | apply SL.makeFunc)
    apply SQ.nil
    have gx := And.intro @j0 (And.intro @s0 (@hln))
    refine goA ?_
    clear gx
    simp
    exact ⟨_, _, ⟨rfl, rfl⟩, hfin _ _⟩
end Go.Kz

/-
  Layer 19: readers: Take, Skip, Keyword, Sign, Read.
-/
namespace Go.Kz
open Go Go.Proofs

/-- What take needs of the table. -/
structure TakeE (E0 : PExt) : Prop where
  u : Uni E0
  a0 : E0 40 = none
  aN : E0 21 = some (rentry gNext)
  a1 : E0 41 = some (rentry gTake1)
  a2 : E0 42 = some (rentry gSkip1)
  a3 : E0 43 = some (rentry (gWord1 1))
  a4 : E0 44 = some (rentry (gWord1 5))
theorem TakeE.get {E0 : PExt} (e : TakeE E0) {σ : List SObj} {r g : PD} {q : Tk → Bool} {l : List Tk} {n : Nat} (hs : σ ≠ []) (ha : Asks σ g q) (h : Rd σ r l n) (hn : n ≤ l.length) (hl : l.length ≤ 100000) :
    ∃ σ3, qentry Tryd.prog E0 40 (RQ decIs outT) 0 [r, g] σ = some (outT (takeR q l n).1, σ3) ∧ Rd σ3 r l (takeR q l n).2 ∧ KpR r σ σ3 ∧ σ.length ≤ σ3.length := by
  obtain ⟨p3, σ3, hp, hQ⟩ := qentry_of (w_take e.u e.a0 e.aN e.a1 e.a2 e.a3 e.a4 hs ha h hn hl)
  obtain ⟨rfl, e1, e2, e3⟩ := hQ.2 r q l n ⟨g, rfl, ha⟩ h
  exact ⟨σ3, hp, e1, e2, e3⟩

theorem RQ_post {dec : List SObj → List PD → PD → (Tk → Bool) → Prop} {out : Tk × Bool → PD} {args : List PD} {σ σ' : List SObj} {r p : PD} {q : Tk → Bool} {l : List Tk} {n : Nat} (hs : σ ≠ []) (hd : ∀ r' q', dec σ args r' q' → r = r' ∧ q = q') (h : Rd σ r l n)
    (e0 : p = out (takeR q l n).1) (e1 : Rd σ' r l (takeR q l n).2) (e2 : KpR r σ σ') (e3 : σ.length ≤ σ'.length) : RQ dec out args σ p σ' := by
  refine ⟨hs, fun r' q' l' n' hd' h' => ?_⟩
  obtain ⟨rfl, rfl⟩ := hd r' q' hd'
  obtain ⟨rfl, rfl⟩ := h.uniq h'
  exact ⟨e0, e1, e2, e3⟩

theorem Rd.ne {σ : List SObj} {r : PD} {l : List Tk} {n j : Nat} (h : Rd σ r l n) (hj : σ.length ≤ j) : r ≠ .ptr j 0 := by
  rcases h with ⟨rfl, _⟩ | ⟨id, rfl, h⟩
  · simp
  · intro e
    cases e
    have := (List.getElem?_eq_some_iff.1 h).1
    omega
theorem Rd.set {σ : List SObj} {r : PD} {l : List Tk} {n j : Nat} {x : SObj} (h : Rd σ r l n) (hj : r ≠ .ptr j 0) : Rd (σ.set j x) r l n := by
  rcases h with h | ⟨id, rfl, h⟩
  · exact .inl h
  · exact .inr ⟨id, rfl, by rw [List.getElem?_set_ne (fun e => hj (by rw [e]))]; exact h⟩
theorem KpR.new {r : PD} {σ σ' : List SObj} {j : Nat} {x : SObj} (h : KpR r σ σ') (hj : σ.length ≤ j) : KpR r σ (σ'.set j x) := fun i q hi h1 => by
  have hlt := (List.getElem?_eq_some_iff.1 h1).1
  rw [List.getElem?_set_ne (by omega)]
  exact h i q hi h1
abbrev zTk : SObj := .box (.agg [.int .i64 0, .str [], .int .i64 0, .int .i64 0, .int .i64 0, .int .i64 0, .int .i64 0])

variable {E : PExt} (hU : Uni E)
include hU
set_option maxRecDepth 10000
set_option maxHeartbeats 4000000

theorem w_Take {E0 : PExt} (e : TakeE E0) (h0 : E 22 = none) (h1 : E 40 = some (qentry Tryd.prog E0 40 (RQ decIs outT))) {σ : List SObj} {r : PD} {l : List Tk} {n : Nat} (k : Int) (hs : σ ≠ []) (h : Rd σ r l n) (hn : n ≤ l.length) (hl : l.length ≤ 100000) :
    WpC Tryd.prog E 0 (.inl 22) [r, .int .i64 k] σ (RQ decTake outT [r, .int .i64 k] σ) := by
  obtain ⟨σ3, hp, e1, e2, e3⟩ := e.get (σ := σ ++ [.box (.int .i64 k), zTk]) (g := .func 41 [.ptr σ.length 0]) (q := fun t => decide (t.kind = k)) (by simp) (.inl ⟨σ.length, k, rfl, by simp, rfl⟩) h.more hn hl
  have hpost := fun x => RQ_post (dec := decTake) (out := outT) (args := [r, .int .i64 k]) (σ' := σ3.set (σ.length + 1) x) hs (by
    rintro r' q' ⟨k', e, rfl⟩
    simp only [List.cons.injEq, PD.int.injEq, true_and, and_true] at e
    obtain ⟨rfl, rfl⟩ := e
    exact ⟨rfl, rfl⟩) h rfl (e1.set (h.ne (by omega))) (KpR.new (KpR.trans KpR.more e2) (by omega)) (by simp at e3 ⊢; omega)
  have hz := e2 (σ.length + 1) _ (h.ne (by omega)) (show (σ ++ [.box (.int .i64 k), zTk])[σ.length + 1]? = some zTk by simp)
  have hzl := (List.getElem?_eq_some_iff.1 hz).1
  have hz' : σ3[σ.length + 1] = zTk := by rw [List.getElem?_eq_getElem hzl] at hz; simpa using hz
  have hzs : ∀ x, (σ3.set (σ.length + 1) x)[σ.length + 1]? = some x := fun x => List.getElem?_set_self hzl
  obtain ⟨X, hX⟩ : ∃ X, (takeR (fun t => decide (t.kind = k)) l n).1 = X := ⟨_, rfl⟩
  rw [hX] at hp hpost
  apply WpC.bodyL h0 Tryd.func22 rfl
  focus (simp [show Tryd.f22.ntmps = _ from rfl, List.replicate]; rfl)
  have gx := And.intro @h1 (And.intro @hp (And.intro @hz (And.intro @hz' (And.intro @hzl (@hzs)))))
  refine goA ?_
  clear gx
  simp [hzs, hzl]
  exact ⟨_, _, ⟨rfl, rfl⟩, hpost _⟩

theorem w_Skip {E0 : PExt} (e : TakeE E0) (h0 : E 23 = none) (h1 : E 40 = some (qentry Tryd.prog E0 40 (RQ decIs outT))) {σ : List SObj} {r : PD} {l : List Tk} {n : Nat} (hs : σ ≠ []) (h : Rd σ r l n) (hn : n ≤ l.length) (hl : l.length ≤ 100000) :
    WpC Tryd.prog E 0 (.inl 23) [r] σ (RQ decSkip outB [r] σ) := by
  obtain ⟨σ3, hp, e1, e2, e3⟩ := e.get (σ := σ) (g := .func 42 []) (q := fun _ => true) hs (.inr (.inl ⟨rfl, rfl⟩)) h hn hl
  have hpost := fun x => RQ_post (dec := decSkip) (out := outB) (args := [r]) (σ' := σ3 ++ [x]) hs (by
    rintro r' q' ⟨e, rfl⟩
    simp only [List.cons.injEq, and_true] at e
    exact ⟨e, rfl⟩) h rfl e1.more (KpR.trans e2 KpR.more) (by simp; omega)
  obtain ⟨X, hX⟩ : ∃ X, (takeR (fun _ => true) l n).1 = X := ⟨_, rfl⟩
  rw [hX] at hp hpost
  apply WpC.bodyL h0 Tryd.func23 rfl
  focus (simp [show Tryd.f23.ntmps = _ from rfl, List.replicate]; rfl)
  have gx := And.intro @h1 (@hp)
  refine goA ?_
  clear gx
  simp
  exact ⟨_, _, ⟨rfl, rfl⟩, hpost _⟩

theorem w_Keyword {E0 : PExt} (e : TakeE E0) (h0 : E 24 = none) (h1 : E 40 = some (qentry Tryd.prog E0 40 (RQ decIs outT))) {σ : List SObj} {r : PD} {l : List Tk} {n : Nat} (w : List UInt8) (hs : σ ≠ []) (h : Rd σ r l n) (hn : n ≤ l.length) (hl : l.length ≤ 100000) :
    WpC Tryd.prog E 0 (.inl 24) [r, .str w] σ (RQ (decWord 1) outB [r, .str w] σ) := by
  obtain ⟨σ3, hp, e1, e2, e3⟩ := e.get (σ := σ ++ [.box (.str w)]) (g := .func 43 [.ptr σ.length 0]) (q := isWord 1 w) (by simp) (.inr (.inr (.inl ⟨σ.length, w, rfl, by simp, rfl⟩))) h.more hn hl
  have hpost := fun x => RQ_post (dec := decWord 1) (out := outB) (args := [r, .str w]) (σ' := σ3 ++ [x]) hs (by
    rintro r' q' ⟨w', e, rfl⟩
    simp only [List.cons.injEq, PD.str.injEq, and_true] at e
    obtain ⟨rfl, rfl⟩ := e
    exact ⟨rfl, rfl⟩) h rfl e1.more (KpR.trans KpR.more (KpR.trans e2 KpR.more)) (by simp at e3 ⊢; omega)
  obtain ⟨X, hX⟩ : ∃ X, (takeR (isWord 1 w) l n).1 = X := ⟨_, rfl⟩
  rw [hX] at hp hpost
  apply WpC.bodyL h0 Tryd.func24 rfl
  focus (simp [show Tryd.f24.ntmps = _ from rfl, List.replicate]; rfl)
  have gx := And.intro @h1 (@hp)
  refine goA ?_
  clear gx
  simp
  exact ⟨_, _, ⟨rfl, rfl⟩, hpost _⟩

theorem w_Sign {E0 : PExt} (e : TakeE E0) (h0 : E 25 = none) (h1 : E 40 = some (qentry Tryd.prog E0 40 (RQ decIs outT))) {σ : List SObj} {r : PD} {l : List Tk} {n : Nat} (w : List UInt8) (hs : σ ≠ []) (h : Rd σ r l n) (hn : n ≤ l.length) (hl : l.length ≤ 100000) :
    WpC Tryd.prog E 0 (.inl 25) [r, .str w] σ (RQ (decWord 5) outB [r, .str w] σ) := by
  obtain ⟨σ3, hp, e1, e2, e3⟩ := e.get (σ := σ ++ [.box (.str w)]) (g := .func 44 [.ptr σ.length 0]) (q := isWord 5 w) (by simp) (.inr (.inr (.inr ⟨σ.length, w, rfl, by simp, rfl⟩))) h.more hn hl
  have hpost := fun x => RQ_post (dec := decWord 5) (out := outB) (args := [r, .str w]) (σ' := σ3 ++ [x]) hs (by
    rintro r' q' ⟨w', e, rfl⟩
    simp only [List.cons.injEq, PD.str.injEq, and_true] at e
    obtain ⟨rfl, rfl⟩ := e
    exact ⟨rfl, rfl⟩) h rfl e1.more (KpR.trans KpR.more (KpR.trans e2 KpR.more)) (by simp at e3 ⊢; omega)
  obtain ⟨X, hX⟩ : ∃ X, (takeR (isWord 5 w) l n).1 = X := ⟨_, rfl⟩
  rw [hX] at hp hpost
  apply WpC.bodyL h0 Tryd.func25 rfl
  focus (simp [show Tryd.f25.ntmps = _ from rfl, List.replicate]; rfl)
  have gx := And.intro @h1 (@hp)
  refine goA ?_
  clear gx
  simp
  exact ⟨_, _, ⟨rfl, rfl⟩, hpost _⟩

/-- What Read does. -/
def ReadQ : List PD → List SObj → PD → List SObj → Prop := fun args σ p σ' => ∃ id, p = .ptr id 0 ∧ σ.length ≤ id ∧ (∀ s l, args = [s] → tks.dec s = some l → Rd σ' p l 0) ∧ (∃ b, σ'[id]? = some b) ∧ ∀ (j : Nat) (q : PD), σ[j]? = some (.box q) → σ'[j]? = some (.box q)
theorem w_Read (h0 : E 20 = none) (h1 : E 39 = some (entry (gf1 tks tks fun l => gif (l.length ≤ 100000) (some l)))) {σ : List SObj} {s : PD} {l : List Tk} (hd : tks.dec s = some l) (hl : l.length ≤ 100000) :
    WpC Tryd.prog E 0 (.inl 20) [s] σ (ReadQ [s] σ) := by
  apply WpC.bodyL h0 Tryd.func20 rfl
  focus (simp [show Tryd.f20.ntmps = _ from rfl, List.replicate]; rfl)
  have gx := And.intro @h1 (And.intro @hl (@hd))
  refine goA ?_
  clear gx
  simp
  refine ⟨_, _, ⟨rfl, rfl⟩, σ.length, rfl, Nat.le_refl _, fun s' l' e hd' => ?_, ⟨_, by simp; rfl⟩, fun j q h => by rw [List.getElem?_append_left (List.getElem?_eq_some_iff.1 h).1]; exact h⟩
  simp only [List.cons.injEq, and_true] at e
  subst e
  rw [hd] at hd'
  obtain rfl := Option.some.inj hd'
  exact .inr ⟨σ.length, rfl, by simp⟩
end Go.Kz

/-
  Layer 19: readers: Rest.
-/
namespace Go.Kz
open Go Go.Proofs

/-- The tokens up to the end of the line, and where the reader is behind them. -/
def restS : List Tk → List Tk
  | [] => []
  | t :: r => if t.kind = 6 then [] else t :: restS r
def restN : List Tk → Nat
  | [] => 0
  | t :: r => if t.kind = 6 then 1 else restN r + 1
theorem restN_le : ∀ l : List Tk, restN l ≤ l.length
  | [] => Nat.le_refl _
  | t :: r => by
    have := restN_le r
    unfold restN
    rw [List.length_cons]
    split <;> omega
theorem restS_le : ∀ l : List Tk, (restS l).length ≤ l.length
  | [] => Nat.le_refl _
  | t :: r => by
    have := restS_le r
    unfold restS
    split
    · simp
    · rw [List.length_cons, List.length_cons]; omega
/-- What Rest does. -/
def RestQ : List PD → List SObj → PD → List SObj → Prop := fun args σ p σ' => σ ≠ [] ∧ ∀ r l n, args = [r] → Rd σ r l n → (∃ z tok, p = .slice z ((restS (l.drop n)).map Em.tk.emb) tok) ∧ tks.dec p = some (restS (l.drop n)) ∧ Rd σ' r l (n + restN (l.drop n)) ∧ KpR r σ σ'

variable {E : PExt} (hU : Uni E)
include hU
set_option maxRecDepth 10000
set_option maxHeartbeats 4000000

theorem w_Rest (h0 : E 28 = none) (hN : E 21 = some (rentry gNext)) {σ : List SObj} {r : PD} {l : List Tk} {n : Nat} (hs : σ ≠ []) (h : Rd σ r l n) (hn : n ≤ l.length) (hl : l.length ≤ 100000) :
    WpC Tryd.prog E 0 (.inl 28) [r] σ (RestQ [r] σ) := by
  obtain ⟨σ0, hσ0⟩ : ∃ σ0, σ0 = σ := ⟨_, rfl⟩
  obtain ⟨RS, hRS⟩ : ∃ RS, restS (l.drop n) = RS := ⟨_, rfl⟩
  obtain ⟨RN, hRN⟩ : ∃ RN, n + restN (l.drop n) = RN := ⟨_, rfl⟩
  have hRSl := restS_le (l.drop n)
  rw [List.length_drop, hRS] at hRSl
  have hdec : ∀ (z : Nat) (o : List Tk) (tok : Tok), (o = [] ∨ z = 7) → tks.dec (.slice z (o.map Em.tk.emb) tok) = some o := by
    intro z o tok hz
    rcases hz with rfl | rfl
    · exact Em.dec_some rfl
    · exact dec_list_k
  have hpost : ∀ (z : Nat) (o : List Tk) (tok : Tok) (σ' : List SObj), (o = [] ∨ z = 7) → o = RS → Rd σ' r l RN → KpR r σ0 σ' → RestQ [r] σ (.slice z (o.map Em.tk.emb) tok) σ' := by
    intro z o tok σ' hz ho e1 e2
    subst hσ0
    refine ⟨hs, fun r' l' n' e h' => ?_⟩
    simp only [List.cons.injEq, and_true] at e
    subst e
    obtain ⟨rfl, rfl⟩ := h.uniq h'
    rw [hRS, hRN, ← ho]
    exact ⟨⟨z, tok, rfl⟩, hdec z o tok hz, e1, e2⟩
  apply WpC.bodyL h0 Tryd.func28 rfl
  focus (simp [show Tryd.f28.ntmps = _ from rfl, List.replicate]; rfl)
  have gx := True.intro
  refine goA ?_
  clear gx
  refine Wp.loopI (fun m fr σ => ∃ (i z : Nat) (o : List Tk) (tok : Tok) (σ1 : List SObj), ∃ gg : Nat → PD, (Rd σ1 r l i ∧ i ≤ l.length ∧ m = l.length - i + 1 ∧ o.length ≤ i ∧ RowAt σ1 tok 41 7 o.length ∧ (o = [] ∨ z = 7) ∧ o ++ restS (l.drop i) = RS ∧ i + restN (l.drop i) = RN ∧ KpR r σ0 σ1) ∧ fr = [r, gg 1, .slice 0 [] .full, .slice z (o.map Em.tk.emb) tok, gg 4, gg 5, gg 6, gg 7, gg 8, gg 9, gg 10, gg 11, gg 12, gg 13, gg 14, gg 15, gg 16, gg 17, gg 18, gg 19, gg 20, gg 21, gg 22, gg 23, gg 24, gg 25, gg 26, gg 27, gg 28] ∧ σ = σ1) ?_ (l.length - n + 1) (by refine ⟨n, 0, [], .full, σ, ?_⟩; exact exF (⟨h, hn, rfl, Nat.zero_le _, .inl ⟨rfl, rfl⟩, .inl rfl, hRS, hRN, by rw [hσ0]; exact KpR.rfl'⟩) (by (first | rfl | (simp []; repeat (first | rfl | (apply And.intro))) | (simp []; done))) (by (first | rfl | (simp []; repeat (first | rfl | (apply And.intro))) | (simp []; done))))
  rintro m fr σ ⟨i, z, o, tok, σ1, gg, hI, rfl, rfl⟩
  obtain ⟨hr, hi, hm, hoi, hrow, hz, hS, hRn, hk⟩ := hI
  have hnx := next_at hr hi hl 0
  by_cases q1 : i < l.length
  · obtain ⟨t, ht⟩ : ∃ t, l[i] = t := ⟨_, rfl⟩
    have hcons : l.drop i = t :: l.drop (i + 1) := by rw [List.drop_eq_getElem_cons q1, ht]
    rw [hcons, restS] at hS
    rw [hcons, restN] at hRn
    have hN2 : nextS l i = (t, true) := by simp [nextS, q1, ht]
    rw [hN2] at hnx
    rcases hr with ⟨_, rfl, _⟩ | ⟨id, rfl, hb⟩
    · simp at q1
    have hid : id < σ.length := (List.getElem?_eq_some_iff.1 hb).1
    have hb' : σ[id] = .box (.agg [tks.emb l, .int .i64 i]) := by rw [List.getElem?_eq_getElem hid] at hb; simpa using hb
    have hid2 : ∀ x : SObj, (σ ++ [x])[id]? = some (.box (.agg [tks.emb l, .int .i64 i])) := fun x => by rw [List.getElem?_append_left hid]; exact hb
    have j0 : ∀ x : SObj, (σ ++ [x])[σ.length]? = some x := fun x => by simp
    have si : ∀ x z : SObj, (σ ++ [x]).set id z = σ.set id z ++ [x] := fun x z => by rw [List.set_append_left _ _ hid]
    have k0 : ∀ x z : SObj, (σ.set id z ++ [x])[σ.length]? = some x := fun x z => by
      have : (σ.set id z).length = σ.length := by simp
      rw [← this]
      simp
    have hln : ∀ x : SObj, (σ ++ [x]).length = σ.length + 1 := fun x => by simp
    have e1 : (i : Int) + 1 = ((i + 1 : Nat) : Int) := by omega
    have hr1 : ∀ x : SObj, Rd (σ.set id (.box (.agg [tks.emb l, .int .i64 ((i : Int) + 1)])) ++ [x]) (.ptr id 0) l (i + 1) := fun x => .inr ⟨id, rfl, by rw [List.getElem?_append_left (by rw [List.length_set]; exact hid), List.getElem?_set_self hid, e1]⟩
    have hk1 : ∀ x y : SObj, KpR (.ptr id 0) σ0 (σ.set id x ++ [y]) := fun x y => KpR.trans hk (KpR.trans KpR.set KpR.more)
    by_cases k6 : t.kind = 6
    · rw [if_pos k6, List.append_nil] at hS
      rw [if_pos k6] at hRn
      subst hRn
      have hfin := fun x => hpost z o tok _ hz hS (hr1 x) (hk1 _ x)
      have gx := And.intro @hN (And.intro @hnx (And.intro @q1 (And.intro @hid (And.intro @hb (And.intro @hb' (And.intro @hid2 (And.intro @j0 (And.intro @si (And.intro @k0 (And.intro @hln (@k6)))))))))))
      refine goA ?_
      clear gx
      simp
      exact ⟨_, _, ⟨rfl, rfl⟩, hfin _⟩
    · rw [if_neg k6] at hS hRn
      have hrow1 : ∀ x : SObj, RowAt (σ.set id (.box (.agg [tks.emb l, .int .i64 ((i : Int) + 1)])) ++ [x]) tok 41 7 o.length := fun x => (rowat_set hrow hb).more
      obtain ⟨tok', σ3, hap, hr', hkeep, _⟩ := pappend_row (P := Tryd.prog) (t := 24) (e := 41) (k := 7) (b := 64) (s := z) (xs := o.map Em.tk.emb) (p := Em.tk.emb t) (tk := .any) Tryd.underlying24 (by kernel_rfl) (by simpa using hz) (by rw [List.length_map]; exact hrow1 (.box (Em.tk.emb t))) (by rw [List.length_map]; omega) (by rw [List.length_map]; omega)
      have hemb : tks.emb l = .slice (sz 7 l) (l.map Em.tk.emb) .any := rfl
      have hidx : (σ.set id (.box (.agg [tks.emb l, .int .i64 ((i : Int) + 1)])) ++ [.box (Em.tk.emb t)])[id]? = some (.box (.agg [tks.emb l, .int .i64 ((i : Int) + 1)])) := by rw [List.getElem?_append_left (by rw [List.length_set]; exact hid), List.getElem?_set_self hid]
      have hid3 := hkeep id _ (rowat_ne (hrow1 _) hidx) hidx
      simp only [emb_tk, hemb] at hap
      have hk3 : KpR (.ptr id 0) σ0 σ3 := KpR.trans (hk1 _ _) fun j q hj h1 => hkeep j _ (rowat_ne (hrow1 _) h1) h1
      have gx := And.intro @hN (And.intro @hnx (And.intro @q1 (And.intro @hid (And.intro @hb (And.intro @hb' (And.intro @hid2 (And.intro @j0 (And.intro @si (And.intro @k0 (And.intro @hln (And.intro @k6 (@hap))))))))))))
      refine goA ?_
      clear gx
      refine LoopI.normal (m - 1) (by omega) (by refine ⟨i + 1, 7, o ++ [t], tok', σ3, ?_⟩; exact exF (⟨.inr ⟨id, rfl, by rw [hid3, e1]⟩, by omega, by omega, by simp; omega, by simpa using hr', .inr rfl, by rw [← hS]; simp, by rw [← hRn]; omega, hk3⟩) (by (first | rfl | (simp []; repeat (first | rfl | (apply And.intro))) | (simp []; done))) (by (first | rfl | (simp []; repeat (first | rfl | (apply And.intro))) | (simp []; done))))
  · have hie : i = l.length := by omega
    have hN2 : nextS l i = (noTk, false) := by simp [nextS, q1]
    rw [hN2] at hnx
    rw [hie, List.drop_length, restS, List.append_nil] at hS
    rw [hie, List.drop_length, restN, Nat.add_zero] at hRn
    subst hRn
    subst hie
    have hfin := fun x => hpost z o tok _ hz hS (hr.more (τ := [x])) (KpR.trans hk KpR.more)
    have gx := And.intro @hN (@hnx)
    refine goA ?_
    clear gx
    simp
    exact ⟨_, _, ⟨rfl, rfl⟩, hfin _⟩
end Go.Kz

/-
  The table of the readers' functions.
-/
namespace Go.Kz
open Go Go.Proofs
set_option maxRecDepth 10000

theorem pflat_tk (t : Tk) : PD.flat (Em.tk.emb t) = true := by simp [PD.flat, PD.flatL]
theorem clone_ok {E : PExt} (hU : Uni E) (hE : ExtOk Tryd.prog E) (h0 : E 39 = none) : ExtOk Tryd.prog (E.add 39 (entry (gf1 tks tks fun l => gif (l.length ≤ 100000) (some l)))) := by
  refine hE.addCases follows fun args p hg => ?_
  unfold gf1 at hg
  split at hg
  · rename_i x
    split at hg
    · rename_i l hx
      split at hg
      · rename_i z hz
        obtain ⟨hl, hz⟩ := gif_some hz
        simp only [Option.some.injEq] at hg hz
        subst hg hz
        have hs := Em.of_dec hx
        refine ⟨by simp only [List.map_cons, List.map_nil, hs, PD.idfreeL, Bool.and_true]; exact tks.fre l, tks.fre l, fun c vs hv => ?_⟩
        simp only [List.map_cons, List.map_nil, hs] at hv
        by_cases hl0 : l = []
        · subst hl0
          rcases nil_or (n := 0) hv with h | h
          · exact ⟨_, h, r_Clone0 hU h0⟩
          · exact ⟨_, h, r_Clone1 hU h0⟩
        · exact ⟨_, hv, r_Clone hU h0 l hl0 hl⟩
      · cases hg
    · cases hg
  · cases hg
theorem next_ok {E : PExt} (hU : Uni E) (hE : ExtOk Tryd.prog E) (h0 : E 21 = none) : ExtOk Tryd.prog (E.add 21 (rentry gNext)) := hE.addRead follows fun args p hg => by
  unfold gNext at hg
  split at hg
  · rename_i s n
    split at hg
    · rename_i l hd
      obtain ⟨⟨e, h1, h2, h3⟩, hg2⟩ := gif_some hg
      simp only [Option.some.injEq] at hg2
      subst e hg2
      obtain ⟨k, rfl⟩ : ∃ k : Nat, n = k := ⟨n.toNat, by omega⟩
      rw [Int.toNat_natCast]
      exact ⟨r_Next hU h0 l k (by omega) h3, by simp only [PD.idfreeL, PD.idfree, Bool.and_true]; exact tks.fre l, by simp [PD.flat, PD.flatL]⟩
    · cases hg
  · simp only [Option.some.injEq] at hg
    subst hg
    exact ⟨r_Next0 hU h0, rfl, by simp [PD.flat, PD.flatL]⟩
  · cases hg
theorem at_ok {E : PExt} (hU : Uni E) (hE : ExtOk Tryd.prog E) (h0 : E 26 = none) : ExtOk Tryd.prog (E.add 26 (rentry gAt)) := hE.addRead follows fun args p hg => by
  unfold gAt at hg
  split at hg
  · rename_i s n
    split at hg
    · rename_i l hd
      obtain ⟨⟨e, h1, h2, h3⟩, hg2⟩ := gif_some hg
      simp only [Option.some.injEq] at hg2
      subst e hg2
      obtain ⟨k, rfl⟩ : ∃ k : Nat, n = k := ⟨n.toNat, by omega⟩
      rw [Int.toNat_natCast]
      exact ⟨r_At hU h0 l k (by omega) h3, by simp only [PD.idfreeL, PD.idfree, Bool.and_true]; exact tks.fre l, by simp [PD.flat, PD.flatL]⟩
    · cases hg
  · simp only [Option.some.injEq] at hg
    subst hg
    exact ⟨r_At0 hU h0, rfl, by simp [PD.flat, PD.flatL]⟩
  · cases hg
theorem left_ok {E : PExt} (hU : Uni E) (hE : ExtOk Tryd.prog E) (h0 : E 27 = none) : ExtOk Tryd.prog (E.add 27 (rentry gLeft)) := hE.addRead follows fun args p hg => by
  unfold gLeft at hg
  split at hg
  · rename_i s n
    split at hg
    · rename_i l hd
      obtain ⟨⟨e, h1, h2, h3⟩, hg2⟩ := gif_some hg
      simp only [Option.some.injEq] at hg2
      subst e hg2
      obtain ⟨k, rfl⟩ : ∃ k : Nat, n = k := ⟨n.toNat, by omega⟩
      exact ⟨r_Left hU h0 l k (by omega) h3, by simp only [PD.idfreeL, PD.idfree, Bool.and_true]; exact tks.fre l, rfl⟩
    · cases hg
  · simp only [Option.some.injEq] at hg
    subst hg
    exact ⟨r_Left0 hU h0, rfl, rfl⟩
  · cases hg
theorem take1_ok {E : PExt} (hU : Uni E) (hE : ExtOk Tryd.prog E) (h0 : E 41 = none) : ExtOk Tryd.prog (E.add 41 (rentry gTake1)) := hE.addRead follows fun args p hg => by
  unfold gTake1 at hg
  split at hg
  · split at hg
    · obtain ⟨e, hg2⟩ := gif_some hg
      simp only [Option.some.injEq] at hg2
      subst e hg2
      exact ⟨r_Take1 hU h0 _ _, by simp [PD.idfreeL, PD.idfree], rfl⟩
    · cases hg
  · cases hg
theorem skip1_ok {E : PExt} (hU : Uni E) (hE : ExtOk Tryd.prog E) (h0 : E 42 = none) : ExtOk Tryd.prog (E.add 42 (rentry gSkip1)) := hE.addRead follows fun args p hg => by
  unfold gSkip1 at hg
  split at hg
  · split at hg
    · obtain ⟨e, hg2⟩ := gif_some hg
      simp only [Option.some.injEq] at hg2
      subst e hg2
      exact ⟨r_Skip1 hU h0 _, by simp [PD.idfreeL, PD.idfree], rfl⟩
    · cases hg
  · cases hg
theorem keyword1_ok {E : PExt} (hU : Uni E) (hE : ExtOk Tryd.prog E) (h0 : E 43 = none) : ExtOk Tryd.prog (E.add 43 (rentry (gWord1 1))) := hE.addRead follows fun args p hg => by
  unfold gWord1 at hg
  split at hg
  · split at hg
    · obtain ⟨e, hg2⟩ := gif_some hg
      simp only [Option.some.injEq] at hg2
      subst e hg2
      exact ⟨r_Keyword1 hU h0 _ _, by simp [PD.idfreeL, PD.idfree], rfl⟩
    · cases hg
  · cases hg
theorem sign1_ok {E : PExt} (hU : Uni E) (hE : ExtOk Tryd.prog E) (h0 : E 44 = none) : ExtOk Tryd.prog (E.add 44 (rentry (gWord1 5))) := hE.addRead follows fun args p hg => by
  unfold gWord1 at hg
  split at hg
  · split at hg
    · obtain ⟨e, hg2⟩ := gif_some hg
      simp only [Option.some.injEq] at hg2
      subst e hg2
      exact ⟨r_Sign1 hU h0 _ _, by simp [PD.idfreeL, PD.idfree], rfl⟩
    · cases hg
  · cases hg
theorem r_positionI {E : PExt} (hU : Uni E) (h0 : E 30 = none) {l : List Tk} {n : Int} (h : 0 ≤ n ∧ n ≤ l.length ∧ l.length ≤ 100000) : Run Tryd.prog E 30 [tks.emb l, i64.emb n] (Em.pos.emb (posS l n.toNat)) := by
  obtain ⟨k, rfl⟩ : ∃ k : Nat, n = k := ⟨n.toNat, by omega⟩
  rw [Int.toNat_natCast]
  exact r_position hU h0 l k (by omega) h.2.2

noncomputable def Eo1 : PExt := Em8.add 39 (entry (gf1 tks tks fun l => gif (l.length ≤ 100000) (some l)))
theorem Eo1_uni : Uni Eo1 := Em8_uni.entry
theorem Eo1_ok : ExtOk Tryd.prog Eo1 := clone_ok Em8_uni Em8_ok rfl
noncomputable def Eo2 : PExt := Eo1.add 41 (rentry gTake1)
theorem Eo2_uni : Uni Eo2 := Eo1_uni.rentry
theorem Eo2_ok : ExtOk Tryd.prog Eo2 := take1_ok Eo1_uni Eo1_ok rfl
noncomputable def Eo3 : PExt := Eo2.add 42 (rentry gSkip1)
theorem Eo3_uni : Uni Eo3 := Eo2_uni.rentry
theorem Eo3_ok : ExtOk Tryd.prog Eo3 := skip1_ok Eo2_uni Eo2_ok rfl
noncomputable def Eo4 : PExt := Eo3.add 43 (rentry (gWord1 1))
theorem Eo4_uni : Uni Eo4 := Eo3_uni.rentry
theorem Eo4_ok : ExtOk Tryd.prog Eo4 := keyword1_ok Eo3_uni Eo3_ok rfl
noncomputable def Eo5 : PExt := Eo4.add 44 (rentry (gWord1 5))
theorem Eo5_uni : Uni Eo5 := Eo4_uni.rentry
theorem Eo5_ok : ExtOk Tryd.prog Eo5 := sign1_ok Eo4_uni Eo4_ok rfl
noncomputable def Eo6 : PExt := Eo5.add 21 (rentry gNext)
theorem Eo6_uni : Uni Eo6 := Eo5_uni.rentry
theorem Eo6_ok : ExtOk Tryd.prog Eo6 := next_ok Eo5_uni Eo5_ok rfl
noncomputable def Eo7 : PExt := Eo6.add 26 (rentry gAt)
theorem Eo7_uni : Uni Eo7 := Eo6_uni.rentry
theorem Eo7_ok : ExtOk Tryd.prog Eo7 := at_ok Eo6_uni Eo6_ok rfl
noncomputable def Eo8 : PExt := Eo7.add 27 (rentry gLeft)
theorem Eo8_uni : Uni Eo8 := Eo7_uni.rentry
theorem Eo8_ok : ExtOk Tryd.prog Eo8 := left_ok Eo7_uni Eo7_ok rfl
theorem Eo8_take : TakeE Eo8 := ⟨Eo8_uni, rfl, rfl, rfl, rfl, rfl, rfl⟩
noncomputable def Eo9 : PExt := Eo8.add 40 (qentry Tryd.prog Eo8 40 (RQ decIs outT))
theorem Eo9_uni : Uni Eo9 := Eo8_uni.qentry fun _ _ h => h.1 rfl
theorem Eo9_ok : ExtOk Tryd.prog Eo9 := Eo8_ok.addQ follows
noncomputable def Eo10 : PExt := Eo9.add 22 (qentry Tryd.prog Eo9 22 (RQ decTake outT))
theorem Eo10_uni : Uni Eo10 := Eo9_uni.qentry fun _ _ h => h.1 rfl
theorem Eo10_ok : ExtOk Tryd.prog Eo10 := Eo9_ok.addQ follows
noncomputable def Eo11 : PExt := Eo10.add 23 (qentry Tryd.prog Eo10 23 (RQ decSkip outB))
theorem Eo11_uni : Uni Eo11 := Eo10_uni.qentry fun _ _ h => h.1 rfl
theorem Eo11_ok : ExtOk Tryd.prog Eo11 := Eo10_ok.addQ follows
noncomputable def Eo12 : PExt := Eo11.add 24 (qentry0 Tryd.prog Eo11 24 (RQ (decWord 1) outB))
theorem Eo12_uni : Uni Eo12 := Eo11_uni.qentry0 fun _ _ h => h.1 rfl
theorem Eo12_ok : ExtOk Tryd.prog Eo12 := Eo11_ok.addQ0 follows
noncomputable def Eo13 : PExt := Eo12.add 25 (qentry0 Tryd.prog Eo12 25 (RQ (decWord 5) outB))
theorem Eo13_uni : Uni Eo13 := Eo12_uni.qentry0 fun _ _ h => h.1 rfl
theorem Eo13_ok : ExtOk Tryd.prog Eo13 := Eo12_ok.addQ0 follows
noncomputable def Eo14 : PExt := Eo13.add 28 (qentry Tryd.prog Eo13 28 RestQ)
theorem Eo14_uni : Uni Eo14 := Eo13_uni.qentry fun _ _ h => h.1 rfl
theorem Eo14_ok : ExtOk Tryd.prog Eo14 := Eo13_ok.addQ follows
noncomputable def Eo15 : PExt := Eo14.add 20 (qentry Tryd.prog Eo14 20 ReadQ)
theorem Eo15_uni : Uni Eo15 := Eo14_uni.qentry fun _ _ h => by
  obtain ⟨_, _, _, _, ⟨b, hb⟩, _⟩ := h
  simp at hb
theorem Eo15_ok : ExtOk Tryd.prog Eo15 := Eo14_ok.addQ follows
noncomputable def Eo16 : PExt := Eo15.add 30 (entry (gf2 tks i64 .pos fun l n => gif (0 ≤ n ∧ n ≤ l.length ∧ l.length ≤ 100000) (some (posS l n.toNat))))
theorem Eo16_uni : Uni Eo16 := Eo15_uni.entry
theorem Eo16_ok : ExtOk Tryd.prog Eo16 := Eo15_ok.add2 follows (fun x y z hz => by obtain ⟨hg, hz⟩ := gif_some hz; simp only [Option.some.injEq] at hz; subst hz; exact r_positionI Eo15_uni rfl hg)

/-- What a walk needs of the readers' methods. -/
structure RdE (E : PExt) where
  gT : Nat → List PD → List SObj → Option (PD × List SObj)
  eT : E 22 = some gT
  pT : ∀ {σ : List SObj} {r : PD} {l : List Tk} {n : Nat} (k : Int), σ ≠ [] → Rd σ r l n → n ≤ l.length → l.length ≤ 100000 → ∃ σ3, gT 0 [r, .int .i64 k] σ = some (outT (takeR (fun t => decide (t.kind = k)) l n).1, σ3) ∧ Rd σ3 r l (takeR (fun t => decide (t.kind = k)) l n).2 ∧ KpR r σ σ3 ∧ σ.length ≤ σ3.length
  gS : Nat → List PD → List SObj → Option (PD × List SObj)
  eS : E 23 = some gS
  pS : ∀ {σ : List SObj} {r : PD} {l : List Tk} {n : Nat}, σ ≠ [] → Rd σ r l n → n ≤ l.length → l.length ≤ 100000 → ∃ σ3, gS 0 [r] σ = some (outB (takeR (fun _ => true) l n).1, σ3) ∧ Rd σ3 r l (takeR (fun _ => true) l n).2 ∧ KpR r σ σ3 ∧ σ.length ≤ σ3.length
  gK : Nat → List PD → List SObj → Option (PD × List SObj)
  eK : E 24 = some gK
  zK : ∀ fl args σ, 0 < fl → gK fl args σ = none
  pK : ∀ {σ : List SObj} {r : PD} {l : List Tk} {n : Nat} (w : List UInt8), σ ≠ [] → Rd σ r l n → n ≤ l.length → l.length ≤ 100000 → ∃ σ3, gK 0 [r, .str w] σ = some (outB (takeR (isWord 1 w) l n).1, σ3) ∧ Rd σ3 r l (takeR (isWord 1 w) l n).2 ∧ KpR r σ σ3 ∧ σ.length ≤ σ3.length
  gG : Nat → List PD → List SObj → Option (PD × List SObj)
  eG : E 25 = some gG
  zG : ∀ fl args σ, 0 < fl → gG fl args σ = none
  pG : ∀ {σ : List SObj} {r : PD} {l : List Tk} {n : Nat} (w : List UInt8), σ ≠ [] → Rd σ r l n → n ≤ l.length → l.length ≤ 100000 → ∃ σ3, gG 0 [r, .str w] σ = some (outB (takeR (isWord 5 w) l n).1, σ3) ∧ Rd σ3 r l (takeR (isWord 5 w) l n).2 ∧ KpR r σ σ3 ∧ σ.length ≤ σ3.length
  gR : Nat → List PD → List SObj → Option (PD × List SObj)
  eR : E 28 = some gR
  pR : ∀ {σ : List SObj} {r : PD} {l : List Tk} {n : Nat}, σ ≠ [] → Rd σ r l n → n ≤ l.length → l.length ≤ 100000 → ∃ z tok σ3, gR 0 [r] σ = some (.slice z ((restS (l.drop n)).map Em.tk.emb) tok, σ3) ∧ tks.dec (.slice z ((restS (l.drop n)).map Em.tk.emb) tok) = some (restS (l.drop n)) ∧ Rd σ3 r l (n + restN (l.drop n)) ∧ KpR r σ σ3
  gC : Nat → List PD → List SObj → Option (PD × List SObj)
  eC : E 20 = some gC
  pC : ∀ {σ : List SObj} {s : PD} {l : List Tk}, tks.dec s = some l → l.length ≤ 100000 → ∃ id σ3, gC 0 [s] σ = some (.ptr id 0, σ3) ∧ σ.length ≤ id ∧ Rd σ3 (.ptr id 0) l 0 ∧ ∀ (j : Nat) (q : PD), σ[j]? = some (.box q) → σ3[j]? = some (.box q)
  eN : E 21 = some (rentry gNext)
  eA : E 26 = some (rentry gAt)
  eL : E 27 = some (rentry gLeft)

noncomputable def Eo16_rd : RdE Eo16 where
  gT := _
  eT := rfl
  pT := fun k hs h hn hl => by
    obtain ⟨p3, σ3, hp, hQ⟩ := qentry_of (w_Take Eo9_uni Eo8_take rfl rfl k hs h hn hl)
    obtain ⟨rfl, e⟩ := hQ.2 _ _ _ _ ⟨k, rfl, rfl⟩ h
    exact ⟨σ3, hp, e⟩
  gS := _
  eS := rfl
  pS := fun hs h hn hl => by
    obtain ⟨p3, σ3, hp, hQ⟩ := qentry_of (w_Skip Eo10_uni Eo8_take rfl rfl hs h hn hl)
    obtain ⟨rfl, e⟩ := hQ.2 _ _ _ _ ⟨rfl, rfl⟩ h
    exact ⟨σ3, hp, e⟩
  gK := _
  eK := rfl
  zK := qentry0_pos
  pK := fun w hs h hn hl => by
    obtain ⟨p3, σ3, hp, hQ⟩ := qentry0_of (w_Keyword Eo11_uni Eo8_take rfl rfl w hs h hn hl)
    obtain ⟨rfl, e⟩ := hQ.2 _ _ _ _ ⟨w, rfl, rfl⟩ h
    exact ⟨σ3, hp, e⟩
  gG := _
  eG := rfl
  zG := qentry0_pos
  pG := fun w hs h hn hl => by
    obtain ⟨p3, σ3, hp, hQ⟩ := qentry0_of (w_Sign Eo12_uni Eo8_take rfl rfl w hs h hn hl)
    obtain ⟨rfl, e⟩ := hQ.2 _ _ _ _ ⟨w, rfl, rfl⟩ h
    exact ⟨σ3, hp, e⟩
  gR := _
  eR := rfl
  pR := fun hs h hn hl => by
    obtain ⟨p3, σ3, hp, hQ⟩ := qentry_of (w_Rest Eo13_uni rfl rfl hs h hn hl)
    obtain ⟨⟨z, tok, rfl⟩, e1, e2, e3⟩ := hQ.2 _ _ _ rfl h
    exact ⟨z, tok, σ3, hp, e1, e2, e3⟩
  gC := _
  eC := rfl
  pC := fun hd hl => by
    obtain ⟨p3, σ3, hp, hQ⟩ := qentry_of (w_Read Eo14_uni rfl rfl hd hl)
    obtain ⟨id, rfl, e1, e2, _, e3⟩ := hQ
    exact ⟨id, σ3, hp, e1, e2 _ _ rfl hd, e3⟩
  eN := rfl
  eA := rfl
  eL := rfl
end Go.Kz

/-
  Layer 19: LexerNil, walked.
-/
namespace Go.Kz
open Go Go.Proofs

theorem keepAll {σ σ' : List SObj} {r : PD} {l : List Tk} {n : Nat} (h : Rd σ r l n) (h' : Rd σ' r l n) (k : KpR r σ σ') : ∀ (j : Nat) (q : PD), σ[j]? = some (.box q) → σ'[j]? = some (.box q) := by
  intro j q hj
  by_cases e : r = .ptr j 0
  · subst e
    rcases h with ⟨e, _⟩ | ⟨id, e, h⟩
    · cases e
    · cases e
      rcases h' with ⟨e, _⟩ | ⟨id, e, h'⟩
      · cases e
      · cases e
        rw [h] at hj
        rw [h', hj]
  · exact k j q e hj
theorem app_l {σ τ : List SObj} {j : Nat} {x : SObj} (h : σ[j]? = some x) : (σ ++ τ)[j]? = some x := by rw [List.getElem?_append_left (List.getElem?_eq_some_iff.1 h).1]; exact h
abbrev zT : PD := .agg [.int .i64 0, .str [], .int .i64 0, .int .i64 0, .int .i64 0, .int .i64 0, .int .i64 0]

variable {E : PExt} (hU : Uni E)
include hU
set_option maxRecDepth 10000
set_option maxHeartbeats 4000000

theorem r_Nil (h0 : E 9 = none) (h2 : E 11 = some (entry (gf0 .bool (some true)))) (R : RdE E) (m0 : Int) (k : Int) (w : List UInt8) :
    Run Tryd.prog E 9 [.agg [.int .u8 m0, .int .i64 k, .str w]] (Em.bool.emb true) := by
  apply Run.bodyL h0 Tryd.func9 rfl
  focus (simp [show Tryd.f9.ntmps = _ from rfl, List.replicate]; rfl)
  have hC := R.eC
  have hd : tks.dec (.slice 0 [] .full) = some [] := Em.dec_some rfl
  obtain ⟨id, σ3, pC, c1, c2, c3⟩ := R.pC (σ := [.box (.agg [.int .u8 m0, .int .i64 k, .str w])]) hd (by simp)
  have hid : id < σ3.length := by
    rcases c2 with ⟨e, _⟩ | ⟨id', e, h⟩
    · cases e
    · cases e
      exact (List.getElem?_eq_some_iff.1 h).1
  have gx := And.intro @h2 (And.intro @hC (@pC))
  refine goA ?_
  clear gx
  have hz : (0 : Nat) < 1 := by decide
  refine Wp.loopI (fun m fr σ => ∃ (i : Nat) (σ1 : List SObj), ∃ gg : Nat → PD, (i + m = 2 ∧ σ1[0]? = some (.box (.agg [.int .u8 m0, .int .i64 k, .str w])) ∧ Rd σ1 (.ptr id 0) [] 0) ∧ fr = .agg [.int .u8 m0, .int .i64 k, .str w] :: .ptr 0 0 :: .bool false :: gg 3 :: gg 4 :: gg 5 :: gg 6 :: gg 7 :: gg 8 :: gg 9 :: gg 10 :: gg 11 :: .slice 1 [.nilptr, .ptr id 0] .full :: .int .i64 2 :: .int .i64 i :: gg 15 :: gg 16 :: gg 17 :: gg 18 :: gg 19 :: gg 20 :: gg 21 :: gg 22 :: gg 23 :: gg 24 :: gg 25 :: gg 26 :: gg 27 :: gg 28 :: gg 29 :: gg 30 :: gg 31 :: gg 32 :: gg 33 :: gg 34 :: gg 35 :: gg 36 :: gg 37 :: gg 38 :: gg 39 :: gg 40 :: gg 41 :: gg 42 :: gg 43 :: gg 44 :: gg 45 :: gg 46 :: gg 47 :: gg 48 :: gg 49 :: gg 50 :: gg 51 :: gg 52 :: gg 53 :: gg 54 :: gg 55 :: gg 56 :: gg 57 :: gg 58 :: gg 59 :: gg 60 :: gg 61 :: gg 62 :: gg 63 :: gg 64 :: gg 65 :: gg 66 :: gg 67 :: gg 68 :: gg 69 :: gg 70 :: gg 71 :: gg 72 :: gg 73 :: gg 74 :: gg 75 :: gg 76 :: gg 77 :: [] ∧ σ = σ1) ?_ (2) (by refine ⟨0, σ3, ?_⟩; exact exF (⟨by omega, c3 0 _ rfl, c2⟩) (by (first | rfl | (simp []; repeat (first | rfl | (apply And.intro))) | (simp []; done))) (by (first | rfl | (simp []; repeat (first | rfl | (apply And.intro))) | (simp []; done))))
  rintro m fr σ ⟨i, σ1, gg, hI, rfl, rfl⟩
  obtain ⟨hm, hb0, hrd⟩ := hI
  by_cases hi : i < 2
  · have q1 : (i : Int) < 2 := by omega
    have one : ∀ r : PD, Rd σ r [] 0 → ∃ σb σd σe σf z tok σg, rentry gNext 0 [r] σ = some (.tup [zT, .bool false], σ) ∧ R.gT 0 [r, .int .i64 k] (σ ++ [.box zT]) = some (.tup [zT, .bool false], σb) ∧
        R.gS 0 [r] (σb ++ [.box zT]) = some (.bool false, σd) ∧ R.gK 0 [r, .str w] σd = some (.bool false, σe) ∧ R.gG 0 [r, .str w] σe = some (.bool false, σf) ∧ rentry gAt 0 [r] σf = some (.agg [.int .i64 0, .int .i64 0], σf) ∧ rentry gLeft 0 [r] σf = some (.int .i64 0, σf) ∧
        R.gR 0 [r] σf = some (.slice z [] tok, σg) ∧ (σb ++ [.box zT])[σ.length]? = some (.box zT) ∧ (σb ++ [.box zT])[σb.length]? = some (.box zT) ∧ σd[0]? = some (.box (.agg [.int .u8 m0, .int .i64 k, .str w])) ∧ σe[0]? = some (.box (.agg [.int .u8 m0, .int .i64 k, .str w])) ∧ σg[0]? = some (.box (.agg [.int .u8 m0, .int .i64 k, .str w])) ∧ Rd σg (.ptr id 0) [] 0 := by
      intro r hr
      have hl0 : ([] : List Tk).length ≤ 100000 := by simp
      have hn0 : 0 ≤ ([] : List Tk).length := Nat.le_refl _
      have hne : ∀ {σ : List SObj}, σ[0]? = some (.box (.agg [.int .u8 m0, .int .i64 k, .str w])) → σ ≠ [] := fun h e => by rw [e] at h; simp at h
      obtain ⟨σb, b1, b2, b3, _⟩ := R.pT (σ := σ ++ [.box zT]) k (by simp) hr.more hn0 hl0
      have b2 : Rd σb r [] 0 := b2
      have kb : ∀ (j : Nat) (q : PD), σ[j]? = some (.box q) → (σb ++ [.box zT])[j]? = some (.box q) := fun j q h => app_l (keepAll hr.more b2 b3 j q (app_l h))
      have hb : (σb ++ [.box zT])[σ.length]? = some (.box zT) := app_l (keepAll hr.more b2 b3 _ _ (by simp))
      obtain ⟨σd, d1, d2, d3, _⟩ := R.pS (σ := σb ++ [.box zT]) (by simp) b2.more hn0 hl0
      have d2 : Rd σd r [] 0 := d2
      have kd : ∀ (j : Nat) (q : PD), σ[j]? = some (.box q) → σd[j]? = some (.box q) := fun j q h => keepAll b2.more d2 d3 j q (kb j q h)
      obtain ⟨σe, e1, e2, e3, _⟩ := R.pK (σ := σd) w (hne (kd _ _ hb0)) d2 hn0 hl0
      have e2 : Rd σe r [] 0 := e2
      have ke : ∀ (j : Nat) (q : PD), σ[j]? = some (.box q) → σe[j]? = some (.box q) := fun j q h => keepAll d2 e2 e3 j q (kd j q h)
      obtain ⟨σf, f1, f2, f3, _⟩ := R.pG (σ := σe) w (hne (ke _ _ hb0)) e2 hn0 hl0
      have f2 : Rd σf r [] 0 := f2
      have kf : ∀ (j : Nat) (q : PD), σ[j]? = some (.box q) → σf[j]? = some (.box q) := fun j q h => keepAll e2 f2 f3 j q (ke j q h)
      obtain ⟨z, tok, σg, g1, _, g2, g3⟩ := R.pR (σ := σf) (hne (kf _ _ hb0)) f2 hn0 hl0
      have g2 : Rd σg r [] 0 := g2
      have kg : ∀ (j : Nat) (q : PD), σ[j]? = some (.box q) → σg[j]? = some (.box q) := fun j q h => keepAll f2 g2 g3 j q (kf j q h)
      refine ⟨σb, σd, σe, σf, z, tok, σg, next_at hr hn0 hl0 0, b1, d1, e1, f1, at_at f2 hn0 hl0 0, left_at f2 hn0 hl0 0, g1, hb, by simp, kd _ _ hb0, ke _ _ hb0, kg _ _ hb0, ?_⟩
      rcases hrd with ⟨e, _⟩ | ⟨id', e, h⟩
      · cases e
      · cases e
        exact .inr ⟨_, rfl, kg _ _ h⟩
    have hb1 : ∀ x : SObj, (σ ++ [x])[0]? = some (.box (.agg [.int .u8 m0, .int .i64 k, .str w])) := fun x => app_l hb0
    have hb2 : ∀ (x : SObj) (h : 0 < (σ ++ [x]).length), (σ ++ [x])[0]'h = .box (.agg [.int .u8 m0, .int .i64 k, .str w]) := fun x h => by have := hb1 x; rw [List.getElem?_eq_getElem h] at this; simpa using this
    rcases (show i = 0 ∨ i = 1 by omega) with rfl | rfl
    · obtain ⟨σb, σd, σe, σf, z, tok, σg, x1, x2, x3, x4, x5, x6, x7, x8, x9, x10, x11, x12, x13, x14⟩ := one .nilptr (.inl ⟨rfl, rfl, rfl⟩)
      have gx := And.intro @q1 (And.intro @R.eN (And.intro @R.eT (And.intro @R.eS (And.intro @R.eK (And.intro @R.eG (And.intro @R.eA (And.intro @R.eL (And.intro @R.eR (And.intro @x1 (And.intro @x2 (And.intro @x3 (And.intro @x4 (And.intro @x5 (And.intro @x6 (And.intro @x7 (And.intro @x8 (And.intro @x9 (And.intro @x10 (And.intro @x11 (And.intro @x12 (And.intro @hb0 (And.intro @hb1 (@hb2)))))))))))))))))))))))
      refine goA ?_
      clear gx
      refine LoopI.normal (m - 1) (by omega) (by refine ⟨1, σg, ?_⟩; exact exF (⟨by omega, x13, x14⟩) (by (first | rfl | (simp []; repeat (first | rfl | (apply And.intro))) | (simp []; done))) (by (first | rfl | (simp []; repeat (first | rfl | (apply And.intro))) | (simp []; done))))
    · obtain ⟨σb, σd, σe, σf, z, tok, σg, x1, x2, x3, x4, x5, x6, x7, x8, x9, x10, x11, x12, x13, x14⟩ := one (.ptr id 0) hrd
      have gx := And.intro @q1 (And.intro @R.eN (And.intro @R.eT (And.intro @R.eS (And.intro @R.eK (And.intro @R.eG (And.intro @R.eA (And.intro @R.eL (And.intro @R.eR (And.intro @x1 (And.intro @x2 (And.intro @x3 (And.intro @x4 (And.intro @x5 (And.intro @x6 (And.intro @x7 (And.intro @x8 (And.intro @x9 (And.intro @x10 (And.intro @x11 (And.intro @x12 (And.intro @hb0 (And.intro @hb1 (@hb2)))))))))))))))))))))))
      refine goA ?_
      clear gx
      refine LoopI.normal (m - 1) (by omega) (by refine ⟨2, σg, ?_⟩; exact exF (⟨by omega, x13, x14⟩) (by (first | rfl | (simp []; repeat (first | rfl | (apply And.intro))) | (simp []; done))) (by (first | rfl | (simp []; repeat (first | rfl | (apply And.intro))) | (simp []; done))))
  · have q1 : ¬ (i : Int) < 2 := by omega
    have gx := @q1
    refine goA ?_
    clear gx
    simp (disch := first | omega | (simp; done) | (simp; omega)) [decide_eq_decide] <;> try rfl
end Go.Kz

/-
  What LexerNil and LexerReads are handed.
-/
namespace Go.Proofs.YtngmkfjeekpnpaaDoor
open Go Go.Kz Go.ChangeShapes Go.WideShapes Go.ChangeAt Go.WideMaps Go.WideElems Go.RowKit
set_option maxRecDepth 100000
theorem ty_call {d : Nat} {qs : List PD} (h : Typed Tryd.prog (d + 2) 46 qs) : ∃ (m k : Int) (w : List UInt8), asPD Tryd.prog 46 qs = .agg [.int .u8 m, .int .i64 k, .str w] := by
  obtain ⟨q0, r0, rfl, h0, h⟩ := typedF_cons (typed_struct Tryd.underlying46 h)
  obtain ⟨q1, r1, rfl, h1, h⟩ := typedF_cons h
  obtain ⟨q2, r2, rfl, h2, h⟩ := typedF_cons h
  obtain rfl := typedF_nil h
  obtain ⟨a, rfl, _⟩ := typed_int Tryd.underlying5 h0
  obtain ⟨b, rfl, _⟩ := typed_int Tryd.underlying3 h1
  obtain ⟨c, rfl, _⟩ := typed_str Tryd.underlying9 h2
  exact ⟨a, b, c, asPD_agg (by kernel_rfl)⟩
end Go.Proofs.YtngmkfjeekpnpaaDoor

/-
  Layer 19: the law's step.
-/
namespace Go.Kz
open Go Go.Proofs

/-- What the law's take does. -/
def Step1Q : List PD → List SObj → PD → List SObj → Prop := fun args σ p σ' => σ ≠ [] ∧ ∀ x s1 a1 b a n, args = [.bool x, .ptr s1 0, .ptr a1 0] → σ[s1]? = some (.box (.bool b)) → σ[a1]? = some (.box (.ptr a 0)) → σ[a]? = some (.box (.int .i64 n)) →
  p = .bool (b && x) ∧ σ' = if (b && x) = true then σ.set a (.box (.int .i64 (n + 1))) else σ

variable {E : PExt} (hU : Uni E)
include hU
set_option maxRecDepth 10000
set_option maxHeartbeats 4000000

theorem w_step1 (h0 : E 45 = none) {σ : List SObj} {x b : Bool} {s1 a1 a : Nat} {n : Int} (h1 : σ[s1]? = some (.box (.bool b))) (h2 : σ[a1]? = some (.box (.ptr a 0))) (h3 : σ[a]? = some (.box (.int .i64 n))) (hn : 0 ≤ n ∧ n ≤ 1000000) :
    WpC Tryd.prog E 0 (.inl 45) [.bool x, .ptr s1 0, .ptr a1 0] σ (Step1Q [.bool x, .ptr s1 0, .ptr a1 0] σ) := by
  have hpost : ∀ p σ', p = .bool (b && x) → σ' = (if (b && x) = true then σ.set a (.box (.int .i64 (n + 1))) else σ) → Step1Q [.bool x, .ptr s1 0, .ptr a1 0] σ p σ' := by
    rintro p σ' rfl rfl
    refine ⟨fun e => by rw [e] at h1; simp at h1, ?_⟩
    intro x' s1' a1' b' a' n' e k1 k2 k3
    simp only [List.cons.injEq, PD.bool.injEq, PD.ptr.injEq, and_true] at e
    obtain ⟨rfl, rfl, rfl⟩ := e
    rw [h1] at k1
    rw [h2] at k2
    cases k1
    cases k2
    rw [h3] at k3
    cases k3
    exact ⟨rfl, rfl⟩
  have ha : a < σ.length := (List.getElem?_eq_some_iff.1 h3).1
  have h3' : σ[a] = .box (.int .i64 n) := by rw [List.getElem?_eq_getElem ha] at h3; simpa using h3
  cases b with
  | false =>
    have hfin := hpost _ _ rfl rfl
    apply WpC.bodyL h0 Tryd.func45 rfl
    focus (simp [show Tryd.f45.ntmps = _ from rfl, List.replicate]; rfl)
    have gx := And.intro @h1 (@h2)
    refine goA ?_
    clear gx
    simp
    exact ⟨_, _, ⟨rfl, rfl⟩, hfin⟩
  | true =>
    cases x with
    | false =>
      have hfin := hpost _ _ rfl rfl
      apply WpC.bodyL h0 Tryd.func45 rfl
      focus (simp [show Tryd.f45.ntmps = _ from rfl, List.replicate]; rfl)
      have gx := And.intro @h1 (@h2)
      refine goA ?_
      clear gx
      simp
      exact ⟨_, _, ⟨rfl, rfl⟩, hfin⟩
    | true =>
      have hfin := hpost _ _ rfl rfl
      have hset : ∀ y, (σ.set a y)[s1]? = if a = s1 then some y else σ[s1]? := fun y => by rw [List.getElem?_set]; split <;> simp_all
      have hne : a ≠ s1 := by
        rintro rfl
        rw [h1] at h3
        cases h3
      have hs2 : ∀ y, (σ.set a y)[s1]? = some (.box (.bool true)) := fun y => by rw [List.getElem?_set_ne hne]; exact h1
      apply WpC.bodyL h0 Tryd.func45 rfl
      focus (simp [show Tryd.f45.ntmps = _ from rfl, List.replicate]; rfl)
      have gx := And.intro @h1 (And.intro @h2 (And.intro @h3 (And.intro @h3' (And.intro @ha (@hs2)))))
      refine goA ?_
      clear gx
      simp
      exact ⟨_, _, ⟨rfl, rfl⟩, hfin⟩

end Go.Kz

/-
  Layer 19: the law's step.
-/
namespace Go.Kz
open Go Go.Proofs

abbrev callD (m k : Int) (w : List UInt8) : PD := .agg [.int .u8 m, .int .i64 k, .str w]
/-- What step does. -/
def StepQ : List PD → List SObj → PD → List SObj → Prop := fun args σ p σ' => σ ≠ [] ∧ ∀ r l c a n, args = [r, tks.emb l, c, .ptr a 0] → Rd σ r l n → σ[a]? = some (.box (.int .i64 (n : Nat))) → n ≤ l.length →
  p = .bool true ∧ ∃ n', n' ≤ l.length ∧ Rd σ' r l n' ∧ σ'[a]? = some (.box (.int .i64 (n' : Nat)))
/-- What step's take answers. -/
def S1 (g : Nat → List PD → List SObj → Option (PD × List SObj)) : Prop := ∀ {σ : List SObj} {x b : Bool} {s1 a1 a : Nat} {n : Int}, σ[s1]? = some (.box (.bool b)) → σ[a1]? = some (.box (.ptr a 0)) → σ[a]? = some (.box (.int .i64 n)) → 0 ≤ n ∧ n ≤ 1000000 →
  g 0 [.bool x, .ptr s1 0, .ptr a1 0] σ = some (.bool (b && x), if (b && x) = true then σ.set a (.box (.int .i64 (n + 1))) else σ)

theorem at_get {τ : List SObj} {i : Nat} {x : SObj} (h : τ[i]? = some x) : ∀ h' : i < τ.length, τ[i]'h' = x := fun h' => by rw [List.getElem?_eq_getElem h'] at h; simpa using h

variable {E : PExt} (hU : Uni E)
include hU
set_option maxRecDepth 10000
set_option maxHeartbeats 4000000

theorem w_step (h0 : E 29 = none) (R : RdE E) {g1 : Nat → List PD → List SObj → Option (PD × List SObj)} (e1 : E 45 = some g1) (p1 : S1 g1) (hSame : E 14 = some (entry (gf3 tks tks .bool .bool fun l r all => gif (l.length ≤ 100000000000) (some (sameTs all l r))))) {σ : List SObj} {r : PD} {l : List Tk} {n a : Nat} (m k : Int) (w : List UInt8) (h : Rd σ r l n) (ha : σ[a]? = some (.box (.int .i64 n))) (hn : n ≤ l.length) (hl : l.length ≤ 100000) :
    WpC Tryd.prog E 0 (.inl 29) [r, tks.emb l, callD m k w, .ptr a 0] σ (StepQ [r, tks.emb l, callD m k w, .ptr a 0] σ) := by
  have hra : r ≠ .ptr a 0 := by
    rintro rfl
    rcases h with ⟨e, _⟩ | ⟨id, e, h⟩
    · cases e
    · cases e
      rw [h] at ha
      cases ha
  have hpost : ∀ n' σ', n' ≤ l.length → Rd σ' r l n' → σ'[a]? = some (.box (.int .i64 (n' : Nat))) → StepQ [r, tks.emb l, callD m k w, .ptr a 0] σ (.bool true) σ' := by
    intro n' σ' e1 e2 e3
    refine ⟨fun e => by rw [e] at ha; simp at ha, ?_⟩
    intro r' l' c' a' n2 e k1 k2 k3
    simp only [List.cons.injEq, PD.ptr.injEq, and_true] at e
    obtain ⟨rfl, e, rfl, rfl⟩ := e
    obtain rfl := tks.inj e
    exact ⟨rfl, n', e1, e2, e3⟩
  have hal : a < σ.length := (List.getElem?_eq_some_iff.1 ha).1
  have ha' : σ[a] = .box (.int .i64 n) := by rw [List.getElem?_eq_getElem hal] at ha; simpa using ha
  have ha2 : ∀ x y : SObj, (σ ++ [x, y])[a]? = some (.box (.int .i64 n)) := fun x y => app_l ha
  have hn6 : 0 ≤ (n : Int) ∧ (n : Int) ≤ 1000000 := by omega
  have en : (n : Int) + 1 = ((n + 1 : Nat) : Int) := by omega
  have hrS : ∀ j, σ.length ≤ j → r ≠ .ptr j 0 := fun j hj => h.ne hj
  by_cases q1 : n < l.length
  · have q2 : (n : Int) < (l.length : Int) := by omega
    obtain ⟨X, ht⟩ : ∃ X, l[n] = X := ⟨_, rfl⟩
    have hN : nextS l n = (X, true) := by simp [nextS, q1, ht]
    have hT : ∀ q : Tk → Bool, takeR q l n = if q X = true then ((X, true), n + 1) else ((noTk, false), n) := fun q => by simp [takeR, q1, ht]
    have hn1 : n + 1 ≤ l.length := q1
    apply WpC.bodyL h0 Tryd.func29 rfl
    focus (simp [show Tryd.f29.ntmps = _ from rfl, List.replicate]; rfl)
    have gx := And.intro @hal (And.intro @ha (And.intro @ha' (And.intro @ha2 (And.intro @q1 (And.intro @q2 (@ht))))))
    refine goA ?_
    clear gx
    generalize hτ : (σ ++ [.box (callD m k w), .box (.ptr a 0), .box (.agg [.int .i64 X.kind, .str X.text, .int .i64 X.num, .int .i64 X.feet.1, .int .i64 X.feet.2, .int .i64 X.line, .int .i64 X.col]), .box (.bool true)]) = τ
    have jx : τ[σ.length + 2]? = some (.box (.agg [.int .i64 X.kind, .str X.text, .int .i64 X.num, .int .i64 X.feet.1, .int .i64 X.feet.2, .int .i64 X.line, .int .i64 X.col])) := by subst hτ; simp
    have jb : τ[σ.length + 3]? = some (.box (.bool true)) := by subst hτ; simp
    have jc : τ[σ.length]? = some (.box (.agg [.int .u8 m, .int .i64 k, .str w])) := by subst hτ; simp
    have jp : τ[σ.length + 1]? = some (.box (.ptr a 0)) := by subst hτ; simp
    have ja : τ[a]? = some (.box (.int .i64 n)) := by subst hτ; exact app_l ha
    have jr : Rd τ r l n := by subst hτ; exact h.more
    have jl : τ.length = σ.length + 4 := by subst hτ; simp
    clear hτ
    have jx' := at_get jx
    have jb' := at_get jb
    have jc' := at_get jc
    have jp' := at_get jp
    have ja' := at_get ja
    have jnn : τ ≠ [] := fun e => by rw [e] at jl; simp at jl
    by_cases m0 : m.tmod 6 = 0
    · rw [decide_eq_true m0]
      have hnx := next_at jr hn hl 0
      rw [hN] at hnx
      have i1 : ∀ x, (τ ++ [x])[σ.length + 2]? = some (.box (.agg [.int .i64 X.kind, .str X.text, .int .i64 X.num, .int .i64 X.feet.1, .int .i64 X.feet.2, .int .i64 X.line, .int .i64 X.col])) := fun x => app_l jx
      have i2 : ∀ x, (τ ++ [x])[σ.length + 3]? = some (.box (.bool true)) := fun x => app_l jb
      have i3 : ∀ x, (τ ++ [x])[σ.length + 4]? = some x := fun x => by rw [← jl]; simp
      have hfin := fun x => hpost n (τ ++ [x]) hn jr.more (app_l ja)
      have gx := And.intro @R.eN (And.intro @hnx (And.intro @jl (And.intro @jx (And.intro @jb (And.intro @jx' (And.intro @jb' (And.intro @i1 (And.intro @i2 (@i3)))))))))
      refine goA ?_
      clear gx
      simp
      exact ⟨_, _, ⟨rfl, rfl⟩, hfin _⟩
    rw [decide_eq_false m0]
    by_cases m1 : m.tmod 6 = 1
    · obtain ⟨σ3, k1, k2, k3, k4⟩ := R.pS jnn jr hn hl
      rw [hT] at k1 k2
      simp only [if_true, outB] at k1 k2
      have c1 := k3 _ _ (hrS _ (by omega)) jb
      have c2 := k3 _ _ (hrS _ (by omega)) jp
      have c3 := k3 _ _ hra ja
      have c4 := p1 (x := true) c1 c2 c3 hn6
      have c5 : a < σ3.length := (List.getElem?_eq_some_iff.1 c3).1
      have hfin := hpost (n + 1) (σ3.set a (.box (.int .i64 ((n : Int) + 1)))) hn1 (k2.set hra) (by rw [List.getElem?_set_self c5, en])
      have gx := @m1
      refine goA ?_
      clear gx
      first | refine Wp.seq ?_ | skip
      apply Wp.regionS
      repeat (first
        | (refine Fr.i ?_; simp only [pput, List.set_cons_zero, List.set_cons_succ]; try rfl)
        | (refine By.i ?_; (focus (simp (disch := first | omega | (simp; done) | (simp; omega)) [wrap_i64, wrap_u64, R.eS, k1, e1, c4]; first | done | rfl | exact ⟨rfl, rfl⟩)))
        | (refine By.i ?_; simp (disch := first | omega | (simp; done) | (simp; omega)) [wrap_i64, wrap_u64, R.eS, k1, e1, c4]; refine ⟨(by (try simp only [List.length_append, List.length_cons, List.length_nil, maxLen]); omega), rfl⟩)
        | (refine Wt.i ?_; first | rfl | (focus (simp [R.eS, k1, e1, c4]; done)))
        | (refine Ns.i ?_; (try simp only [List.append_nil, List.nil_append, List.cons_append, List.append_assoc, List.length_append, List.length_cons, List.length_nil, Nat.zero_add, Nat.reduceAdd]); rfl) | rfl
        | (apply SL.pass; (focus (refine Wt.i ?_; rfl))) | (apply SL.convertR; (focus rfl)) | apply SL.move | apply SL.assign | apply SL.load | apply SL.isnilE | apply SL.isnilN | apply SL.make | apply SL.binOp | apply SL.append
        | apply SL.builtin | apply SL.fieldAddr | apply SL.indexAddr | apply SL.field | apply SL.extract | apply SL.fcall | apply SL.pick | apply SL.store | apply SL.unOp | apply SL.convert | apply SL.index | apply SL.slice | apply SL.build
        | apply SL.nilCheck | apply SL.buildSlice | apply SL.box | apply SL.alloc | apply SL.makeFunc)
      apply SQ.nil
      have gx := True.intro
      refine goA ?_
      clear gx
      simp
      exact ⟨_, _, ⟨rfl, rfl⟩, hfin⟩
    by_cases m2 : m.tmod 6 = 2
    · obtain ⟨σ3, k1, k2, k3, k4⟩ := R.pT k jnn jr hn hl
      rw [hT] at k1 k2
      have c1 := k3 _ _ (hrS _ (by omega)) jb
      have c2 := k3 _ _ (hrS _ (by omega)) jp
      have c3 := k3 _ _ hra ja
      have c6 := k3 _ _ (hrS _ (by omega)) jx
      have c7 := k3 _ _ (hrS _ (by omega)) jc
      have c5 : a < σ3.length := (List.getElem?_eq_some_iff.1 c3).1
      by_cases kk : X.kind = k
      · rw [if_pos (decide_eq_true kk)] at k1 k2
        subst kk
        have p2 := p1 (x := true) (app_l (τ := [.box (.agg [.int .i64 X.kind, .str X.text, .int .i64 X.num, .int .i64 X.feet.1, .int .i64 X.feet.2, .int .i64 X.line, .int .i64 X.col])]) c1) (app_l c2) (app_l c3) hn6
        simp only [Bool.and_self, if_true] at p2
        have f := hpost (n + 1) ((σ3 ++ [SObj.box (.agg [.int .i64 X.kind, .str X.text, .int .i64 X.num, .int .i64 X.feet.1, .int .i64 X.feet.2, .int .i64 X.line, .int .i64 X.col])]).set a (.box (.int .i64 ((n : Int) + 1)))) hn1 (Rd.set (Rd.more k2) hra) (by rw [List.getElem?_set_self (by simp; omega), en])
        have f1 : ((σ3 ++ [SObj.box (.agg [.int .i64 X.kind, .str X.text, .int .i64 X.num, .int .i64 X.feet.1, .int .i64 X.feet.2, .int .i64 X.line, .int .i64 X.col])]).set a (.box (.int .i64 ((n : Int) + 1))))[σ.length + 2]? = some (.box (.agg [.int .i64 X.kind, .str X.text, .int .i64 X.num, .int .i64 X.feet.1, .int .i64 X.feet.2, .int .i64 X.line, .int .i64 X.col])) := by rw [List.getElem?_set_ne (by omega)]; exact app_l c6
        have f2 : ((σ3 ++ [SObj.box (.agg [.int .i64 X.kind, .str X.text, .int .i64 X.num, .int .i64 X.feet.1, .int .i64 X.feet.2, .int .i64 X.line, .int .i64 X.col])]).set a (.box (.int .i64 ((n : Int) + 1))))[σ3.length]? = some (.box (.agg [.int .i64 X.kind, .str X.text, .int .i64 X.num, .int .i64 X.feet.1, .int .i64 X.feet.2, .int .i64 X.line, .int .i64 X.col])) := by rw [List.getElem?_set_ne (by omega)]; simp
        have f3 : ((σ3 ++ [SObj.box (.agg [.int .i64 X.kind, .str X.text, .int .i64 X.num, .int .i64 X.feet.1, .int .i64 X.feet.2, .int .i64 X.line, .int .i64 X.col])]).set a (.box (.int .i64 ((n : Int) + 1)))).length = σ3.length + 1 := by simp
        have d6 : ∀ y : SObj, (σ3 ++ [y])[σ.length + 2]? = some (.box (.agg [.int .i64 X.kind, .str X.text, .int .i64 X.num, .int .i64 X.feet.1, .int .i64 X.feet.2, .int .i64 X.line, .int .i64 X.col])) := fun y => app_l c6
        have d7 : ∀ y : SObj, (σ3 ++ [y])[σ.length]? = some (.box (.agg [.int .u8 m, .int .i64 X.kind, .str w])) := fun y => app_l c7
        obtain ⟨τ2, hτ2⟩ : ∃ τ2, ((σ3 ++ [SObj.box (.agg [.int .i64 X.kind, .str X.text, .int .i64 X.num, .int .i64 X.feet.1, .int .i64 X.feet.2, .int .i64 X.line, .int .i64 X.col])]).set a (.box (.int .i64 ((n : Int) + 1)))) = τ2 := ⟨_, rfl⟩
        rw [hτ2] at f f1 f2 f3
        rw [hτ2] at p2
        have c6' := at_get c6
        have c7' := at_get c7
        have f1' := at_get f1
        have f2' := at_get f2
        have gx := And.intro @m1 (And.intro @m2 (And.intro @R.eT (And.intro @k1 (And.intro @jc (@jc')))))
        refine goA ?_
        clear gx
        first | refine Wp.seq ?_ | skip
        apply Wp.regionS
        repeat (first
          | (refine Fr.i ?_; simp only [pput, List.set_cons_zero, List.set_cons_succ]; try rfl)
          | (refine By.i ?_; (focus (simp (disch := first | omega | (simp; done) | (simp; omega)) [wrap_i64, wrap_u64, e1, p2, d6, d7, c6', c7']; first | done | rfl | exact ⟨rfl, rfl⟩)))
          | (refine By.i ?_; simp (disch := first | omega | (simp; done) | (simp; omega)) [wrap_i64, wrap_u64, e1, p2, d6, d7, c6', c7']; refine ⟨(by (try simp only [List.length_append, List.length_cons, List.length_nil, maxLen]); omega), rfl⟩)
          | (refine Wt.i ?_; first | rfl | (focus (simp [e1, p2, d6, d7, c6', c7']; done)))
          | (refine Ns.i ?_; (try simp only [List.append_nil, List.nil_append, List.cons_append, List.append_assoc, List.length_append, List.length_cons, List.length_nil, Nat.zero_add, Nat.reduceAdd]); rfl) | rfl
          | (apply SL.pass; (focus (refine Wt.i ?_; rfl))) | (apply SL.convertR; (focus rfl)) | apply SL.move | apply SL.assign | apply SL.load | apply SL.isnilE | apply SL.isnilN | apply SL.make | apply SL.binOp | apply SL.append
          | apply SL.builtin | apply SL.fieldAddr | apply SL.indexAddr | apply SL.field | apply SL.extract | apply SL.fcall | apply SL.pick | apply SL.store | apply SL.unOp | apply SL.convert | apply SL.index | apply SL.slice | apply SL.build
          | apply SL.nilCheck | apply SL.buildSlice | apply SL.box | apply SL.alloc | apply SL.makeFunc)
        apply SQ.nil
        have gx := And.intro @f1 (And.intro @f2 (And.intro @f1' (And.intro @f2' (@f3))))
        refine goA ?_
        clear gx
        simp
        exact ⟨_, _, ⟨rfl, rfl⟩, f⟩
      · rw [if_neg (by rw [decide_eq_false kk]; simp)] at k1 k2
        have k1 : R.gT 0 [r, .int .i64 k] τ = some (.tup [.agg [.int .i64 0, .str [], .int .i64 0, .int .i64 0, .int .i64 0, .int .i64 0, .int .i64 0], .bool false], σ3) := k1
        have p2 := p1 (x := false) (app_l (τ := [.box (.agg [.int .i64 0, .str [], .int .i64 0, .int .i64 0, .int .i64 0, .int .i64 0, .int .i64 0])]) c1) (app_l c2) (app_l c3) hn6
        simp only [Bool.and_false, Bool.false_eq_true, if_false] at p2
        have f := hpost n (σ3 ++ [SObj.box (.agg [.int .i64 0, .str [], .int .i64 0, .int .i64 0, .int .i64 0, .int .i64 0, .int .i64 0])]) hn (Rd.more k2) (app_l c3)
        have f1 : (σ3 ++ [SObj.box (.agg [.int .i64 0, .str [], .int .i64 0, .int .i64 0, .int .i64 0, .int .i64 0, .int .i64 0])])[σ.length + 2]? = some (.box (.agg [.int .i64 X.kind, .str X.text, .int .i64 X.num, .int .i64 X.feet.1, .int .i64 X.feet.2, .int .i64 X.line, .int .i64 X.col])) := app_l c6
        have f2 : (σ3 ++ [SObj.box (.agg [.int .i64 0, .str [], .int .i64 0, .int .i64 0, .int .i64 0, .int .i64 0, .int .i64 0])])[σ3.length]? = some (.box (.agg [.int .i64 0, .str [], .int .i64 0, .int .i64 0, .int .i64 0, .int .i64 0, .int .i64 0])) := by simp
        have f3 : (σ3 ++ [SObj.box (.agg [.int .i64 0, .str [], .int .i64 0, .int .i64 0, .int .i64 0, .int .i64 0, .int .i64 0])]).length = σ3.length + 1 := by simp
        have d6 : ∀ y : SObj, (σ3 ++ [y])[σ.length + 2]? = some (.box (.agg [.int .i64 X.kind, .str X.text, .int .i64 X.num, .int .i64 X.feet.1, .int .i64 X.feet.2, .int .i64 X.line, .int .i64 X.col])) := fun y => app_l c6
        have d7 : ∀ y : SObj, (σ3 ++ [y])[σ.length]? = some (.box (.agg [.int .u8 m, .int .i64 k, .str w])) := fun y => app_l c7
        obtain ⟨τ2, hτ2⟩ : ∃ τ2, (σ3 ++ [SObj.box (.agg [.int .i64 0, .str [], .int .i64 0, .int .i64 0, .int .i64 0, .int .i64 0, .int .i64 0])]) = τ2 := ⟨_, rfl⟩
        rw [hτ2] at f f1 f2 f3
        have p2 := p2.trans (by rw [hτ2])
        have c6' := at_get c6
        have c7' := at_get c7
        have f1' := at_get f1
        have f2' := at_get f2
        have gx := And.intro @m1 (And.intro @m2 (And.intro @R.eT (And.intro @k1 (And.intro @jc (@jc')))))
        refine goA ?_
        clear gx
        first | refine Wp.seq ?_ | skip
        apply Wp.regionS
        repeat (first
          | (refine Fr.i ?_; simp only [pput, List.set_cons_zero, List.set_cons_succ]; try rfl)
          | (refine By.i ?_; (focus (simp (disch := first | omega | (simp; done) | (simp; omega)) [wrap_i64, wrap_u64, e1, p2, d6, d7, c6', c7', kk]; first | done | rfl | exact ⟨rfl, rfl⟩)))
          | (refine By.i ?_; simp (disch := first | omega | (simp; done) | (simp; omega)) [wrap_i64, wrap_u64, e1, p2, d6, d7, c6', c7', kk]; refine ⟨(by (try simp only [List.length_append, List.length_cons, List.length_nil, maxLen]); omega), rfl⟩)
          | (refine Wt.i ?_; first | rfl | (focus (simp [e1, p2, d6, d7, c6', c7', kk]; done)))
          | (refine Ns.i ?_; (try simp only [List.append_nil, List.nil_append, List.cons_append, List.append_assoc, List.length_append, List.length_cons, List.length_nil, Nat.zero_add, Nat.reduceAdd]); rfl) | rfl
          | (apply SL.pass; (focus (refine Wt.i ?_; rfl))) | (apply SL.convertR; (focus rfl)) | apply SL.move | apply SL.assign | apply SL.load | apply SL.isnilE | apply SL.isnilN | apply SL.make | apply SL.binOp | apply SL.append
          | apply SL.builtin | apply SL.fieldAddr | apply SL.indexAddr | apply SL.field | apply SL.extract | apply SL.fcall | apply SL.pick | apply SL.store | apply SL.unOp | apply SL.convert | apply SL.index | apply SL.slice | apply SL.build
          | apply SL.nilCheck | apply SL.buildSlice | apply SL.box | apply SL.alloc | apply SL.makeFunc)
        apply SQ.nil
        have gx := And.intro @f1 (And.intro @f2 (And.intro @f1' (And.intro @f2' (@f3))))
        refine goA ?_
        clear gx
        simp
        exact ⟨_, _, ⟨rfl, rfl⟩, f⟩
    by_cases m3 : m.tmod 6 = 3
    · obtain ⟨g, hg⟩ : ∃ g, R.gK = g := ⟨_, rfl⟩
      obtain ⟨σ3, k1, k2, k3, k4⟩ := R.pK w jnn jr hn hl
      have hgE := R.eK
      have hgz := R.zK
      rw [hg] at hgE hgz k1
      rw [hT] at k1 k2
      have c1 := k3 _ _ (hrS _ (by omega)) jb
      have c2 := k3 _ _ (hrS _ (by omega)) jp
      have c3 := k3 _ _ hra ja
      have c6 := k3 _ _ (hrS _ (by omega)) jx
      have c7 := k3 _ _ (hrS _ (by omega)) jc
      have c5 : a < σ3.length := (List.getElem?_eq_some_iff.1 c3).1
      have hk : ∀ id ∈ [σ.length, σ.length + 2], id < τ.length → σ3[id]? = τ[id]? := by
        intro id hi _
        simp only [List.mem_cons, List.not_mem_nil, or_false] at hi
        rcases hi with rfl | rfl
        · rw [c7, jc]
        · rw [c6, jx]
      by_cases kk : isWord 1 w X = true
      · rw [if_pos kk] at k1 k2
        obtain ⟨kk1, kk2⟩ : X.kind = 1 ∧ X.text = w := by simpa [isWord] using kk
        subst kk2
        have k1 : g 0 [r, .str X.text] τ = some (.bool true, σ3) := k1
        have f2 : Rd σ3 r l (n + 1) := k2
        have p2t := p1 (x := true) c1 c2 c3 hn6
        simp only [Bool.and_self, if_true] at p2t
        have q2t := pcallK_of (B := [σ.length, σ.length + 2]) e1 p2t (by simp) (by intro id hi hi2; simp only [List.mem_cons, List.not_mem_nil, or_false] at hi; rcases hi with rfl | rfl <;> exact List.getElem?_set_ne (by omega))
        have f := hpost (n + 1) (σ3.set a (.box (.int .i64 ((n : Int) + 1)))) hn1 (f2.set hra) (by rw [List.getElem?_set_self c5, en])
        have q1 := pcallK_of (B := [σ.length, σ.length + 2]) hgE k1 k4 hk
        have c6' := at_get c6
        have c7' := at_get c7
        have gx := And.intro @m1 (And.intro @m2 (@m3))
        refine goA ?_
        clear gx
        refine Wp.drawK2 hgE hgz jnn [(9, σ.length + 2), (6, σ.length)] [σ.length, σ.length + 2] [some (σ.length + 2)] (by decide +kernel) ⟨⟨_, rfl⟩, ⟨_, rfl⟩, trivial⟩ (by kernel_rfl) (by simp [allIn]) ?_
        repeat (first
          | (refine Fr.i ?_; simp only [pput, List.set_cons_zero, List.set_cons_succ]; try rfl)
          | (refine By.i ?_; (focus (simp (disch := first | omega | (simp; done) | (simp; omega)) [wrap_i64, wrap_u64, q1, q2t, kk1, jc, jc', jx, jx', c6, c6', c7, c7']; first | done | rfl | exact ⟨rfl, rfl⟩)))
          | (refine By.i ?_; simp (disch := first | omega | (simp; done) | (simp; omega)) [wrap_i64, wrap_u64, q1, q2t, kk1, jc, jc', jx, jx', c6, c6', c7, c7']; refine ⟨(by (try simp only [List.length_append, List.length_cons, List.length_nil, maxLen]); omega), rfl⟩)
          | (refine Wt.i ?_; first | rfl | (focus (simp [q1, q2t, kk1, jc, jc', jx, jx', c6, c6', c7, c7']; done)))
          | (refine Ns.i ?_; (try simp only [List.append_nil, List.nil_append, List.cons_append, List.append_assoc, List.length_append, List.length_cons, List.length_nil, Nat.zero_add, Nat.reduceAdd]); rfl) | rfl
          | (apply SL.pass; (focus (refine Wt.i ?_; rfl))) | (apply SL.convertR; (focus rfl)) | apply SL.move | apply SL.assign | apply SL.load | apply SL.isnilE | apply SL.isnilN | apply SL.make | apply SL.binOp | apply SL.append
          | apply SL.builtin | apply SL.fieldAddr | apply SL.indexAddr | apply SL.field | apply SL.extract | apply SL.fcall | apply SL.pick | apply SL.store | apply SL.unOp | apply SL.convert | apply SL.index | apply SL.slice | apply SL.build
          | apply SL.nilCheck | apply SL.buildSlice | apply SL.box | apply SL.alloc | apply SL.makeFunc)
        have gx := True.intro
        refine goA ?_
        clear gx
        simp
        exact ⟨_, _, ⟨rfl, rfl⟩, f⟩
      · rw [if_neg kk] at k1 k2
        have k1 : g 0 [r, .str w] τ = some (.bool false, σ3) := k1
        have f2 : Rd σ3 r l n := k2
        have p2f := p1 (x := false) c1 c2 c3 hn6
        simp only [Bool.and_false, Bool.false_eq_true, if_false] at p2f
        have q2f := pcallK_of (B := [σ.length, σ.length + 2]) e1 p2f (by simp) (by intro id hi hi2; simp only [List.mem_cons, List.not_mem_nil, or_false] at hi; rfl)
        have f := hpost n σ3 hn f2 c3
        have q1 := pcallK_of (B := [σ.length, σ.length + 2]) hgE k1 k4 hk
        have c6' := at_get c6
        have c7' := at_get c7
        have gx := And.intro @m1 (And.intro @m2 (@m3))
        refine goA ?_
        clear gx
        refine Wp.drawK2 hgE hgz jnn [(9, σ.length + 2), (6, σ.length)] [σ.length, σ.length + 2] [some (σ.length + 2)] (by decide +kernel) ⟨⟨_, rfl⟩, ⟨_, rfl⟩, trivial⟩ (by kernel_rfl) (by simp [allIn]) ?_
        have kk3 : X.kind = 1 → ¬ X.text = w := by simpa [isWord] using kk
        by_cases kk1 : X.kind = 1
        · have kk2 : (X.text == w) = false := beq_eq_false_iff_ne.2 (kk3 kk1)
          repeat (first
            | (refine Fr.i ?_; simp only [pput, List.set_cons_zero, List.set_cons_succ]; try rfl)
            | (refine By.i ?_; (focus (simp (disch := first | omega | (simp; done) | (simp; omega)) [wrap_i64, wrap_u64, q1, q2f, kk1, kk2, jc, jc', jx, jx', c6, c6', c7, c7']; first | done | rfl | exact ⟨rfl, rfl⟩)))
            | (refine By.i ?_; simp (disch := first | omega | (simp; done) | (simp; omega)) [wrap_i64, wrap_u64, q1, q2f, kk1, kk2, jc, jc', jx, jx', c6, c6', c7, c7']; refine ⟨(by (try simp only [List.length_append, List.length_cons, List.length_nil, maxLen]); omega), rfl⟩)
            | (refine Wt.i ?_; first | rfl | (focus (simp [q1, q2f, kk1, kk2, jc, jc', jx, jx', c6, c6', c7, c7']; done)))
            | (refine Ns.i ?_; (try simp only [List.append_nil, List.nil_append, List.cons_append, List.append_assoc, List.length_append, List.length_cons, List.length_nil, Nat.zero_add, Nat.reduceAdd]); rfl) | rfl
            | (apply SL.pass; (focus (refine Wt.i ?_; rfl))) | (apply SL.convertR; (focus rfl)) | apply SL.move | apply SL.assign | apply SL.load | apply SL.isnilE | apply SL.isnilN | apply SL.make | apply SL.binOp | apply SL.append
            | apply SL.builtin | apply SL.fieldAddr | apply SL.indexAddr | apply SL.field | apply SL.extract | apply SL.fcall | apply SL.pick | apply SL.store | apply SL.unOp | apply SL.convert | apply SL.index | apply SL.slice
            | apply SL.build | apply SL.nilCheck | apply SL.buildSlice | apply SL.box | apply SL.alloc | apply SL.makeFunc)
          have gx := True.intro
          refine goA ?_
          clear gx
          simp
          exact ⟨_, _, ⟨rfl, rfl⟩, f⟩
        repeat (first
          | (refine Fr.i ?_; simp only [pput, List.set_cons_zero, List.set_cons_succ]; try rfl)
          | (refine By.i ?_; (focus (simp (disch := first | omega | (simp; done) | (simp; omega)) [wrap_i64, wrap_u64, q1, q2f, kk1, jc, jc', jx, jx', c6, c6', c7, c7']; first | done | rfl | exact ⟨rfl, rfl⟩)))
          | (refine By.i ?_; simp (disch := first | omega | (simp; done) | (simp; omega)) [wrap_i64, wrap_u64, q1, q2f, kk1, jc, jc', jx, jx', c6, c6', c7, c7']; refine ⟨(by (try simp only [List.length_append, List.length_cons, List.length_nil, maxLen]); omega), rfl⟩)
          | (refine Wt.i ?_; first | rfl | (focus (simp [q1, q2f, kk1, jc, jc', jx, jx', c6, c6', c7, c7']; done)))
          | (refine Ns.i ?_; (try simp only [List.append_nil, List.nil_append, List.cons_append, List.append_assoc, List.length_append, List.length_cons, List.length_nil, Nat.zero_add, Nat.reduceAdd]); rfl) | rfl
          | (apply SL.pass; (focus (refine Wt.i ?_; rfl))) | (apply SL.convertR; (focus rfl)) | apply SL.move | apply SL.assign | apply SL.load | apply SL.isnilE | apply SL.isnilN | apply SL.make | apply SL.binOp | apply SL.append
          | apply SL.builtin | apply SL.fieldAddr | apply SL.indexAddr | apply SL.field | apply SL.extract | apply SL.fcall | apply SL.pick | apply SL.store | apply SL.unOp | apply SL.convert | apply SL.index | apply SL.slice | apply SL.build
          | apply SL.nilCheck | apply SL.buildSlice | apply SL.box | apply SL.alloc | apply SL.makeFunc)
        have gx := True.intro
        refine goA ?_
        clear gx
        simp
        exact ⟨_, _, ⟨rfl, rfl⟩, f⟩
    by_cases m4 : m.tmod 6 = 4
    · obtain ⟨g, hg⟩ : ∃ g, R.gG = g := ⟨_, rfl⟩
      obtain ⟨σ3, k1, k2, k3, k4⟩ := R.pG w jnn jr hn hl
      have hgE := R.eG
      have hgz := R.zG
      rw [hg] at hgE hgz k1
      rw [hT] at k1 k2
      have c1 := k3 _ _ (hrS _ (by omega)) jb
      have c2 := k3 _ _ (hrS _ (by omega)) jp
      have c3 := k3 _ _ hra ja
      have c6 := k3 _ _ (hrS _ (by omega)) jx
      have c7 := k3 _ _ (hrS _ (by omega)) jc
      have c5 : a < σ3.length := (List.getElem?_eq_some_iff.1 c3).1
      have hk : ∀ id ∈ [σ.length, σ.length + 2], id < τ.length → σ3[id]? = τ[id]? := by
        intro id hi _
        simp only [List.mem_cons, List.not_mem_nil, or_false] at hi
        rcases hi with rfl | rfl
        · rw [c7, jc]
        · rw [c6, jx]
      by_cases kk : isWord 5 w X = true
      · rw [if_pos kk] at k1 k2
        obtain ⟨kk1, kk2⟩ : X.kind = 5 ∧ X.text = w := by simpa [isWord] using kk
        subst kk2
        have k1 : g 0 [r, .str X.text] τ = some (.bool true, σ3) := k1
        have f2 : Rd σ3 r l (n + 1) := k2
        have p2t := p1 (x := true) c1 c2 c3 hn6
        simp only [Bool.and_self, if_true] at p2t
        have q2t := pcallK_of (B := [σ.length, σ.length + 2]) e1 p2t (by simp) (by intro id hi hi2; simp only [List.mem_cons, List.not_mem_nil, or_false] at hi; rcases hi with rfl | rfl <;> exact List.getElem?_set_ne (by omega))
        have f := hpost (n + 1) (σ3.set a (.box (.int .i64 ((n : Int) + 1)))) hn1 (f2.set hra) (by rw [List.getElem?_set_self c5, en])
        have q1 := pcallK_of (B := [σ.length, σ.length + 2]) hgE k1 k4 hk
        have c6' := at_get c6
        have c7' := at_get c7
        have gx := And.intro @m1 (And.intro @m2 (And.intro @m3 (@m4)))
        refine goA ?_
        clear gx
        refine Wp.drawK2 hgE hgz jnn [(9, σ.length + 2), (6, σ.length)] [σ.length, σ.length + 2] [some (σ.length + 2)] (by decide +kernel) ⟨⟨_, rfl⟩, ⟨_, rfl⟩, trivial⟩ (by kernel_rfl) (by simp [allIn]) ?_
        repeat (first
          | (refine Fr.i ?_; simp only [pput, List.set_cons_zero, List.set_cons_succ]; try rfl)
          | (refine By.i ?_; (focus (simp (disch := first | omega | (simp; done) | (simp; omega)) [wrap_i64, wrap_u64, q1, q2t, kk1, jc, jc', jx, jx', c6, c6', c7, c7']; first | done | rfl | exact ⟨rfl, rfl⟩)))
          | (refine By.i ?_; simp (disch := first | omega | (simp; done) | (simp; omega)) [wrap_i64, wrap_u64, q1, q2t, kk1, jc, jc', jx, jx', c6, c6', c7, c7']; refine ⟨(by (try simp only [List.length_append, List.length_cons, List.length_nil, maxLen]); omega), rfl⟩)
          | (refine Wt.i ?_; first | rfl | (focus (simp [q1, q2t, kk1, jc, jc', jx, jx', c6, c6', c7, c7']; done)))
          | (refine Ns.i ?_; (try simp only [List.append_nil, List.nil_append, List.cons_append, List.append_assoc, List.length_append, List.length_cons, List.length_nil, Nat.zero_add, Nat.reduceAdd]); rfl) | rfl
          | (apply SL.pass; (focus (refine Wt.i ?_; rfl))) | (apply SL.convertR; (focus rfl)) | apply SL.move | apply SL.assign | apply SL.load | apply SL.isnilE | apply SL.isnilN | apply SL.make | apply SL.binOp | apply SL.append
          | apply SL.builtin | apply SL.fieldAddr | apply SL.indexAddr | apply SL.field | apply SL.extract | apply SL.fcall | apply SL.pick | apply SL.store | apply SL.unOp | apply SL.convert | apply SL.index | apply SL.slice | apply SL.build
          | apply SL.nilCheck | apply SL.buildSlice | apply SL.box | apply SL.alloc | apply SL.makeFunc)
        have gx := True.intro
        refine goA ?_
        clear gx
        simp
        exact ⟨_, _, ⟨rfl, rfl⟩, f⟩
      · rw [if_neg kk] at k1 k2
        have k1 : g 0 [r, .str w] τ = some (.bool false, σ3) := k1
        have f2 : Rd σ3 r l n := k2
        have p2f := p1 (x := false) c1 c2 c3 hn6
        simp only [Bool.and_false, Bool.false_eq_true, if_false] at p2f
        have q2f := pcallK_of (B := [σ.length, σ.length + 2]) e1 p2f (by simp) (by intro id hi hi2; simp only [List.mem_cons, List.not_mem_nil, or_false] at hi; rfl)
        have f := hpost n σ3 hn f2 c3
        have q1 := pcallK_of (B := [σ.length, σ.length + 2]) hgE k1 k4 hk
        have c6' := at_get c6
        have c7' := at_get c7
        have gx := And.intro @m1 (And.intro @m2 (And.intro @m3 (@m4)))
        refine goA ?_
        clear gx
        refine Wp.drawK2 hgE hgz jnn [(9, σ.length + 2), (6, σ.length)] [σ.length, σ.length + 2] [some (σ.length + 2)] (by decide +kernel) ⟨⟨_, rfl⟩, ⟨_, rfl⟩, trivial⟩ (by kernel_rfl) (by simp [allIn]) ?_
        have kk3 : X.kind = 5 → ¬ X.text = w := by simpa [isWord] using kk
        by_cases kk1 : X.kind = 5
        · have kk2 : (X.text == w) = false := beq_eq_false_iff_ne.2 (kk3 kk1)
          repeat (first
            | (refine Fr.i ?_; simp only [pput, List.set_cons_zero, List.set_cons_succ]; try rfl)
            | (refine By.i ?_; (focus (simp (disch := first | omega | (simp; done) | (simp; omega)) [wrap_i64, wrap_u64, q1, q2f, kk1, kk2, jc, jc', jx, jx', c6, c6', c7, c7']; first | done | rfl | exact ⟨rfl, rfl⟩)))
            | (refine By.i ?_; simp (disch := first | omega | (simp; done) | (simp; omega)) [wrap_i64, wrap_u64, q1, q2f, kk1, kk2, jc, jc', jx, jx', c6, c6', c7, c7']; refine ⟨(by (try simp only [List.length_append, List.length_cons, List.length_nil, maxLen]); omega), rfl⟩)
            | (refine Wt.i ?_; first | rfl | (focus (simp [q1, q2f, kk1, kk2, jc, jc', jx, jx', c6, c6', c7, c7']; done)))
            | (refine Ns.i ?_; (try simp only [List.append_nil, List.nil_append, List.cons_append, List.append_assoc, List.length_append, List.length_cons, List.length_nil, Nat.zero_add, Nat.reduceAdd]); rfl) | rfl
            | (apply SL.pass; (focus (refine Wt.i ?_; rfl))) | (apply SL.convertR; (focus rfl)) | apply SL.move | apply SL.assign | apply SL.load | apply SL.isnilE | apply SL.isnilN | apply SL.make | apply SL.binOp | apply SL.append
            | apply SL.builtin | apply SL.fieldAddr | apply SL.indexAddr | apply SL.field | apply SL.extract | apply SL.fcall | apply SL.pick | apply SL.store | apply SL.unOp | apply SL.convert | apply SL.index | apply SL.slice
            | apply SL.build | apply SL.nilCheck | apply SL.buildSlice | apply SL.box | apply SL.alloc | apply SL.makeFunc)
          have gx := True.intro
          refine goA ?_
          clear gx
          simp
          exact ⟨_, _, ⟨rfl, rfl⟩, f⟩
        repeat (first
          | (refine Fr.i ?_; simp only [pput, List.set_cons_zero, List.set_cons_succ]; try rfl)
          | (refine By.i ?_; (focus (simp (disch := first | omega | (simp; done) | (simp; omega)) [wrap_i64, wrap_u64, q1, q2f, kk1, jc, jc', jx, jx', c6, c6', c7, c7']; first | done | rfl | exact ⟨rfl, rfl⟩)))
          | (refine By.i ?_; simp (disch := first | omega | (simp; done) | (simp; omega)) [wrap_i64, wrap_u64, q1, q2f, kk1, jc, jc', jx, jx', c6, c6', c7, c7']; refine ⟨(by (try simp only [List.length_append, List.length_cons, List.length_nil, maxLen]); omega), rfl⟩)
          | (refine Wt.i ?_; first | rfl | (focus (simp [q1, q2f, kk1, jc, jc', jx, jx', c6, c6', c7, c7']; done)))
          | (refine Ns.i ?_; (try simp only [List.append_nil, List.nil_append, List.cons_append, List.append_assoc, List.length_append, List.length_cons, List.length_nil, Nat.zero_add, Nat.reduceAdd]); rfl) | rfl
          | (apply SL.pass; (focus (refine Wt.i ?_; rfl))) | (apply SL.convertR; (focus rfl)) | apply SL.move | apply SL.assign | apply SL.load | apply SL.isnilE | apply SL.isnilN | apply SL.make | apply SL.binOp | apply SL.append
          | apply SL.builtin | apply SL.fieldAddr | apply SL.indexAddr | apply SL.field | apply SL.extract | apply SL.fcall | apply SL.pick | apply SL.store | apply SL.unOp | apply SL.convert | apply SL.index | apply SL.slice | apply SL.build
          | apply SL.nilCheck | apply SL.buildSlice | apply SL.box | apply SL.alloc | apply SL.makeFunc)
        have gx := True.intro
        refine goA ?_
        clear gx
        simp
        exact ⟨_, _, ⟨rfl, rfl⟩, f⟩
    obtain ⟨gs, hgs⟩ : ∃ gs, (entry (gf3 tks tks .bool .bool fun l r all => gif (l.length ≤ 100000000000) (some (sameTs all l r)))) = gs := ⟨_, rfl⟩
    rw [hgs] at hSame
    obtain ⟨mM, hmM⟩ : ∃ mM, m = mM := ⟨_, rfl⟩
    obtain ⟨σI, hσI⟩ : ∃ σI, σ = σI := ⟨_, rfl⟩
    rw [hmM, hσI] at hpost
    obtain ⟨A1, hA1⟩ : ∃ A1, σ.length + 1 = A1 := ⟨_, rfl⟩
    have hA0 : σ.length ≤ A1 := by omega
    clear jp'
    rw [hA1]
    rw [hA1] at jp
    have jp' := at_get jp
    have gx := And.intro @m1 (And.intro @m2 (And.intro @m3 (And.intro @m4 (And.intro @jp (And.intro @jp' (And.intro @ja (@ja')))))))
    refine goA ?_
    clear gx
    rw [hmM, hσI]
    refine Wp.loopI (fun m fr σ => ∃ (i : Nat), ∃ gg : Nat → PD, (n ≤ i ∧ i ≤ l.length ∧ m = l.length - i + 1 ∧ (l.drop n).take (i - n) ++ restS (l.drop i) = restS (l.drop n) ∧ i + restN (l.drop i) = n + restN (l.drop n)) ∧ fr = r :: .slice (sz 7 l) (l.map Em.tk.emb) .any :: gg 2 :: gg 3 :: gg 4 :: gg 5 :: gg 6 :: .ptr A1 0 :: gg 8 :: gg 9 :: gg 10 :: gg 11 :: gg 12 :: gg 13 :: gg 14 :: gg 15 :: gg 16 :: .int .i64 i :: gg 18 :: gg 19 :: gg 20 :: gg 21 :: gg 22 :: gg 23 :: gg 24 :: gg 25 :: gg 26 :: gg 27 :: gg 28 :: gg 29 :: gg 30 :: gg 31 :: gg 32 :: gg 33 :: gg 34 :: gg 35 :: gg 36 :: gg 37 :: gg 38 :: gg 39 :: gg 40 :: gg 41 :: gg 42 :: gg 43 :: gg 44 :: gg 45 :: gg 46 :: gg 47 :: gg 48 :: gg 49 :: gg 50 :: gg 51 :: gg 52 :: gg 53 :: gg 54 :: gg 55 :: gg 56 :: gg 57 :: gg 58 :: gg 59 :: gg 60 :: gg 61 :: gg 62 :: gg 63 :: gg 64 :: gg 65 :: gg 66 :: gg 67 :: gg 68 :: gg 69 :: gg 70 :: gg 71 :: gg 72 :: gg 73 :: gg 74 :: gg 75 :: gg 76 :: gg 77 :: gg 78 :: gg 79 :: gg 80 :: gg 81 :: gg 82 :: gg 83 :: gg 84 :: gg 85 :: gg 86 :: gg 87 :: gg 88 :: gg 89 :: gg 90 :: gg 91 :: gg 92 :: gg 93 :: gg 94 :: gg 95 :: gg 96 :: gg 97 :: gg 98 :: gg 99 :: gg 100 :: gg 101 :: gg 102 :: gg 103 :: gg 104 :: gg 105 :: gg 106 :: gg 107 :: gg 108 :: gg 109 :: gg 110 :: gg 111 :: gg 112 :: gg 113 :: gg 114 :: gg 115 :: gg 116 :: gg 117 :: gg 118 :: gg 119 :: gg 120 :: gg 121 :: gg 122 :: gg 123 :: gg 124 :: gg 125 :: gg 126 :: gg 127 :: gg 128 :: gg 129 :: gg 130 :: gg 131 :: gg 132 :: gg 133 :: gg 134 :: gg 135 :: gg 136 :: gg 137 :: gg 138 :: gg 139 :: gg 140 :: gg 141 :: gg 142 :: gg 143 :: gg 144 :: gg 145 :: gg 146 :: gg 147 :: gg 148 :: gg 149 :: gg 150 :: gg 151 :: gg 152 :: gg 153 :: gg 154 :: gg 155 :: gg 156 :: gg 157 :: gg 158 :: gg 159 :: gg 160 :: gg 161 :: gg 162 :: gg 163 :: gg 164 :: gg 165 :: [] ∧ σ = τ) ?_ (l.length - n + 1) (by refine ⟨n, ?_⟩; exact exF (⟨Nat.le_refl _, hn, rfl, by simp, rfl⟩) (by (first | rfl | (simp []; repeat (first | rfl | (apply And.intro))) | (simp []; done))) (by (first | rfl | (simp []; repeat (first | rfl | (apply And.intro))) | (simp []; done))))
    rintro m fr σ ⟨i, gg, hI, rfl, rfl⟩
    obtain ⟨hi0, hi, hm, hS, hRn⟩ := hI
    have hdW : tks.dec (.slice (sz 7 l) (((l.map Em.tk.emb).drop n).take (i - n)) .any) = some ((l.drop n).take (i - n)) := by
      rw [← List.map_drop, ← List.map_take]
      cases l with
      | nil => simp
      | cons x y => exact dec_list_k
    have hal2 : a < σ.length := (List.getElem?_eq_some_iff.1 ja).1
    have hrn := restN_le (l.drop n)
    rw [List.length_drop] at hrn
    have tail : ∀ N' : Int, N' = ((n + restN (l.drop n) : Nat) : Int) → (l.drop n).take (i - n) = restS (l.drop n) → ∃ p σ3, R.gR 0 [r] (σ.set a (.box (.int .i64 N'))) = some (p, σ3) ∧ gs 0 [p, .slice (sz 7 l) (((l.map Em.tk.emb).drop n).take (i - n)) .any, .bool true] σ3 = some (.bool true, σ3) ∧ StepQ [r, tks.emb l, callD mM k w, .ptr a 0] σI (.bool true) σ3 := by
      intro N' hN' hW
      obtain ⟨z, tok, σg, g1, g2, g3, g4⟩ := R.pR (σ := σ.set a (.box (.int .i64 N'))) (by simpa using jnn) (jr.set hra) hn hl
      refine ⟨_, σg, g1, ?_, hpost (n + restN (l.drop n)) σg (by omega) g3 (by rw [← hN']; exact g4 a _ hra (List.getElem?_set_self hal2))⟩
      rw [← hgs]
      simp only [entry, gf3, g2, hdW, dec_bool]
      rw [gif_pos (by have := restS_le (l.drop n); rw [List.length_drop] at this; omega), hW, sameTs_refl]
      rfl
    by_cases v1 : i < l.length
    · have v2 : (i : Int) < (l.length : Int) := by omega
      obtain ⟨t, ht2⟩ : ∃ t, l[i] = t := ⟨_, rfl⟩
      have hcons : l.drop i = t :: l.drop (i + 1) := by rw [List.drop_eq_getElem_cons v1, ht2]
      rw [hcons, restS] at hS
      rw [hcons, restN] at hRn
      by_cases k6 : t.kind = 6
      · rw [if_pos k6, List.append_nil] at hS
        rw [if_pos k6] at hRn
        obtain ⟨p, σ3, t1, t2, t3⟩ := tail ((i : Int) + 1) (by omega) hS
        have v3 : ¬ (l.length : Int) < (i : Int) + 1 := by omega
        have gx := And.intro @v1 (And.intro @v2 (And.intro @ht2 (And.intro @k6 (And.intro @v3 (And.intro @jp (And.intro @jp' (And.intro @ja (And.intro @ja' (And.intro @R.eR (And.intro @hSame (And.intro @t1 (And.intro @t2 (@hal2)))))))))))))
        refine goA ?_
        clear gx
        simp
        exact ⟨_, _, ⟨rfl, rfl⟩, t3⟩
      · rw [if_neg k6] at hS hRn
        have gx := And.intro @v1 (And.intro @v2 (And.intro @ht2 (@k6)))
        refine goA ?_
        clear gx
        refine LoopI.normal (m - 1) (by omega) (by refine ⟨i + 1, ?_⟩; exact exF (⟨by omega, by omega, by omega, by rw [show i + 1 - n = (i - n) + 1 by omega, List.take_add_one, List.getElem?_drop, show n + (i - n) = i by omega, List.getElem?_eq_getElem v1, ht2, List.append_assoc]; exact hS, by omega⟩) (by (first | rfl | (simp []; repeat (first | rfl | (apply And.intro))) | (simp []; done))) (by (first | rfl | (simp []; repeat (first | rfl | (apply And.intro))) | (simp []; done))))
    · have hie : i = l.length := by omega
      rw [hie, List.drop_length, restS, List.append_nil, ← hie] at hS
      rw [hie, List.drop_length, restN, Nat.add_zero, ← hie] at hRn
      obtain ⟨p, σ3, t1, t2, t3⟩ := tail (l.length : Int) (by omega) hS
      have v2 : ¬ (i : Int) < (l.length : Int) := by omega
      have v3 : (l.length : Int) < (i : Int) + 1 := by omega
      have gx := And.intro @v1 (And.intro @v2 (And.intro @v3 (And.intro @jp (And.intro @jp' (And.intro @ja (And.intro @ja' (And.intro @R.eR (And.intro @hSame (And.intro @t1 (And.intro @t2 (@hal2)))))))))))
      refine goA ?_
      clear gx
      simp
      exact ⟨_, _, ⟨rfl, rfl⟩, t3⟩
  · have q2 : ¬ (n : Int) < (l.length : Int) := by omega
    have hN : nextS l n = (noTk, false) := by simp [nextS, q1]
    have hT : ∀ q : Tk → Bool, takeR q l n = ((noTk, false), n) := fun q => by simp [takeR, q1]
    apply WpC.bodyL h0 Tryd.func29 rfl
    focus (simp [show Tryd.f29.ntmps = _ from rfl, List.replicate]; rfl)
    have gx := And.intro @hal (And.intro @ha (And.intro @ha' (And.intro @ha2 (And.intro @q1 (@q2)))))
    refine goA ?_
    clear gx
    generalize hτ : (σ ++ [.box (callD m k w), .box (.ptr a 0), .box (.agg [.int .i64 0, .str [], .int .i64 0, .int .i64 0, .int .i64 0, .int .i64 0, .int .i64 0]), .box (.bool false)]) = τ
    have jx : τ[σ.length + 2]? = some (.box (.agg [.int .i64 0, .str [], .int .i64 0, .int .i64 0, .int .i64 0, .int .i64 0, .int .i64 0])) := by subst hτ; simp
    have jb : τ[σ.length + 3]? = some (.box (.bool false)) := by subst hτ; simp
    have jc : τ[σ.length]? = some (.box (.agg [.int .u8 m, .int .i64 k, .str w])) := by subst hτ; simp
    have jp : τ[σ.length + 1]? = some (.box (.ptr a 0)) := by subst hτ; simp
    have ja : τ[a]? = some (.box (.int .i64 n)) := by subst hτ; exact app_l ha
    have jr : Rd τ r l n := by subst hτ; exact h.more
    have jl : τ.length = σ.length + 4 := by subst hτ; simp
    clear hτ
    have jx' := at_get jx
    have jb' := at_get jb
    have jc' := at_get jc
    have jp' := at_get jp
    have ja' := at_get ja
    have jnn : τ ≠ [] := fun e => by rw [e] at jl; simp at jl
    by_cases m0 : m.tmod 6 = 0
    · rw [decide_eq_true m0]
      have hnx := next_at jr hn hl 0
      rw [hN] at hnx
      have i1 : ∀ x, (τ ++ [x])[σ.length + 2]? = some (.box (.agg [.int .i64 0, .str [], .int .i64 0, .int .i64 0, .int .i64 0, .int .i64 0, .int .i64 0])) := fun x => app_l jx
      have i2 : ∀ x, (τ ++ [x])[σ.length + 3]? = some (.box (.bool false)) := fun x => app_l jb
      have i3 : ∀ x, (τ ++ [x])[σ.length + 4]? = some x := fun x => by rw [← jl]; simp
      have hfin := fun x => hpost n (τ ++ [x]) hn jr.more (app_l ja)
      have gx := And.intro @R.eN (And.intro @hnx (And.intro @jl (And.intro @jx (And.intro @jb (And.intro @jx' (And.intro @jb' (And.intro @i1 (And.intro @i2 (@i3)))))))))
      refine goA ?_
      clear gx
      simp
      exact ⟨_, _, ⟨rfl, rfl⟩, hfin _⟩
    rw [decide_eq_false m0]
    by_cases m1 : m.tmod 6 = 1
    · obtain ⟨σ3, k1, k2, k3, k4⟩ := R.pS jnn jr hn hl
      rw [hT] at k1 k2
      simp only [Bool.false_eq_true, outB] at k1 k2
      have c1 := k3 _ _ (hrS _ (by omega)) jb
      have c2 := k3 _ _ (hrS _ (by omega)) jp
      have c3 := k3 _ _ hra ja
      have c4 := p1 (x := true) c1 c2 c3 hn6
      have c5 : a < σ3.length := (List.getElem?_eq_some_iff.1 c3).1
      have hfin := hpost n σ3 hn k2 c3
      have gx := @m1
      refine goA ?_
      clear gx
      first | refine Wp.seq ?_ | skip
      apply Wp.regionS
      repeat (first
        | (refine Fr.i ?_; simp only [pput, List.set_cons_zero, List.set_cons_succ]; try rfl)
        | (refine By.i ?_; (focus (simp (disch := first | omega | (simp; done) | (simp; omega)) [wrap_i64, wrap_u64, R.eS, k1, e1, c4]; first | done | rfl | exact ⟨rfl, rfl⟩)))
        | (refine By.i ?_; simp (disch := first | omega | (simp; done) | (simp; omega)) [wrap_i64, wrap_u64, R.eS, k1, e1, c4]; refine ⟨(by (try simp only [List.length_append, List.length_cons, List.length_nil, maxLen]); omega), rfl⟩)
        | (refine Wt.i ?_; first | rfl | (focus (simp [R.eS, k1, e1, c4]; done)))
        | (refine Ns.i ?_; (try simp only [List.append_nil, List.nil_append, List.cons_append, List.append_assoc, List.length_append, List.length_cons, List.length_nil, Nat.zero_add, Nat.reduceAdd]); rfl) | rfl
        | (apply SL.pass; (focus (refine Wt.i ?_; rfl))) | (apply SL.convertR; (focus rfl)) | apply SL.move | apply SL.assign | apply SL.load | apply SL.isnilE | apply SL.isnilN | apply SL.make | apply SL.binOp | apply SL.append
        | apply SL.builtin | apply SL.fieldAddr | apply SL.indexAddr | apply SL.field | apply SL.extract | apply SL.fcall | apply SL.pick | apply SL.store | apply SL.unOp | apply SL.convert | apply SL.index | apply SL.slice | apply SL.build
        | apply SL.nilCheck | apply SL.buildSlice | apply SL.box | apply SL.alloc | apply SL.makeFunc)
      apply SQ.nil
      have gx := True.intro
      refine goA ?_
      clear gx
      simp
      exact ⟨_, _, ⟨rfl, rfl⟩, hfin⟩
    by_cases m2 : m.tmod 6 = 2
    · obtain ⟨σ3, k1, k2, k3, k4⟩ := R.pT k jnn jr hn hl
      rw [hT] at k1 k2
      have c1 := k3 _ _ (hrS _ (by omega)) jb
      have c2 := k3 _ _ (hrS _ (by omega)) jp
      have c3 := k3 _ _ hra ja
      have c6 := k3 _ _ (hrS _ (by omega)) jx
      have c7 := k3 _ _ (hrS _ (by omega)) jc
      have c5 : a < σ3.length := (List.getElem?_eq_some_iff.1 c3).1
      by_cases kk : (0 : Int) = k
      · subst kk
        have k1 : R.gT 0 [r, .int .i64 0] τ = some (.tup [.agg [.int .i64 0, .str [], .int .i64 0, .int .i64 0, .int .i64 0, .int .i64 0, .int .i64 0], .bool false], σ3) := k1
        have p2 := p1 (x := true) (app_l (τ := [.box (.agg [.int .i64 0, .str [], .int .i64 0, .int .i64 0, .int .i64 0, .int .i64 0, .int .i64 0])]) c1) (app_l c2) (app_l c3) hn6
        simp only [Bool.false_and, Bool.false_eq_true, if_false] at p2
        have f := hpost n (σ3 ++ [SObj.box (.agg [.int .i64 0, .str [], .int .i64 0, .int .i64 0, .int .i64 0, .int .i64 0, .int .i64 0])]) hn (Rd.more k2) (app_l c3)
        have f1 : (σ3 ++ [SObj.box (.agg [.int .i64 0, .str [], .int .i64 0, .int .i64 0, .int .i64 0, .int .i64 0, .int .i64 0])])[σ.length + 2]? = some (.box (.agg [.int .i64 0, .str [], .int .i64 0, .int .i64 0, .int .i64 0, .int .i64 0, .int .i64 0])) := app_l c6
        have f2 : (σ3 ++ [SObj.box (.agg [.int .i64 0, .str [], .int .i64 0, .int .i64 0, .int .i64 0, .int .i64 0, .int .i64 0])])[σ3.length]? = some (.box (.agg [.int .i64 0, .str [], .int .i64 0, .int .i64 0, .int .i64 0, .int .i64 0, .int .i64 0])) := by simp
        have f3 : (σ3 ++ [SObj.box (.agg [.int .i64 0, .str [], .int .i64 0, .int .i64 0, .int .i64 0, .int .i64 0, .int .i64 0])]).length = σ3.length + 1 := by simp
        have d6 : ∀ y : SObj, (σ3 ++ [y])[σ.length + 2]? = some (.box (.agg [.int .i64 0, .str [], .int .i64 0, .int .i64 0, .int .i64 0, .int .i64 0, .int .i64 0])) := fun y => app_l c6
        have d7 : ∀ y : SObj, (σ3 ++ [y])[σ.length]? = some (.box (.agg [.int .u8 m, .int .i64 0, .str w])) := fun y => app_l c7
        obtain ⟨τ2, hτ2⟩ : ∃ τ2, (σ3 ++ [SObj.box (.agg [.int .i64 0, .str [], .int .i64 0, .int .i64 0, .int .i64 0, .int .i64 0, .int .i64 0])]) = τ2 := ⟨_, rfl⟩
        rw [hτ2] at f f1 f2 f3
        have p2 := p2.trans (by rw [hτ2])
        have c6' := at_get c6
        have c7' := at_get c7
        have f1' := at_get f1
        have f2' := at_get f2
        have gx := And.intro @m1 (And.intro @m2 (And.intro @R.eT (And.intro @k1 (And.intro @jc (@jc')))))
        refine goA ?_
        clear gx
        first | refine Wp.seq ?_ | skip
        apply Wp.regionS
        repeat (first
          | (refine Fr.i ?_; simp only [pput, List.set_cons_zero, List.set_cons_succ]; try rfl)
          | (refine By.i ?_; (focus (simp (disch := first | omega | (simp; done) | (simp; omega)) [wrap_i64, wrap_u64, e1, p2, d6, d7, c6', c7']; first | done | rfl | exact ⟨rfl, rfl⟩)))
          | (refine By.i ?_; simp (disch := first | omega | (simp; done) | (simp; omega)) [wrap_i64, wrap_u64, e1, p2, d6, d7, c6', c7']; refine ⟨(by (try simp only [List.length_append, List.length_cons, List.length_nil, maxLen]); omega), rfl⟩)
          | (refine Wt.i ?_; first | rfl | (focus (simp [e1, p2, d6, d7, c6', c7']; done)))
          | (refine Ns.i ?_; (try simp only [List.append_nil, List.nil_append, List.cons_append, List.append_assoc, List.length_append, List.length_cons, List.length_nil, Nat.zero_add, Nat.reduceAdd]); rfl) | rfl
          | (apply SL.pass; (focus (refine Wt.i ?_; rfl))) | (apply SL.convertR; (focus rfl)) | apply SL.move | apply SL.assign | apply SL.load | apply SL.isnilE | apply SL.isnilN | apply SL.make | apply SL.binOp | apply SL.append
          | apply SL.builtin | apply SL.fieldAddr | apply SL.indexAddr | apply SL.field | apply SL.extract | apply SL.fcall | apply SL.pick | apply SL.store | apply SL.unOp | apply SL.convert | apply SL.index | apply SL.slice | apply SL.build
          | apply SL.nilCheck | apply SL.buildSlice | apply SL.box | apply SL.alloc | apply SL.makeFunc)
        apply SQ.nil
        have gx := And.intro @f1 (And.intro @f2 (And.intro @f1' (And.intro @f2' (@f3))))
        refine goA ?_
        clear gx
        simp
        exact ⟨_, _, ⟨rfl, rfl⟩, f⟩
      · have k1 : R.gT 0 [r, .int .i64 k] τ = some (.tup [.agg [.int .i64 0, .str [], .int .i64 0, .int .i64 0, .int .i64 0, .int .i64 0, .int .i64 0], .bool false], σ3) := k1
        have p2 := p1 (x := false) (app_l (τ := [.box (.agg [.int .i64 0, .str [], .int .i64 0, .int .i64 0, .int .i64 0, .int .i64 0, .int .i64 0])]) c1) (app_l c2) (app_l c3) hn6
        simp only [Bool.and_false, Bool.false_eq_true, if_false] at p2
        have f := hpost n (σ3 ++ [SObj.box (.agg [.int .i64 0, .str [], .int .i64 0, .int .i64 0, .int .i64 0, .int .i64 0, .int .i64 0])]) hn (Rd.more k2) (app_l c3)
        have f1 : (σ3 ++ [SObj.box (.agg [.int .i64 0, .str [], .int .i64 0, .int .i64 0, .int .i64 0, .int .i64 0, .int .i64 0])])[σ.length + 2]? = some (.box (.agg [.int .i64 0, .str [], .int .i64 0, .int .i64 0, .int .i64 0, .int .i64 0, .int .i64 0])) := app_l c6
        have f2 : (σ3 ++ [SObj.box (.agg [.int .i64 0, .str [], .int .i64 0, .int .i64 0, .int .i64 0, .int .i64 0, .int .i64 0])])[σ3.length]? = some (.box (.agg [.int .i64 0, .str [], .int .i64 0, .int .i64 0, .int .i64 0, .int .i64 0, .int .i64 0])) := by simp
        have f3 : (σ3 ++ [SObj.box (.agg [.int .i64 0, .str [], .int .i64 0, .int .i64 0, .int .i64 0, .int .i64 0, .int .i64 0])]).length = σ3.length + 1 := by simp
        have d6 : ∀ y : SObj, (σ3 ++ [y])[σ.length + 2]? = some (.box (.agg [.int .i64 0, .str [], .int .i64 0, .int .i64 0, .int .i64 0, .int .i64 0, .int .i64 0])) := fun y => app_l c6
        have d7 : ∀ y : SObj, (σ3 ++ [y])[σ.length]? = some (.box (.agg [.int .u8 m, .int .i64 k, .str w])) := fun y => app_l c7
        obtain ⟨τ2, hτ2⟩ : ∃ τ2, (σ3 ++ [SObj.box (.agg [.int .i64 0, .str [], .int .i64 0, .int .i64 0, .int .i64 0, .int .i64 0, .int .i64 0])]) = τ2 := ⟨_, rfl⟩
        rw [hτ2] at f f1 f2 f3
        have p2 := p2.trans (by rw [hτ2])
        have c6' := at_get c6
        have c7' := at_get c7
        have f1' := at_get f1
        have f2' := at_get f2
        have gx := And.intro @m1 (And.intro @m2 (And.intro @R.eT (And.intro @k1 (And.intro @jc (@jc')))))
        refine goA ?_
        clear gx
        first | refine Wp.seq ?_ | skip
        apply Wp.regionS
        repeat (first
          | (refine Fr.i ?_; simp only [pput, List.set_cons_zero, List.set_cons_succ]; try rfl)
          | (refine By.i ?_; (focus (simp (disch := first | omega | (simp; done) | (simp; omega)) [wrap_i64, wrap_u64, e1, p2, d6, d7, c6', c7', kk]; first | done | rfl | exact ⟨rfl, rfl⟩)))
          | (refine By.i ?_; simp (disch := first | omega | (simp; done) | (simp; omega)) [wrap_i64, wrap_u64, e1, p2, d6, d7, c6', c7', kk]; refine ⟨(by (try simp only [List.length_append, List.length_cons, List.length_nil, maxLen]); omega), rfl⟩)
          | (refine Wt.i ?_; first | rfl | (focus (simp [e1, p2, d6, d7, c6', c7', kk]; done)))
          | (refine Ns.i ?_; (try simp only [List.append_nil, List.nil_append, List.cons_append, List.append_assoc, List.length_append, List.length_cons, List.length_nil, Nat.zero_add, Nat.reduceAdd]); rfl) | rfl
          | (apply SL.pass; (focus (refine Wt.i ?_; rfl))) | (apply SL.convertR; (focus rfl)) | apply SL.move | apply SL.assign | apply SL.load | apply SL.isnilE | apply SL.isnilN | apply SL.make | apply SL.binOp | apply SL.append
          | apply SL.builtin | apply SL.fieldAddr | apply SL.indexAddr | apply SL.field | apply SL.extract | apply SL.fcall | apply SL.pick | apply SL.store | apply SL.unOp | apply SL.convert | apply SL.index | apply SL.slice | apply SL.build
          | apply SL.nilCheck | apply SL.buildSlice | apply SL.box | apply SL.alloc | apply SL.makeFunc)
        apply SQ.nil
        have gx := And.intro @f1 (And.intro @f2 (And.intro @f1' (And.intro @f2' (@f3))))
        refine goA ?_
        clear gx
        simp
        exact ⟨_, _, ⟨rfl, rfl⟩, f⟩
    by_cases m3 : m.tmod 6 = 3
    · obtain ⟨g, hg⟩ : ∃ g, R.gK = g := ⟨_, rfl⟩
      obtain ⟨σ3, k1, k2, k3, k4⟩ := R.pK w jnn jr hn hl
      have hgE := R.eK
      have hgz := R.zK
      rw [hg] at hgE hgz k1
      rw [hT] at k1 k2
      have c1 := k3 _ _ (hrS _ (by omega)) jb
      have c2 := k3 _ _ (hrS _ (by omega)) jp
      have c3 := k3 _ _ hra ja
      have c6 := k3 _ _ (hrS _ (by omega)) jx
      have c7 := k3 _ _ (hrS _ (by omega)) jc
      have c5 : a < σ3.length := (List.getElem?_eq_some_iff.1 c3).1
      have hk : ∀ id ∈ [σ.length, σ.length + 2], id < τ.length → σ3[id]? = τ[id]? := by
        intro id hi _
        simp only [List.mem_cons, List.not_mem_nil, or_false] at hi
        rcases hi with rfl | rfl
        · rw [c7, jc]
        · rw [c6, jx]
      · skip
        have k1 : g 0 [r, .str w] τ = some (.bool false, σ3) := k1
        have f2 : Rd σ3 r l n := k2
        have p2t := p1 (x := true) c1 c2 c3 hn6
        simp only [Bool.false_and, Bool.false_eq_true, if_false] at p2t
        have q2t := pcallK_of (B := [σ.length, σ.length + 2]) e1 p2t (by simp) (by intro id hi hi2; simp only [List.mem_cons, List.not_mem_nil, or_false] at hi; rfl)
        have p2f := p1 (x := false) c1 c2 c3 hn6
        simp only [Bool.false_and, Bool.false_eq_true, if_false] at p2f
        have q2f := pcallK_of (B := [σ.length, σ.length + 2]) e1 p2f (by simp) (by intro id hi hi2; simp only [List.mem_cons, List.not_mem_nil, or_false] at hi; rfl)
        have f := hpost n σ3 hn f2 c3
        have q1 := pcallK_of (B := [σ.length, σ.length + 2]) hgE k1 k4 hk
        have c6' := at_get c6
        have c7' := at_get c7
        have gx := And.intro @m1 (And.intro @m2 (@m3))
        refine goA ?_
        clear gx
        refine Wp.drawK2 hgE hgz jnn [(9, σ.length + 2), (6, σ.length)] [σ.length, σ.length + 2] [some (σ.length + 2)] (by decide +kernel) ⟨⟨_, rfl⟩, ⟨_, rfl⟩, trivial⟩ (by kernel_rfl) (by simp [allIn]) ?_
        repeat (first
          | (refine Fr.i ?_; simp only [pput, List.set_cons_zero, List.set_cons_succ]; try rfl)
          | (refine By.i ?_; (focus (simp (disch := first | omega | (simp; done) | (simp; omega)) [wrap_i64, wrap_u64, q1, q2f, q2t, jc, jc', jx, jx', c6, c6', c7, c7']; first | done | rfl | exact ⟨rfl, rfl⟩)))
          | (refine By.i ?_; simp (disch := first | omega | (simp; done) | (simp; omega)) [wrap_i64, wrap_u64, q1, q2f, q2t, jc, jc', jx, jx', c6, c6', c7, c7']; refine ⟨(by (try simp only [List.length_append, List.length_cons, List.length_nil, maxLen]); omega), rfl⟩)
          | (refine Wt.i ?_; first | rfl | (focus (simp [q1, q2f, q2t, jc, jc', jx, jx', c6, c6', c7, c7']; done)))
          | (refine Ns.i ?_; (try simp only [List.append_nil, List.nil_append, List.cons_append, List.append_assoc, List.length_append, List.length_cons, List.length_nil, Nat.zero_add, Nat.reduceAdd]); rfl) | rfl
          | (apply SL.pass; (focus (refine Wt.i ?_; rfl))) | (apply SL.convertR; (focus rfl)) | apply SL.move | apply SL.assign | apply SL.load | apply SL.isnilE | apply SL.isnilN | apply SL.make | apply SL.binOp | apply SL.append
          | apply SL.builtin | apply SL.fieldAddr | apply SL.indexAddr | apply SL.field | apply SL.extract | apply SL.fcall | apply SL.pick | apply SL.store | apply SL.unOp | apply SL.convert | apply SL.index | apply SL.slice | apply SL.build
          | apply SL.nilCheck | apply SL.buildSlice | apply SL.box | apply SL.alloc | apply SL.makeFunc)
        have gx := True.intro
        refine goA ?_
        clear gx
        simp
        exact ⟨_, _, ⟨rfl, rfl⟩, f⟩
    by_cases m4 : m.tmod 6 = 4
    · obtain ⟨g, hg⟩ : ∃ g, R.gG = g := ⟨_, rfl⟩
      obtain ⟨σ3, k1, k2, k3, k4⟩ := R.pG w jnn jr hn hl
      have hgE := R.eG
      have hgz := R.zG
      rw [hg] at hgE hgz k1
      rw [hT] at k1 k2
      have c1 := k3 _ _ (hrS _ (by omega)) jb
      have c2 := k3 _ _ (hrS _ (by omega)) jp
      have c3 := k3 _ _ hra ja
      have c6 := k3 _ _ (hrS _ (by omega)) jx
      have c7 := k3 _ _ (hrS _ (by omega)) jc
      have c5 : a < σ3.length := (List.getElem?_eq_some_iff.1 c3).1
      have hk : ∀ id ∈ [σ.length, σ.length + 2], id < τ.length → σ3[id]? = τ[id]? := by
        intro id hi _
        simp only [List.mem_cons, List.not_mem_nil, or_false] at hi
        rcases hi with rfl | rfl
        · rw [c7, jc]
        · rw [c6, jx]
      · skip
        have k1 : g 0 [r, .str w] τ = some (.bool false, σ3) := k1
        have f2 : Rd σ3 r l n := k2
        have p2t := p1 (x := true) c1 c2 c3 hn6
        simp only [Bool.false_and, Bool.false_eq_true, if_false] at p2t
        have q2t := pcallK_of (B := [σ.length, σ.length + 2]) e1 p2t (by simp) (by intro id hi hi2; simp only [List.mem_cons, List.not_mem_nil, or_false] at hi; rfl)
        have p2f := p1 (x := false) c1 c2 c3 hn6
        simp only [Bool.false_and, Bool.false_eq_true, if_false] at p2f
        have q2f := pcallK_of (B := [σ.length, σ.length + 2]) e1 p2f (by simp) (by intro id hi hi2; simp only [List.mem_cons, List.not_mem_nil, or_false] at hi; rfl)
        have f := hpost n σ3 hn f2 c3
        have q1 := pcallK_of (B := [σ.length, σ.length + 2]) hgE k1 k4 hk
        have c6' := at_get c6
        have c7' := at_get c7
        have gx := And.intro @m1 (And.intro @m2 (And.intro @m3 (@m4)))
        refine goA ?_
        clear gx
        refine Wp.drawK2 hgE hgz jnn [(9, σ.length + 2), (6, σ.length)] [σ.length, σ.length + 2] [some (σ.length + 2)] (by decide +kernel) ⟨⟨_, rfl⟩, ⟨_, rfl⟩, trivial⟩ (by kernel_rfl) (by simp [allIn]) ?_
        repeat (first
          | (refine Fr.i ?_; simp only [pput, List.set_cons_zero, List.set_cons_succ]; try rfl)
          | (refine By.i ?_; (focus (simp (disch := first | omega | (simp; done) | (simp; omega)) [wrap_i64, wrap_u64, q1, q2f, q2t, jc, jc', jx, jx', c6, c6', c7, c7']; first | done | rfl | exact ⟨rfl, rfl⟩)))
          | (refine By.i ?_; simp (disch := first | omega | (simp; done) | (simp; omega)) [wrap_i64, wrap_u64, q1, q2f, q2t, jc, jc', jx, jx', c6, c6', c7, c7']; refine ⟨(by (try simp only [List.length_append, List.length_cons, List.length_nil, maxLen]); omega), rfl⟩)
          | (refine Wt.i ?_; first | rfl | (focus (simp [q1, q2f, q2t, jc, jc', jx, jx', c6, c6', c7, c7']; done)))
          | (refine Ns.i ?_; (try simp only [List.append_nil, List.nil_append, List.cons_append, List.append_assoc, List.length_append, List.length_cons, List.length_nil, Nat.zero_add, Nat.reduceAdd]); rfl) | rfl
          | (apply SL.pass; (focus (refine Wt.i ?_; rfl))) | (apply SL.convertR; (focus rfl)) | apply SL.move | apply SL.assign | apply SL.load | apply SL.isnilE | apply SL.isnilN | apply SL.make | apply SL.binOp | apply SL.append
          | apply SL.builtin | apply SL.fieldAddr | apply SL.indexAddr | apply SL.field | apply SL.extract | apply SL.fcall | apply SL.pick | apply SL.store | apply SL.unOp | apply SL.convert | apply SL.index | apply SL.slice | apply SL.build
          | apply SL.nilCheck | apply SL.buildSlice | apply SL.box | apply SL.alloc | apply SL.makeFunc)
        have gx := True.intro
        refine goA ?_
        clear gx
        simp
        exact ⟨_, _, ⟨rfl, rfl⟩, f⟩
    obtain ⟨gs, hgs⟩ : ∃ gs, (entry (gf3 tks tks .bool .bool fun l r all => gif (l.length ≤ 100000000000) (some (sameTs all l r)))) = gs := ⟨_, rfl⟩
    rw [hgs] at hSame
    clear q1 q2
    obtain ⟨mM, hmM⟩ : ∃ mM, m = mM := ⟨_, rfl⟩
    obtain ⟨σI, hσI⟩ : ∃ σI, σ = σI := ⟨_, rfl⟩
    rw [hmM, hσI] at hpost
    obtain ⟨A1, hA1⟩ : ∃ A1, σ.length + 1 = A1 := ⟨_, rfl⟩
    have hA0 : σ.length ≤ A1 := by omega
    clear jp'
    rw [hA1]
    rw [hA1] at jp
    have jp' := at_get jp
    have gx := And.intro @m1 (And.intro @m2 (And.intro @m3 (And.intro @m4 (And.intro @jp (And.intro @jp' (And.intro @ja (@ja')))))))
    refine goA ?_
    clear gx
    rw [hmM, hσI]
    refine Wp.loopI (fun m fr σ => ∃ (i : Nat), ∃ gg : Nat → PD, (n ≤ i ∧ i ≤ l.length ∧ m = l.length - i + 1 ∧ (l.drop n).take (i - n) ++ restS (l.drop i) = restS (l.drop n) ∧ i + restN (l.drop i) = n + restN (l.drop n)) ∧ fr = r :: .slice (sz 7 l) (l.map Em.tk.emb) .any :: gg 2 :: gg 3 :: gg 4 :: gg 5 :: gg 6 :: .ptr A1 0 :: gg 8 :: gg 9 :: gg 10 :: gg 11 :: gg 12 :: gg 13 :: gg 14 :: gg 15 :: gg 16 :: .int .i64 i :: gg 18 :: gg 19 :: gg 20 :: gg 21 :: gg 22 :: gg 23 :: gg 24 :: gg 25 :: gg 26 :: gg 27 :: gg 28 :: gg 29 :: gg 30 :: gg 31 :: gg 32 :: gg 33 :: gg 34 :: gg 35 :: gg 36 :: gg 37 :: gg 38 :: gg 39 :: gg 40 :: gg 41 :: gg 42 :: gg 43 :: gg 44 :: gg 45 :: gg 46 :: gg 47 :: gg 48 :: gg 49 :: gg 50 :: gg 51 :: gg 52 :: gg 53 :: gg 54 :: gg 55 :: gg 56 :: gg 57 :: gg 58 :: gg 59 :: gg 60 :: gg 61 :: gg 62 :: gg 63 :: gg 64 :: gg 65 :: gg 66 :: gg 67 :: gg 68 :: gg 69 :: gg 70 :: gg 71 :: gg 72 :: gg 73 :: gg 74 :: gg 75 :: gg 76 :: gg 77 :: gg 78 :: gg 79 :: gg 80 :: gg 81 :: gg 82 :: gg 83 :: gg 84 :: gg 85 :: gg 86 :: gg 87 :: gg 88 :: gg 89 :: gg 90 :: gg 91 :: gg 92 :: gg 93 :: gg 94 :: gg 95 :: gg 96 :: gg 97 :: gg 98 :: gg 99 :: gg 100 :: gg 101 :: gg 102 :: gg 103 :: gg 104 :: gg 105 :: gg 106 :: gg 107 :: gg 108 :: gg 109 :: gg 110 :: gg 111 :: gg 112 :: gg 113 :: gg 114 :: gg 115 :: gg 116 :: gg 117 :: gg 118 :: gg 119 :: gg 120 :: gg 121 :: gg 122 :: gg 123 :: gg 124 :: gg 125 :: gg 126 :: gg 127 :: gg 128 :: gg 129 :: gg 130 :: gg 131 :: gg 132 :: gg 133 :: gg 134 :: gg 135 :: gg 136 :: gg 137 :: gg 138 :: gg 139 :: gg 140 :: gg 141 :: gg 142 :: gg 143 :: gg 144 :: gg 145 :: gg 146 :: gg 147 :: gg 148 :: gg 149 :: gg 150 :: gg 151 :: gg 152 :: gg 153 :: gg 154 :: gg 155 :: gg 156 :: gg 157 :: gg 158 :: gg 159 :: gg 160 :: gg 161 :: gg 162 :: gg 163 :: gg 164 :: gg 165 :: [] ∧ σ = τ) ?_ (l.length - n + 1) (by refine ⟨n, ?_⟩; exact exF (⟨Nat.le_refl _, hn, rfl, by simp, rfl⟩) (by (first | rfl | (simp []; repeat (first | rfl | (apply And.intro))) | (simp []; done))) (by (first | rfl | (simp []; repeat (first | rfl | (apply And.intro))) | (simp []; done))))
    rintro m fr σ ⟨i, gg, hI, rfl, rfl⟩
    obtain ⟨hi0, hi, hm, hS, hRn⟩ := hI
    have hdW : tks.dec (.slice (sz 7 l) (((l.map Em.tk.emb).drop n).take (i - n)) .any) = some ((l.drop n).take (i - n)) := by
      rw [← List.map_drop, ← List.map_take]
      cases l with
      | nil => simp
      | cons x y => exact dec_list_k
    have hal2 : a < σ.length := (List.getElem?_eq_some_iff.1 ja).1
    have hrn := restN_le (l.drop n)
    rw [List.length_drop] at hrn
    have tail : ∀ N' : Int, N' = ((n + restN (l.drop n) : Nat) : Int) → (l.drop n).take (i - n) = restS (l.drop n) → ∃ p σ3, R.gR 0 [r] (σ.set a (.box (.int .i64 N'))) = some (p, σ3) ∧ gs 0 [p, .slice (sz 7 l) (((l.map Em.tk.emb).drop n).take (i - n)) .any, .bool true] σ3 = some (.bool true, σ3) ∧ StepQ [r, tks.emb l, callD mM k w, .ptr a 0] σI (.bool true) σ3 := by
      intro N' hN' hW
      obtain ⟨z, tok, σg, g1, g2, g3, g4⟩ := R.pR (σ := σ.set a (.box (.int .i64 N'))) (by simpa using jnn) (jr.set hra) hn hl
      refine ⟨_, σg, g1, ?_, hpost (n + restN (l.drop n)) σg (by omega) g3 (by rw [← hN']; exact g4 a _ hra (List.getElem?_set_self hal2))⟩
      rw [← hgs]
      simp only [entry, gf3, g2, hdW, dec_bool]
      rw [gif_pos (by have := restS_le (l.drop n); rw [List.length_drop] at this; omega), hW, sameTs_refl]
      rfl
    by_cases v1 : i < l.length
    · have v2 : (i : Int) < (l.length : Int) := by omega
      obtain ⟨t, ht2⟩ : ∃ t, l[i] = t := ⟨_, rfl⟩
      have hcons : l.drop i = t :: l.drop (i + 1) := by rw [List.drop_eq_getElem_cons v1, ht2]
      rw [hcons, restS] at hS
      rw [hcons, restN] at hRn
      by_cases k6 : t.kind = 6
      · rw [if_pos k6, List.append_nil] at hS
        rw [if_pos k6] at hRn
        obtain ⟨p, σ3, t1, t2, t3⟩ := tail ((i : Int) + 1) (by omega) hS
        have v3 : ¬ (l.length : Int) < (i : Int) + 1 := by omega
        have gx := And.intro @v1 (And.intro @v2 (And.intro @ht2 (And.intro @k6 (And.intro @v3 (And.intro @jp (And.intro @jp' (And.intro @ja (And.intro @ja' (And.intro @R.eR (And.intro @hSame (And.intro @t1 (And.intro @t2 (@hal2)))))))))))))
        refine goA ?_
        clear gx
        simp
        exact ⟨_, _, ⟨rfl, rfl⟩, t3⟩
      · rw [if_neg k6] at hS hRn
        have gx := And.intro @v1 (And.intro @v2 (And.intro @ht2 (@k6)))
        refine goA ?_
        clear gx
        refine LoopI.normal (m - 1) (by omega) (by refine ⟨i + 1, ?_⟩; exact exF (⟨by omega, by omega, by omega, by rw [show i + 1 - n = (i - n) + 1 by omega, List.take_add_one, List.getElem?_drop, show n + (i - n) = i by omega, List.getElem?_eq_getElem v1, ht2, List.append_assoc]; exact hS, by omega⟩) (by (first | rfl | (simp []; repeat (first | rfl | (apply And.intro))) | (simp []; done))) (by (first | rfl | (simp []; repeat (first | rfl | (apply And.intro))) | (simp []; done))))
    · have hie : i = l.length := by omega
      rw [hie, List.drop_length, restS, List.append_nil, ← hie] at hS
      rw [hie, List.drop_length, restN, Nat.add_zero, ← hie] at hRn
      obtain ⟨p, σ3, t1, t2, t3⟩ := tail (l.length : Int) (by omega) hS
      have v2 : ¬ (i : Int) < (l.length : Int) := by omega
      have v3 : (l.length : Int) < (i : Int) + 1 := by omega
      have gx := And.intro @v1 (And.intro @v2 (And.intro @v3 (And.intro @jp (And.intro @jp' (And.intro @ja (And.intro @ja' (And.intro @R.eR (And.intro @hSame (And.intro @t1 (And.intro @t2 (@hal2)))))))))))
      refine goA ?_
      clear gx
      simp
      exact ⟨_, _, ⟨rfl, rfl⟩, t3⟩
end Go.Kz

/-
  Layer 19: LexerReads, walked.
-/
namespace Go.Kz
open Go Go.Proofs

abbrev CallT := Int × Int × List UInt8
def EmC.call : EmC CallT := (EmC.one u8).pair ((EmC.one i64).pair (.one .text))
def Em.call : Em CallT := .agg .call
@[simp] theorem emb_call {t : CallT} : Em.call.emb t = .agg [.int .u8 t.1, .int .i64 t.2.1, .str t.2.2] := rfl
abbrev cls : Em (List CallT) := Em.call.list 3

theorem s1_ok : S1 (qentry Tryd.prog Eo16 45 Step1Q) := by
  intro σ x b s1 a1 a n h1 h2 h3 hn
  obtain ⟨p3, σ3, hp, hQ⟩ := qentry_of (w_step1 Eo16_uni rfl (x := x) h1 h2 h3 hn)
  obtain ⟨rfl, rfl⟩ := hQ.2 _ _ _ _ _ _ rfl h1 h2 h3
  exact hp
noncomputable def Eo17 : PExt := Eo16.add 45 (qentry Tryd.prog Eo16 45 Step1Q)
theorem Eo17_uni : Uni Eo17 := Eo16_uni.qentry fun _ _ h => h.1 rfl
theorem Eo17_ok : ExtOk Tryd.prog Eo17 := Eo16_ok.addQ follows
theorem add_other {E : PExt} {f f' : FuncId} {g : Nat → List PD → List SObj → Option (PD × List SObj)} (h : f' ≠ f) : (E.add f g) f' = E f' := by
  unfold PExt.add
  simp [h]
noncomputable def RdE.up {E E' : PExt} (R : RdE E) (h : ∀ f ∈ [22, 23, 24, 25, 28, 20, 21, 26, 27], E' f = E f) : RdE E' :=
  { R with
    eT := (h _ (by simp)).trans R.eT
    eS := (h _ (by simp)).trans R.eS
    eK := (h _ (by simp)).trans R.eK
    eG := (h _ (by simp)).trans R.eG
    eR := (h _ (by simp)).trans R.eR
    eC := (h _ (by simp)).trans R.eC
    eN := (h _ (by simp)).trans R.eN
    eA := (h _ (by simp)).trans R.eA
    eL := (h _ (by simp)).trans R.eL }
noncomputable def Eo17_rd : RdE Eo17 := Eo16_rd.up fun f hf => by
  exact add_other (by rintro rfl; revert hf; decide)
noncomputable def Eo18 : PExt := Eo17.add 29 (qentry Tryd.prog Eo17 29 StepQ)
theorem Eo18_uni : Uni Eo18 := Eo17_uni.qentry fun _ _ h => h.1 rfl
theorem Eo18_ok : ExtOk Tryd.prog Eo18 := Eo17_ok.addQ follows
noncomputable def Eo18_rd : RdE Eo18 := Eo17_rd.up fun f hf => by
  exact add_other (by rintro rfl; revert hf; decide)
/-- What step answers. -/
def StepE (g : Nat → List PD → List SObj → Option (PD × List SObj)) : Prop := ∀ {σ : List SObj} {r : PD} {l : List Tk} {n a : Nat} (m k : Int) (w : List UInt8), Rd σ r l n → σ[a]? = some (.box (.int .i64 (n : Nat))) → n ≤ l.length → l.length ≤ 100000 →
  ∃ σ' n', g 0 [r, tks.emb l, .agg [.int .u8 m, .int .i64 k, .str w], .ptr a 0] σ = some (.bool true, σ') ∧ n' ≤ l.length ∧ Rd σ' r l n' ∧ σ'[a]? = some (.box (.int .i64 (n' : Nat)))
theorem step_okE : StepE (qentry Tryd.prog Eo17 29 StepQ) := by
  intro σ r l n a m k w h ha hn hl
  obtain ⟨p3, σ3, hp, hQ⟩ := qentry_of (w_step Eo17_uni rfl Eo17_rd rfl s1_ok rfl m k w h ha hn hl)
  obtain ⟨rfl, n', e1, e2, e3⟩ := hQ.2 _ _ _ _ _ rfl h ha hn
  exact ⟨σ3, n', hp, e1, e2, e3⟩

variable {E : PExt} (hU : Uni E)
include hU
set_option maxRecDepth 10000
set_option maxHeartbeats 4000000

theorem r_Reads (h0 : E 10 = none) (h2 : E 11 = some (entry (gf0 .bool (some true))))
    (h4 : E 15 = some (entry (gf1 .text (tks.tup3 .pos i64) fun s => gif (s.length ≤ 10000) (some (scanS s)))))
    (hP : E 30 = some (entry (gf2 tks i64 .pos fun l n => gif (0 ≤ n ∧ n ≤ l.length ∧ l.length ≤ 100000) (some (posS l n.toNat)))))
    (R : RdE E) {gS : Nat → List PD → List SObj → Option (PD × List SObj)} (eS : E 29 = some gS) (pS : StepE gS) (s : List UInt8) (cs : List CallT) : Run Tryd.prog E 10 [.str s, cls.emb cs] (Em.bool.emb true) := by
  apply Run.bodyL h0 Tryd.func10 rfl
  focus (simp [show Tryd.f10.ntmps = _ from rfl, List.replicate]; rfl)
  by_cases q1 : 200 < (s.length : Int)
  · have gx := And.intro @h2 (@q1)
    refine goA ?_
    clear gx
    simp (disch := first | omega | (simp; done) | (simp; omega)) [decide_eq_decide] <;> try rfl
  by_cases q2 : 20 < (cs.length : Int)
  · have gx := And.intro @h2 (And.intro @q1 (@q2))
    refine goA ?_
    clear gx
    simp (disch := first | omega | (simp; done) | (simp; omega)) [decide_eq_decide] <;> try rfl
  have l1 : (s.length : Int) < 4000000000 := by omega
  have l2 : s.length ≤ 10000 := by omega
  have hlen := scanS_len s
  obtain ⟨l, p, e, hs⟩ : ∃ a p e, scanS s = (a, p, e) := ⟨_, _, _, rfl⟩
  rw [hs] at hlen
  simp only at hlen
  by_cases he : e = 0
  · subst he
    have hC := R.eC
    have hd : tks.dec (.slice (sz 7 l) (l.map Em.tk.emb) .any) = some l := dec_list_sz
    have hl : l.length ≤ 100000 := by omega
    obtain ⟨id, σ3, pC, c1, c2, c3⟩ := R.pC (σ := [.box (.agg [.int .i64 p.1, .int .i64 p.2])]) hd hl
    have gx := And.intro @h2 (And.intro @h4 (And.intro @q1 (And.intro @q2 (And.intro @l1 (And.intro @l2 (And.intro @hs (And.intro @hC (@pC))))))))
    refine goA ?_
    clear gx
    obtain ⟨A, hA⟩ : ∃ A, σ3.length = A := ⟨_, rfl⟩
    rw [hA]
    refine Wp.loopI (fun m fr σ => ∃ (i n : Nat) (σ1 : List SObj), ∃ gg : Nat → PD, (i + m = cs.length + 1 ∧ i ≤ cs.length ∧ n ≤ l.length ∧ Rd σ1 (.ptr id 0) l n ∧ σ1[A]? = some (.box (.int .i64 n))) ∧ fr = gg 0 :: gg 1 :: gg 2 :: gg 3 :: gg 4 :: .slice (sz 7 l) (l.map Em.tk.emb) .any :: gg 6 :: gg 7 :: .ptr id 0 :: .ptr A 0 :: gg 10 :: gg 11 :: gg 12 :: gg 13 :: gg 14 :: gg 15 :: gg 16 :: gg 17 :: gg 18 :: gg 19 :: gg 20 :: gg 21 :: gg 22 :: gg 23 :: gg 24 :: gg 25 :: gg 26 :: gg 27 :: gg 28 :: gg 29 :: gg 30 :: gg 31 :: gg 32 :: gg 33 :: gg 34 :: .slice (sz 3 cs) (cs.map Em.call.emb) .any :: .int .i64 cs.length :: .int .i64 i :: gg 38 :: gg 39 :: gg 40 :: gg 41 :: gg 42 :: gg 43 :: gg 44 :: gg 45 :: gg 46 :: gg 47 :: gg 48 :: gg 49 :: gg 50 :: gg 51 :: gg 52 :: gg 53 :: gg 54 :: gg 55 :: gg 56 :: gg 57 :: gg 58 :: gg 59 :: gg 60 :: gg 61 :: gg 62 :: gg 63 :: [] ∧ σ = σ1) ?_ (cs.length + 1) (by refine ⟨0, 0, (σ3 ++ [SObj.box (.int .i64 0)]), ?_⟩; exact exF (⟨by omega, by omega, by omega, c2.more, by rw [← hA]; simp⟩) (by (first | rfl | (simp []; repeat (first | rfl | (apply And.intro))) | (simp []; done))) (by (first | rfl | (simp []; repeat (first | rfl | (apply And.intro))) | (simp []; done))))
    rintro m fr σ ⟨i, n, σ1, gg, hI, rfl, rfl⟩
    obtain ⟨hm, hi, hn, hrd, hat⟩ := hI
    by_cases v1 : i < cs.length
    · have v2 : (i : Int) < (cs.length : Int) := by omega
      obtain ⟨⟨cm, ck, cw⟩, ht⟩ : ∃ t, cs[i] = t := ⟨_, rfl⟩
      obtain ⟨σ', n', k1, k2, k3, k4⟩ := pS (σ := σ ++ [.box (.agg [.int .u8 cm, .int .i64 ck, .str cw])]) cm ck cw hrd.more (app_l hat) hn hl
      have k1 : gS 0 [.ptr id 0, .slice (sz 7 l) (l.map Em.tk.emb) .any, .agg [.int .u8 cm, .int .i64 ck, .str cw], .ptr A 0] (σ ++ [.box (.agg [.int .u8 cm, .int .i64 ck, .str cw])]) = some (.bool true, σ') := k1
      have k5 := pcallG_in (S := [26, 27, 30]) (fl := 0) R.eL fun fl => left_at k3 k2 hl fl
      obtain ⟨⟨px, py⟩, hpos⟩ : ∃ x, posS l n' = x := ⟨_, rfl⟩
      have k6 := pcallG_in (S := [26, 27, 30]) (fl := 0) R.eA fun fl => (at_at k3 k2 hl fl).trans (show _ = some (PD.agg [.int .i64 px, .int .i64 py], σ') by rw [hpos]; rfl)
      have k4' := at_get k4
      have hal := (List.getElem?_eq_some_iff.1 k4).1
      have k7 : (0 : Int) ≤ (n' : Int) ∧ (n' : Int) ≤ (l.length : Int) ∧ l.length ≤ 100000 := by omega
      obtain ⟨gp, hgp⟩ : ∃ gp, (entry (gf2 tks i64 .pos fun l n => gif (0 ≤ n ∧ n ≤ l.length ∧ l.length ≤ 100000) (some (posS l n.toNat)))) = gp := ⟨_, rfl⟩
      have k8 : ∀ fl, gp fl [.slice (sz 7 l) (l.map Em.tk.emb) .any, .int .i64 n'] σ' = some (.agg [.int .i64 px, .int .i64 py], σ') := by
        intro fl
        rw [← hgp]
        simp only [entry, gf2, hd, dec_int, Int.toNat_natCast, hpos]
        rw [gif_pos k7]
        rfl
      rw [hgp] at hP
      have k9 := pcallG_in (S := [26, 27, 30]) (fl := 0) hP k8
      have k0 := pcallG_out (S := [26, 27, 30]) (fl := 0) eS (by decide) k1
      clear hU
      have gx := And.intro @v1 (And.intro @v2 (@ht))
      refine goA ?_
      clear gx
      refine Wp.drawG [26, 27, 30] (by decide +kernel) ?_
      repeat (first
        | (refine Fr.i ?_; simp only [pput, List.set_cons_zero, List.set_cons_succ]; try rfl)
        | (refine By.i ?_; (focus (simp (disch := first | omega | (simp; done) | (simp; omega)) [wrap_i64, wrap_u64, k0, k4, k4', k5, k6, k9, hal]; first | done | rfl | exact ⟨rfl, rfl⟩)))
        | (refine By.i ?_; simp (disch := first | omega | (simp; done) | (simp; omega)) [wrap_i64, wrap_u64, k0, k4, k4', k5, k6, k9, hal]; refine ⟨(by (try simp only [List.length_append, List.length_cons, List.length_nil, maxLen]); omega), rfl⟩)
        | (refine Wt.i ?_; first | rfl | (focus (simp [k0, k4, k4', k5, k6, k9, hal]; done)))
        | (refine Ns.i ?_; (try simp only [List.append_nil, List.nil_append, List.cons_append, List.append_assoc, List.length_append, List.length_cons, List.length_nil, Nat.zero_add, Nat.reduceAdd]); rfl) | rfl
        | (apply SL.pass; (focus (refine Wt.i ?_; rfl))) | (apply SL.convertR; (focus rfl)) | apply SL.move | apply SL.assign | apply SL.load | apply SL.isnilE | apply SL.isnilN | apply SL.make | apply SL.binOp | apply SL.append
        | apply SL.builtin | apply SL.fieldAddr | apply SL.indexAddr | apply SL.field | apply SL.extract | apply SL.fcall | apply SL.pick | apply SL.store | apply SL.unOp | apply SL.convert | apply SL.index | apply SL.slice | apply SL.build
        | apply SL.nilCheck | apply SL.buildSlice | apply SL.box | apply SL.alloc | apply SL.makeFunc)
      have gx := True.intro
      refine goA ?_
      clear gx
      refine LoopI.normal (m - 1) (by omega) (by refine ⟨i + 1, n', σ', ?_⟩; exact exF (⟨by omega, by omega, k2, k3, k4⟩) (by (first | rfl | (simp []; repeat (first | rfl | (apply And.intro))) | (simp []; done))) (by (first | rfl | (simp []; repeat (first | rfl | (apply And.intro))) | (simp []; done))))
    · have v2 : ¬ (i : Int) < (cs.length : Int) := by omega
      have gx := @v2
      refine goA ?_
      clear gx
      simp (disch := first | omega | (simp; done) | (simp; omega)) [decide_eq_decide] <;> try rfl
  · have gx := And.intro @h2 (And.intro @h4 (And.intro @q1 (And.intro @q2 (And.intro @l1 (And.intro @l2 (And.intro @hs (@he)))))))
    refine goA ?_
    clear gx
    simp (disch := first | omega | (simp; done) | (simp; omega)) [decide_eq_decide] <;> try rfl
end Go.Kz

/-
  What LexerReads is handed.
-/
namespace Go.Proofs.YtngmkfjeekpnpaaDoor
open Go Go.Kz Go.ChangeShapes Go.WideShapes Go.ChangeAt Go.WideMaps Go.WideElems Go.RowKit
set_option maxRecDepth 100000
theorem ty_calls {d : Nat} {qs : List PD} (h : Typed Tryd.prog (d + 3) 57 qs) : ∃ l : List CallT, asPD Tryd.prog 57 qs = cls.emb l ∧ l.length ≤ maxLen := by
  obtain ⟨ys, rfl, h1, _⟩ := typed_list (em := Em.call) (R := fun _ => True) Tryd.underlying57 (k := 3) (by kernel_rfl) (fun x hx => by obtain ⟨m, k, w, hs⟩ := ty_call hx; exact ⟨(m, k, w), hs, trivial⟩) h
  exact ⟨ys, asPD_one (by kernel_rfl), h1⟩
end Go.Proofs.YtngmkfjeekpnpaaDoor

/-
  LexerReads holds: the law answers true, whatever it is handed.
-/
namespace Go.Proofs.YtngmkfjeekpnpaaDoor
open Go Go.Kz Go.ChangeShapes Go.WideShapes Go.ChangeAt Go.WideMaps Go.WideElems Go.RowKit
set_option maxRecDepth 100000

theorem lifted_LexerReads (os : Os) (started : os.Started) (H : Type) (enc : TypeId × Value → H) :
    ReturnsInHanded {} Tryd.checked os 10 .any (fun w args => (Rows.lexerReadsSpec.pre enc Tryd.prog Tryd.f10 [] false w args ∧ laidMetH Tryd.prog laidL w) ∧ sizedMet enc Tryd.prog Tryd.f10 (OpenSpec.ofChange Rows.lexerReadsSpec) false w args)
      (Rows.lexerReadsSpec.post enc Tryd.prog Tryd.f10 false true false false) := by
  refine handed_shaped (C := Tryd.checked) (X := fun w _ => laidMetH Tryd.prog laidL w) (fun _ _ _ hh h => h.of_heap hh) own started (by kernel_rfl) Tryd.func10
    (ChangeSpec.witness_shaped (enc := enc) (C := Tryd.checked) (os := os) (X := fun w _ => laidMetH Tryd.prog laidL w) false (lexDoor os) #[.string ⟨#[]⟩, .slice none 0 0] 12 rfl (World.shaped_of_RefB (by kernel_rfl) (by kernel_rfl)) (by kernel_rfl) (by kernel_rfl) (by kernel_rfl) (door_met os _)) ?_
  intro W base args ds gs before hsh hval hW _ _ hL _
  have hval : ∀ (j : Nat) t v, Tryd.f10.params[j]? = some t → args[j]? = some v → Value.okWide Tryd.prog W .any base t v := hval
  have hW' := hW
  obtain ⟨p, q, hA, _, _, _, _⟩ := hW
  have hA : DataW.TrodAll enc Tryd.prog W 0 (fun _ => true) true Tryd.f10.params.toList args.toList ds p := hA
  rw [Tryd.params10] at hA hval
  obtain ⟨v1, v2, d1, d2, p1, p2, rfl, _, _, h1, h2⟩ := trodAll_two hA
  obtain ⟨q1, t1, r1⟩ := arg_typed (n := 12) (t := 9) (v := v1) (by kernel_rfl) (hval 0 _ _ rfl rfl) h1
  obtain ⟨s, e1⟩ := ty_text t1
  rw [e1] at r1
  obtain ⟨q2, t2, r2⟩ := arg_typed (n := 12) (t := 57) (v := v2) (by kernel_rfl) (hval 1 _ _ rfl rfl) h2
  obtain ⟨cs, e2, hl⟩ := ty_calls t2
  rw [e2] at r2
  have run := r_Reads Eo18_uni rfl rfl rfl rfl Eo18_rd rfl step_okE s cs
  refine (Run.calls Eo18_ok follows names run (glob hsh hL) (vrs_cons r1 (vrs_cons r2 vrs_nil))).mono fun e' W' ⟨he, hb⟩ => ?_
  subst he
  exact ⟨_, rfl, law_post laidOut rfl hW' hb rfl Tryd.underlying4 (by kernel_rfl) (fun ds hg hd => by
    subst hg
    match ds, hd with
    | [d1, d2], _ => rfl)⟩

theorem lexerReads_holds : Rows.LexerReadsSaid :=
  OpenClaim.holds_of_wide 10 Tryd.f10 rfl rfl rfl rfl rfl rfl rfl ⟨rfl, rfl, rfl, rfl, rfl⟩ rfl rfl rfl rfl rfl (by kernel_rfl) Tryd.func10 (by kernel_rfl)
    (of_decide_eq_true (by kernel_rfl)) (by unfold Func.isWrapper; first | (rw [if_pos (by decide +kernel)]; kernel_rfl) | (rw [if_neg (by decide +kernel)]; exact ⟨rfl, rfl⟩))
    (fun os started H enc _ => lifted_LexerReads os started H enc)

theorem lexerReads_card : Rows.LexerReadsCardSaid :=
  Claim7.holds_tied_plain_at .later [] [.data, .data, .data, .data, .pinned] true (true, "c0be699b855568e9df29e407351f013d4f347c995e2c35068880bb9fe0430a49") false
    lexerReads_holds (fun _ h => by cases h) (by kernel_rfl) (fun _ h => by cases h) lexerReads_row_tie rfl ⟨rfl, rfl⟩ (by kernel_rfl) rfl
    (fun f fn hf hfn => by
      obtain rfl : f = 10 := Option.some.inj ((show Tryd.prog.funcNamed "bombarde/bombardelaw19.LexerReads" = some 10 by kernel_rfl).symm.trans hf) |>.symm
      obtain rfl : fn = Tryd.f10 := (Option.some.inj (Tryd.func10.symm.trans hfn)).symm
      exact ⟨by kernel_rfl, fun j t ht => by
        rw [Tryd.params10] at ht
        have hm := Array.mem_of_getElem? ht
        have hall : (#[9, 57].all fun u => !Tryd.prog.wantsStandIn u) = true := by kernel_rfl
        have := Array.all_eq_true_iff_forall_mem.1 hall t hm
        exact (show Tryd.prog.wantsStandIn t = false by simpa using this)⟩)
    (by kernel_rfl)
end Go.Proofs.YtngmkfjeekpnpaaDoor
