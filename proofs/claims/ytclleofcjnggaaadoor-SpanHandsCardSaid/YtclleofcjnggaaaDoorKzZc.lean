/-
  Pure runs with a condition on how they end: rules for stepping through code.
-/
import Derived.Test.YtclleofcjnggaaaDoorKzZb
set_option linter.all false
namespace Go.Kz

section
variable {P : Program} {E : PExt} {rd : Option Nat} {fl : Nat} {fr : List PD} {ms : List Nat} {σ : List SObj} {Q : PO → Prop}

/-- The run ends, and Q holds of how. -/
structure Wp (P : Program) (E : PExt) (rd : Option Nat) (c : Code) (fl : Nat) (fr : List PD) (ms : List Nat) (σ : List SObj) (Q : PO → Prop) : Prop where
  ex : ∃ r, Ev P E rd c fl fr ms σ r ∧ Q r

/-- Calls out of the table alone. -/
def pcallE (E : PExt) : PCall
  | fl, .inl f, args, σ => match E f with
    | some g => g fl args σ
    | none => none
  | _, .inr _, _, _ => none

theorem pcallE_up {n : Nat} {tg : FuncId ⊕ Nat} {args : List PD} {x : PD × List SObj} (h : pcallE E fl tg args σ = some x) : pcall P E n fl tg args σ = some x := by
  cases tg with
  | inl f =>
    simp only [pcallE] at h
    simp only [pcall, pcallBy]
    split at h
    · rename_i g hg; rw [hg]; exact h
    · cases h
  | inr id => cases h

theorem pstep_up {n : Nat} {op : Op} {x : PD × List SObj} (h : pstep P (pcallE E) fl fr σ op = some x) : pstep P (pcall P E n) fl fr σ op = some x := by
  unfold pstep at *
  split at h
  · exact pcallE_up h
  · exact h

theorem pseq_up {n : Nat} {ops : Array Oper} : ∀ {l : List Oper} {fr : List PD} {σ : List SObj} {x : List PD × List SObj}, pseq P (pcallE E) fl ops l fr σ = some x → pseq P (pcall P E n) fl ops l fr σ = some x
  | [], _, _, _, h => h
  | o :: rest, fr, σ, x, h => by
    simp only [pseq] at h ⊢
    split at h
    · rename_i hw
      rw [if_pos hw]
      split at h
      · rename_i p σ1 hp
        rw [pstep_up hp]
        exact pseq_up h
      · cases h
    · rename_i hw
      rw [if_neg hw]
      exact pseq_up h

theorem pdseq_up {n : Nat} {ops : Array Oper} : ∀ {l : List (Bool × Oper)} {fr : List PD} {σ : List SObj} {x : List PD × List SObj}, pdseq P (pcallE E) fl ops l fr σ = some x → pdseq P (pcall P E n) fl ops l fr σ = some x
  | [], _, _, _, h => h
  | (free, o) :: rest, fr, σ, x, h => by
    simp only [pdseq] at h ⊢
    split at h
    · rename_i hw
      rw [if_pos hw]
      cases free with
      | true =>
        simp only at h ⊢
        split at h
        · rename_i p σ1 hp
          rw [pstep_up hp]
          exact pdseq_up h
        · cases h
      | false =>
        simp only at h ⊢
        split at h
        · rename_i p σ1 hp
          rw [pstep_up hp]
          exact pdseq_up h
        · cases h
    · rename_i hw
      rw [if_neg hw]
      exact pdseq_up h

theorem Wp.mono {c : Code} {Q' : PO → Prop} (h : Wp P E rd c fl fr ms σ Q) (k : ∀ r, Q r → Q' r) : Wp P E rd c fl fr ms σ Q' := by
  obtain ⟨r, h1, h2⟩ := h.ex
  exact ⟨r, h1, k r h2⟩

theorem Wp.skip (h : Q ⟨.normal, fr, ms, σ⟩) : Wp P E rd .skip fl fr ms σ Q := ⟨_, .skip, h⟩
theorem Wp.ret (h : Q ⟨.ret, fr, ms, σ⟩) : Wp P E rd .ret fl fr ms σ Q := ⟨_, .ret, h⟩
theorem Wp.exit {id : Nat} (h : Q ⟨.exit id, fr, ms, σ⟩) : Wp P E rd (.exit id) fl fr ms σ Q := ⟨_, .exit, h⟩

/-- What is to hold behind the first of two. -/
structure SeqQ (P : Program) (E : PExt) (rd : Option Nat) (y : Code) (fl : Nat) (Q : PO → Prop) (r : PO) : Prop where
  nx : r.x = .normal → Wp P E rd y fl r.fr r.ms r.σ Q
  out : r.x ≠ .normal → Q r

theorem Wp.seq {x y : Code} (h : Wp P E rd x fl fr ms σ (SeqQ P E rd y fl Q)) : Wp P E rd (.seq x y) fl fr ms σ Q := by
  obtain ⟨⟨x1, fr1, ms1, σ1⟩, h1, h2⟩ := h.ex
  cases x1 with
  | normal =>
    obtain ⟨r2, h3, h4⟩ := (h2.nx rfl).ex
    exact ⟨r2, .seq h1 h3, h4⟩
  | ret => exact ⟨_, .seq_out h1 (by simp), h2.out (by simp)⟩
  | exit k => exact ⟨_, .seq_out h1 (by simp), h2.out (by simp)⟩

theorem SeqQ.normal {y : Code} (h : Wp P E rd y fl fr ms σ Q) : SeqQ P E rd y fl Q ⟨.normal, fr, ms, σ⟩ := ⟨fun _ => h, fun e => absurd rfl e⟩
theorem SeqQ.ret {y : Code} (h : Q ⟨.ret, fr, ms, σ⟩) : SeqQ P E rd y fl Q ⟨.ret, fr, ms, σ⟩ := ⟨fun e => (by cases e), fun _ => h⟩
theorem SeqQ.exit {y : Code} {k : Nat} (h : Q ⟨.exit k, fr, ms, σ⟩) : SeqQ P E rd y fl Q ⟨.exit k, fr, ms, σ⟩ := ⟨fun e => (by cases e), fun _ => h⟩

theorem Wp.cond {g : Operand} {x y : Code} {b : Bool} (hg : peval fr g = some (.bool b)) (h1 : b = true → Wp P E rd x fl fr ms σ Q) (h2 : b = false → Wp P E rd y fl fr ms σ Q) : Wp P E rd (.cond g x y) fl fr ms σ Q := by
  cases b with
  | true => obtain ⟨r, e1, e2⟩ := (h1 rfl).ex; exact ⟨r, .cond hg e1, e2⟩
  | false => obtain ⟨r, e1, e2⟩ := (h2 rfl).ex; exact ⟨r, .cond hg e1, e2⟩

theorem Wp.cond_true {g : Operand} {x y : Code} (hg : peval fr g = some (.bool true)) (h1 : Wp P E rd x fl fr ms σ Q) : Wp P E rd (.cond g x y) fl fr ms σ Q := .cond hg (fun _ => h1) (fun h => by cases h)
theorem Wp.cond_false {g : Operand} {x y : Code} (hg : peval fr g = some (.bool false)) (h1 : Wp P E rd y fl fr ms σ Q) : Wp P E rd (.cond g x y) fl fr ms σ Q := .cond hg (fun h => by cases h) (fun _ => h1)

/-- What is to hold in a block. -/
structure BlockQ (id : Nat) (Q : PO → Prop) (r : PO) : Prop where
  out : ∀ k, r.x = .exit k → Q ⟨if k = id then .normal else .exit k, r.fr, r.ms, r.σ⟩
  on : (∀ k, r.x ≠ .exit k) → Q r

theorem Wp.block {id : Nat} {b : Code} (h : Wp P E rd b fl fr ms σ (BlockQ id Q)) : Wp P E rd (.block id b) fl fr ms σ Q := by
  obtain ⟨⟨x1, fr1, ms1, σ1⟩, h1, h2⟩ := h.ex
  cases x1 with
  | normal => exact ⟨_, .block_other h1 (by simp), h2.on (by simp)⟩
  | ret => exact ⟨_, .block_other h1 (by simp), h2.on (by simp)⟩
  | exit k => exact ⟨_, .block h1, h2.out k rfl⟩

theorem BlockQ.normal {id : Nat} (h : Q ⟨.normal, fr, ms, σ⟩) : BlockQ id Q ⟨.normal, fr, ms, σ⟩ := ⟨fun _ e => (by cases e), fun _ => h⟩
theorem BlockQ.ret {id : Nat} (h : Q ⟨.ret, fr, ms, σ⟩) : BlockQ id Q ⟨.ret, fr, ms, σ⟩ := ⟨fun _ e => (by cases e), fun _ => h⟩
theorem BlockQ.here {id : Nat} (h : Q ⟨.normal, fr, ms, σ⟩) : BlockQ id Q ⟨.exit id, fr, ms, σ⟩ :=
  ⟨fun k e => by simp only [PX.exit.injEq] at e; subst e; rw [if_pos rfl]; exact h, fun e => absurd rfl (e id)⟩
theorem BlockQ.there {id k : Nat} (hk : k ≠ id) (h : Q ⟨.exit k, fr, ms, σ⟩) : BlockQ id Q ⟨.exit k, fr, ms, σ⟩ :=
  ⟨fun k' e => by simp only [PX.exit.injEq] at e; subst e; rw [if_neg hk]; exact h, fun e => absurd rfl (e k)⟩

/-- What is to hold behind one time round. -/
structure LoopQ (P : Program) (E : PExt) (rd : Option Nat) (b : Code) (fl : Nat) (Q : PO → Prop) (r : PO) : Prop where
  nx : r.x = .normal → Wp P E rd (.loop b) fl r.fr r.ms r.σ Q
  out : r.x ≠ .normal → Q r

theorem Wp.loop {b : Code} (h : Wp P E rd b fl fr ms σ (LoopQ P E rd b fl Q)) : Wp P E rd (.loop b) fl fr ms σ Q := by
  obtain ⟨⟨x1, fr1, ms1, σ1⟩, h1, h2⟩ := h.ex
  cases x1 with
  | normal =>
    obtain ⟨r2, h3, h4⟩ := (h2.nx rfl).ex
    exact ⟨r2, .loop h1 h3, h4⟩
  | ret => exact ⟨_, .loop_out h1 (by simp), h2.out (by simp)⟩
  | exit k => exact ⟨_, .loop_out h1 (by simp), h2.out (by simp)⟩

theorem LoopQ.normal {b : Code} (h : Wp P E rd (.loop b) fl fr ms σ Q) : LoopQ P E rd b fl Q ⟨.normal, fr, ms, σ⟩ := ⟨fun _ => h, fun e => absurd rfl e⟩
theorem LoopQ.ret {b : Code} (h : Q ⟨.ret, fr, ms, σ⟩) : LoopQ P E rd b fl Q ⟨.ret, fr, ms, σ⟩ := ⟨fun e => (by cases e), fun _ => h⟩
theorem LoopQ.exit {b : Code} {k : Nat} (h : Q ⟨.exit k, fr, ms, σ⟩) : LoopQ P E rd b fl Q ⟨.exit k, fr, ms, σ⟩ := ⟨fun e => (by cases e), fun _ => h⟩

theorem Wp.region {id : Nat} {ops : Array Oper} {fr1 : List PD} {σ1 : List SObj} (h : pseq P (pcallE E) fl ops ops.toList fr σ = some (fr1, σ1)) (k : Q ⟨.normal, fr1, ms, σ1⟩) : Wp P E rd (.region id ops false) fl fr ms σ Q :=
  ⟨_, .region (N := 0) (fun _ _ => pseq_up h), k⟩

theorem Wp.draw {id : Nat} {ops : Array Oper} {fr1 : List PD} {σ1 : List SObj} (hs : staticOk ops = true) (h : pdseq P (pcallE E) fl ops (flags ops 0 ops.toList) fr σ = some (fr1, σ1)) (k : Q ⟨.normal, fr1, ms, σ1⟩) :
    Wp P E rd (.region id ops true) fl fr ms σ Q :=
  ⟨_, .draw (N := 0) (fun _ _ => by rw [pdraw_static hs]; exact pdseq_up h), k⟩

/-- A body whose run ends well. -/
theorem Run.body {f : FuncId} {fn : Func} {c : Code} {args : List PD} {p : PD} (hE : E f = none) (hf : P.funcs[f]? = some fn) (hb : fn.body = some c)
    (h : Wp P E none c 0 (args ++ List.replicate (fn.ntmps - args.length) (.tup [])) [] [] (fun r => ∃ p1 σ1, pfinish P 0 fn r = some (p1, σ1) ∧ p1.strip = p)) : Run P E f args p := by
  obtain ⟨r, h1, p1, σ1, h2, h3⟩ := h.ex
  exact ⟨p1, σ1, .body hE hf hb h1 h2, h3⟩

end

/-! ### arithmetic -/
theorem wrap_i64 {x : Int} (h : -9223372036854775808 ≤ x) (h' : x ≤ 9223372036854775807) : IntKind.i64.wrap x = x := by
  simp [IntKind.wrap, IntKind.min, IntKind.max, IntKind.signed, IntKind.bits]
  try omega
theorem wrap_u64 {x : Int} (h : 0 ≤ x) (h' : x ≤ 18446744073709551615) : IntKind.u64.wrap x = x := by
  simp [IntKind.wrap, IntKind.min, IntKind.max, IntKind.signed, IntKind.bits]
  try omega
theorem wrap_u8 {x : Int} (h : 0 ≤ x) (h' : x ≤ 255) : IntKind.u8.wrap x = x := by
  simp [IntKind.wrap, IntKind.min, IntKind.max, IntKind.signed, IntKind.bits]
  try omega

end Go.Kz
