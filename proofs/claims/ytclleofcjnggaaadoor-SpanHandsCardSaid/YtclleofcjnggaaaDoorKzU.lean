/-
  Calls and rounds out of bodies.
-/
import Derived.Test.YtclleofcjnggaaaDoorKzT
set_option linter.all false
namespace Go.Kz
open Go.RowKit

section
variable {P : Program} {fl : Nat}

theorem ptr_eq {b b' : Nat} (h : Value.pointer (some ⟨b, 0, none⟩) = Value.pointer (some ⟨b', 0, none⟩)) : b = b' := by simpa using h

theorem dropMarks_ok {F : Fence} {n : Nat} {fn : Func} {tmps : Array Value} {R : Ending → World → Prop} : ∀ (ms : List Nat) (ds : List Deferred) (c : Cx) (σ' : List SObj), dropMarks fl ms c.σ = some σ' → Sr c → MR c ds ms →
    (∀ c', c'.σ = σ' → Sr c' → Nx fl c c' → LeavesInM F n P fn tmps R [] .returning c'.w) → LeavesInM F n P fn tmps R ds .returning c.w
  | [], [], c, σ', h, hs, _, hR => by
    simp only [dropMarks, Option.some.injEq] at h
    exact hR c h hs (.refl _ _)
  | m :: ms, d :: ds, c, σ', h, hs, hm, hR => by
    obtain ⟨⟨b, h1, h2, h3, h4⟩, h5⟩ := hm
    simp only [dropMarks] at h
    split at h
    · rename_i hfl
      split at h
      · rename_i hmk
        obtain ⟨b', e1, e2⟩ := hs.mark m h2 hmk
        have e := ptr_eq (h4.symm.trans e1)
        subst e
        have nx : Nx fl c (c.put (c.w.putObj b (.deferred none)) m (c.ρ m) .none) := Nx.putNc hs h2 hmk trivial trivial h4 hfl e2 (by simp)
        have hs' : Sr (c.put (c.w.putObj b (.deferred none)) m (c.ρ m) .none) := Sr.putNc hs h2 hmk trivial trivial h4 e2 (by simp) trivial
        refine ⟨by simp, .inl ⟨b, c.w.putObj b (.deferred none), h1, run_takeDeferred e2, ?_⟩⟩
        exact dropMarks_ok ms ds _ σ' h hs' (h5.mono nx) (fun c' q1 q2 q3 => hR c' q1 q2 (nx.trans q3))
      · simp at h
    · simp at h
  | [], _ :: _, _, _, _, _, hm, _ => hm.elim
  | _ :: _, [], _, _, _, _, hm, _ => hm.elim

theorem Leaves.of {c c' : Cx} {p : PD} {v : Value} (hs : Sr c') (nx : Nx fl c c') (hv : VR c' v p) : Leaves fl c p c'.σ v c'.w :=
  ⟨c', rfl, rfl, hs, nx, hv, fun id hd => (nx.new id hd).imp (fun h => h) (fun h => ⟨h, hs.dom id hd⟩)⟩

/-- The parameters are set. -/
theorem pargs_ok {c : Cx} : ∀ (ts : List Tmp) (vs : List Value) (ps : List PD) (a : List Value) (fr : List PD), VRs c vs ps → VRs c a fr → ts.length = vs.length → VRs c ((ts.zip vs).foldl (fun tmps x => tmps.set x.1 x.2) a) (pargs fr ts ps)
  | [], _, _, a, fr, _, h, _ => by simpa [pargs] using h
  | t :: ts, [], _, _, _, _, _, hl => by simp at hl
  | t :: ts, v :: vs, [], _, _, hv, _, _ => by have := hv.1; simp at this
  | t :: ts, v :: vs, p :: ps, a, fr, hv, h, hl => by
    simp only [List.zip_cons_cons, List.foldl_cons, pargs]
    refine pargs_ok ts vs ps _ _ ⟨by simpa using hv.1, fun i u d hu hd => hv.2 (i + 1) u d (by simpa using hu) (by simpa using hd)⟩ ⟨by simpa using h.1, fun i u d hu hd => ?_⟩ (by simpa using hl)
    rw [List.getElem?_set] at hu hd
    by_cases e : t = i
    · subst e
      simp only [if_true] at hu hd
      split at hu
      · split at hd
        · simp only [Option.some.injEq] at hu hd; subst hu hd; exact hv.2 0 _ _ rfl rfl
        · simp at hd
      · simp at hu
    · rw [if_neg e] at hu hd
      exact h.2 i u d hu hd

theorem foldl_tmps : ∀ (l : List (Tmp × Value)) (a : Array Value), (l.foldl (fun tmps x => tmps.setIfInBounds x.1 x.2) a).toList = l.foldl (fun tmps x => tmps.set x.1 x.2) a.toList
  | [], a => rfl
  | x :: l, a => by simp only [List.foldl_cons]; rw [foldl_tmps l]; simp

/-- What is known of a record. -/
theorem loop_at {c : Cx} (hs : Sr c) {id l : Nat} {st : LSt} {fr : List PD} {ps : List Tmp} {as bd : Code} (hd : c.D id) (ho : c.σ[id]? = some (.loop st fr ps as bd)) (hr : c.ρ id = .pointer (some ⟨l, 0, none⟩)) :
    ∃ r, c.w.heap[l]? = some (.loop r) ∧ r.params = ps.toArray ∧ r.assign = as ∧ r.body = bd ∧ VRs c r.tmps.toList fr ∧ st.fits r := by
  obtain ⟨b, r, e1, e2, e3⟩ := hs.loop id st fr ps as bd hd ho
  have e := ptr_eq (hr.symm.trans e1)
  subst e
  exact ⟨r, e2, e3⟩

theorem loop_put {c : Cx} (hs : Sr c) {id l : Nat} {st st' : LSt} {fr : List PD} {ps : List Tmp} {as bd : Code} {r r' : Loop} (hd : c.D id) (ho : c.σ[id]? = some (.loop st fr ps as bd)) (hr : c.ρ id = .pointer (some ⟨l, 0, none⟩)) (hfl : fl ≤ id)
    (hh : c.w.heap[l]? = some (.loop r)) (h1 : r'.params = ps.toArray) (h2 : r'.assign = as) (h3 : r'.body = bd) (h4 : VRs c r'.tmps.toList fr) (h5 : st'.fits r') :
    ∃ c', c'.w = c.w.putObj l (.loop r') ∧ c'.σ = c.σ.set id (.loop st' fr ps as bd) ∧ Sr c' ∧ Nx fl c c' :=
  ⟨c.put (c.w.putObj l (.loop r')) id (c.ρ id) (.loop st' fr ps as bd), rfl, rfl, Sr.putNc hs hd ho trivial trivial hr hh (by simp) ⟨r', rfl, h1, h2, h3, h4, h5⟩, Nx.putNc hs hd ho trivial trivial hr hfl hh (by simp)⟩

theorem loop_drop {c : Cx} (hs : Sr c) {id l : Nat} {st : LSt} {fr : List PD} {ps : List Tmp} {as bd : Code} {r r' : Loop} (hd : c.D id) (ho : c.σ[id]? = some (.loop st fr ps as bd)) (hr : c.ρ id = .pointer (some ⟨l, 0, none⟩)) (hfl : fl ≤ id)
    (hh : c.w.heap[l]? = some (.loop r)) : ∃ c', c'.w = c.w.putObj l (.loop r') ∧ c'.σ = c.σ.set id .none ∧ Sr c' ∧ Nx fl c c' :=
  ⟨c.put (c.w.putObj l (.loop r')) id (c.ρ id) .none, rfl, rfl, Sr.putNc hs hd ho trivial trivial hr hh (by simp) trivial, Nx.putNc hs hd ho trivial trivial hr hfl hh (by simp)⟩

/-- One round. -/
theorem round_ok {code : PCode} (h : CodeOk P code) {F : Fence} (hF : Open F P) {id l : Nat} {args : List PD} {c : Cx} {vs : List Value} {p : PD} {σ' : List SObj} (hc : pround code fl id args c.σ = some (p, σ')) (hs : Sr c) (hX : Xw fl c)
    (hv : VRs c vs args) (hd : c.D id) (hr : c.ρ id = .pointer (some ⟨l, 0, none⟩)) :
    ∃ g tmps as bd, (Instr.yield l vs.toArray).run P c.w = .ok (.round l g tmps as bd) c.w ∧ ∀ m, RoundIn F m P l g tmps as bd c.w (Gives fl c p σ') := by
  unfold pround at hc
  split at hc
  · rename_i hfl
    split at hc
    · rename_i fr pp as bd hlo
      split at hc
      · rename_i hlen
        obtain ⟨r, hh, hp, ha, hb, ht, hst⟩ := loop_at hs hd hlo hr
        have hvl := hv.1
        refine ⟨_, _, _, _, run_yield hh (by simp [hp, hvl, hlen]), fun m => ?_⟩
        have hFl : Open (F.inRound l) P := ⟨hF.fn, hF.depth, hF.name⟩
        refine roundIn_of_wpIn (hF.fn _) ?_
        split at hc
        · rename_i fr1 ms1 σ1 hassign
          have hfr : VRs c ((r.params.zip vs.toArray).foldl (fun tmps x => tmps.setIfInBounds x.1 x.2) r.tmps).toList (pargs fr pp args) := by
            rw [← Array.foldl_toList, foldl_tmps, hp]
            simp only [Array.toList_zip]
            exact pargs_ok pp vs args _ _ hv ht (by rw [hvl, hlen])
          have hno : notOwn c.σ[id]? := by rw [hlo]; trivial
          refine wpX.wpIn ?_
          rw [ha]
          refine h (a := { tmps := _, defers := [] }) hFl hassign hs hX ⟨hfr, hs.glob⟩ trivial (⟨l, rfl, hd, hno, hr⟩ : RdR (F.inRound l) c (some id)) m _ fun c1 a1 e1 hs1 nx1 hf1 hm1 => ?_
          simp only at e1 hf1 hm1
          simp only [PX.toExit, Exit.then]
          obtain ⟨er, hno1⟩ := nx1.rkeep id hd hno
          have hd1 := nx1.dom id hd
          have hr1 := er.trans hr
          split at hc
          · rename_i fr0 ps0 as0 bd0 hlo1
            rw [← e1] at hlo1
            obtain ⟨r1, hh1, hp1, ha1, hb1, ht1, hst1⟩ := loop_at hs1 hd1 hlo1 hr1
            refine ⟨_, run_beginRound hh1 hst1.1, ?_⟩
            obtain ⟨c2, w2, e2, hs2, nx2⟩ := loop_put (fl := fl) hs1 (st' := .busy) (r' := { r1 with state := .busy }) hd1 hlo1 hr1 hfl hh1 hp1 ha1 hb1 ht1 rfl
            have hno2 : notOwn c2.σ[id]? := (nx2.rkeep id hd1 hno1).2
            have hr2 := (nx2.rkeep id hd1 hno1).1.trans hr1
            have hd2 := nx2.dom id hd1
            rw [← w2]
            split at hc
            · rename_i x fr2 ms2 σ2 hbody
              rw [e1.symm, ← e2] at hbody
              have hX1 := hX.next hs nx1
              refine wpX.wpIn ?_
              rw [hb]
              refine h (a := a1) hFl hbody hs2 (hX1.next hs1 nx2) (FR.mono nx2 hf1) (hm1.mono nx2) (⟨l, rfl, hd2, hno2, hr2⟩ : RdR (F.inRound l) c2 (some id)) m _ fun c3 a3 e3 hs3 nx3 _ _ => ?_
              simp only at e3
              have hd3 := nx3.dom id hd2
              have hr3 := (nx3.rkeep id hd2 hno2).1.trans hr2
              have nx13 : Nx fl c c3 := nx1.trans (nx2.trans nx3)
              split at hc
              · rename_i fr3 ps3 as3 bd3 hlo3
                rw [← e3] at hlo3
                obtain ⟨r3, hh3, hp3, ha3, hb3, ht3, hst3⟩ := loop_at hs3 hd3 hlo3 hr3
                cases x with
                | normal =>
                  simp only [Option.some.injEq, Prod.mk.injEq] at hc
                  obtain ⟨rfl, rfl⟩ := hc
                  obtain ⟨c4, w4, e4, hs4, nx4⟩ := loop_put (fl := fl) hs3 (st' := .ready) (r' := { r3 with state := .ready, pending := none }) hd3 hlo3 hr3 hfl hh3 hp3 ha3 hb3 ht3 ⟨rfl, rfl⟩
                  refine ⟨_, _, run_endRound none hh3, ?_⟩
                  have := Leaves.of (p := .bool true) (v := .bool true) hs4 (nx13.trans nx4) (.bool true)
                  rw [w4, e4, e3] at this
                  exact this
                | ret =>
                  simp only [Option.some.injEq, Prod.mk.injEq] at hc
                  obtain ⟨rfl, rfl⟩ := hc
                  obtain ⟨c4, w4, e4, hs4, nx4⟩ := loop_put (fl := fl) hs3 (st' := .done .ret) (r' := { r3 with state := .done, pending := some .ret }) hd3 hlo3 hr3 hfl hh3 hp3 ha3 hb3 ht3 ⟨rfl, rfl⟩
                  refine ⟨_, _, run_endRound (some .ret) hh3, ?_⟩
                  have := Leaves.of (p := .bool false) (v := .bool false) hs4 (nx13.trans nx4) (.bool false)
                  rw [w4, e4, e3] at this
                  exact this
                | exit k =>
                  simp only [Option.some.injEq, Prod.mk.injEq] at hc
                  obtain ⟨rfl, rfl⟩ := hc
                  obtain ⟨c4, w4, e4, hs4, nx4⟩ := loop_put (fl := fl) hs3 (st' := .done (.exit k)) (r' := { r3 with state := .done, pending := some (.exit k) }) hd3 hlo3 hr3 hfl hh3 hp3 ha3 hb3 ht3 ⟨rfl, rfl⟩
                  refine ⟨_, _, run_endRound (some (.exit k)) hh3, ?_⟩
                  have := Leaves.of (p := .bool false) (v := .bool false) hs4 (nx13.trans nx4) (.bool false)
                  rw [w4, e4, e3] at this
                  exact this
              · simp at hc
            · simp at hc
          · simp at hc
        · simp at hc
      · simp at hc
    · simp at hc
  · simp at hc

/-- Functions whose contract is shown by other means. -/
def ExtOk (P : Program) (E : PExt) : Prop :=
  ∀ {F : Fence} {fl : Nat} {f : FuncId} {g : Nat → List PD → List SObj → Option (PD × List SObj)} {args : List PD} {c : Cx} {vs : List Value} {p : PD} {σ' : List SObj}, Open F P → E f = some g → g fl args c.σ = some (p, σ') → Sr c → Xw fl c → VRs c vs args →
    (∃ fn, P.funcs[f]? = some fn ∧ fn.body.isSome = true) ∧ ∀ m, CallsIn F m P f vs.toArray c.w (Gives fl c p σ')

/-- **Calls out of bodies.** -/
theorem ok_of_code {E : PExt} {code : PCode} (hE : ExtOk P E) (h : CodeOk P code) {F : Fence} (hF : Open F P) : Ok F P (pcallBy P E code) where
  round := fun hc hs hX hv hd hr => round_ok h hF hc hs hX hv hd hr
  fn := by
    intro fl f args c vs p σ' hc hs hX hv
    simp only [pcallBy] at hc
    split at hc
    · rename_i g hg
      exact hE hF hg hc hs hX hv
    · unfold pbody at hc
      split at hc
      · rename_i fn hfn
        split at hc
        · rename_i bd hbd
          refine ⟨⟨fn, hfn, by simp [hbd]⟩, fun m => ?_⟩
          split at hc
          · rename_i r hr
            have hF0 : Open { F with round := none } P := ⟨hF.fn, hF.depth, hF.name⟩
            have key : CallsIn { F with round := none } m P f vs.toArray c.w (Gives fl c p σ') := by
              refine callsIn_of_wp_marks hfn hbd (hF.fn f) (wpX.wpIn ?_)
              have hfr : VRs c (vs.toArray ++ Array.replicate (fn.ntmps - vs.toArray.size) undef).toList (args ++ List.replicate (fn.ntmps - args.length) (.tup [])) := by
                have e : (vs.toArray ++ Array.replicate (fn.ntmps - vs.toArray.size) undef).toList = vs ++ List.replicate (fn.ntmps - args.length) undef := by simp [hv.1]
                rw [e]
                refine hv.append ⟨by simp, fun i v d h1 h2 => ?_⟩
                rw [List.getElem?_replicate] at h1 h2
                split at h1
                · simp only [Option.some.injEq] at h1 h2; subst h1
                  rw [if_pos ‹_›] at h2
                  simp only [Option.some.injEq] at h2; subst h2; exact VR.undef c
                · simp at h1
              refine h (a := { tmps := _, defers := [] }) hF0 hr hs hX ⟨hfr, hs.glob⟩ trivial (rfl : RdR { F with round := none } c none) m _ fun c1 a1 e1 hs1 nx1 hf1 hm1 => ?_
              have leave : (∀ k, r.x ≠ .exit k) → LeavesInM { F with round := none } m P fn a1.tmps (Gives fl c p σ') a1.defers .returning c1.w := by
                intro hx
                unfold pfinish at hc
                have hc : (match dropMarks fl r.ms r.σ with
                    | some σ => match presults P r.fr σ fn.results.toList with
                      | some ps => some (ptuple ps, σ)
                      | none => none
                    | none => none) = some (p, σ') := by
                  split at hc
                  · rename_i k hk; exact absurd hk (hx k)
                  · exact hc
                split at hc
                · rename_i σ1 hdm
                  split at hc
                  · rename_i qs hqs
                    simp only [Option.some.injEq, Prod.mk.injEq] at hc
                    obtain ⟨rfl, rfl⟩ := hc
                    rw [← e1] at hdm
                    refine dropMarks_ok r.ms a1.defers c1 σ1 hdm hs1 hm1 fun c2 e2 hs2 nx2 => ?_
                    rw [← e2] at hqs
                    obtain ⟨v, rv, hvv⟩ := results_ok (P := P) hs2 (FR.mono nx2 hf1) hqs
                    refine ⟨v, rv, ?_⟩
                    have := Leaves.of hs2 (nx1.trans nx2) hvv
                    rw [e2] at this
                    exact this
                  · simp at hc
                · simp at hc
              cases hx : r.x with
              | normal => exact leave (by rw [hx]; simp)
              | ret => exact leave (by rw [hx]; simp)
              | exit k => exfalso; unfold pfinish at hc; rw [hx] at hc; simp at hc
            exact ⟨key.1, key.2⟩
          · simp at hc
        · simp at hc
      · simp at hc

end
end Go.Kz
