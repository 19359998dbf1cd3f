/-
  A plain table of the program at the start of a call.
-/
import Derived.Test.YtclleofcjnggaaaDoorKzW
import Derived.OpenShut
import Derived.FnData
import Derived.MakeChecks
set_option linter.all false
namespace Go.Kz
open Go.RowKit

theorem glob_of_laid {P : Program} {w : World} {nm : String} {k : IntKind} {xs : List Int} {g n : Nat} {t e : TypeId} (h : laidMetH P [(nm, .agg (xs.map fun x => .lit (.int k x)))] w)
    (hh : ([(nm, (.agg (xs.map fun x => .lit (.int k x)) : DataW Unit))].all fun x => x.2.handleName?.isNone) = true)
    (hg : P.globalNamed nm = some g) (ht : (P.globals[g]?).map (·.type) = some t) (hu : P.underlying t = some (.array n e)) (he : P.underlying e = some (.int k)) (hc : P.cellsOf e = 1) :
    VR (.start w) (.pointer (some ⟨g, 0, none⟩)) (.eptr (xs.map (PD.int k)) 0) := by
  rw [MakeChecks.laidMetH_plain _ _ _ hh] at h
  obtain ⟨ps, ⟨g1, t1, cs1, f1, p1, q1, hg1, ht1, hv1, hd1, _⟩, _, _⟩ := h
  obtain rfl := Option.some.inj (hg.symm.trans hg1)
  obtain rfl := Option.some.inj (ht.symm.trans ht1)
  obtain ⟨ys, m1, rfl, hx1, hlen, hn, hel⟩ := DataW.trod_array hu hd1
  simp only [Prod.mk.injEq, DataW.agg.injEq] at hx1
  have hxl : xs.length = n := by
    have := congrArg List.length hx1.1
    simp only [List.length_map] at this
    omega
  have key : ∀ (j : Nat) (x : Int), xs[j]? = some x → cs1[j]? = some (Value.int k x) := by
    intro j x hj
    have hjl : j < n := by rw [← hxl]; exact (List.getElem?_eq_some_iff.1 hj).1
    have hy : ys[j]? = some ys[j] := List.getElem?_eq_getElem (by omega)
    have h1 := hel j hjl
    rw [hy, hc, Nat.mul_one] at h1
    obtain ⟨v, e1, e2, _⟩ := DataW.trod_int he h1
    have h2 := congrArg (fun l => l[j]?) hx1.1
    simp only [List.getElem?_map, hj, hy, Option.map_some, Option.some.injEq, e2, DataW.lit.injEq, Lit.int.injEq] at h2
    have h3 := congrArg (fun l => l[0]?) e1
    simp only [List.getElem?_take, List.getElem?_drop, Nat.add_zero, Nat.zero_lt_one, if_true, List.getElem?_cons_zero] at h3
    rw [← Array.getElem?_toList, h3, h2.2]
  have hadd : ∀ j, (⟨g, 0, none⟩ : Addr).add j = ⟨g, j, none⟩ := fun j => by unfold Addr.add; split <;> simp_all
  have := VR.eptr (c := .start w) ⟨g, 0, none⟩ (xs.map (Value.int k)) (xs.map (PD.int k)) 0 (by simp) (by simp [Value.oneCell']) (fun j v hj => by
    rw [List.getElem?_map] at hj
    cases hx : xs[j]? with
    | none => rw [hx] at hj; simp at hj
    | some x =>
      rw [hx] at hj
      simp only [Option.map_some, Option.some.injEq] at hj
      rw [hadd]
      refine ⟨?_, av_start _⟩
      show w.cell? ⟨g, j, none⟩ = some v
      rw [World.var?_cell hg1 hv1 j, key j x hx, hj]) (fun j v d h1 h2 => by
    rw [List.getElem?_map] at h1 h2
    cases hx : xs[j]? with
    | none => rw [hx] at h1; simp at h1
    | some x =>
      rw [hx] at h1 h2
      simp only [Option.map_some, Option.some.injEq] at h1 h2
      subst h1 h2
      exact .int k x)
  rw [hadd] at this
  exact this

end Go.Kz
