/-
  Part P9 of the way: an interpreter over pure data, its soundness, walks through functions.
-/
import Derived.Test.YteegpeenjdgodaaGreatDoorP4
import Derived.Lib.Itoa
import Derived.Lib.ItoaNum
import Derived.Lib.Join
import Derived.Test.YteegpeenjdgodaaGreatDoorP8
import Derived.Shelf.Strings.OnBuilder
import Derived.Shelf.Spec.SlicesInsert
set_option linter.all false

/-
  Chapter 51: strconv.Itoa and strings.Join as entries of the table.
-/
namespace Go.Kz
open Go Go.Proofs
abbrev i64t : Em Int := Em.int .i64
noncomputable def gItoa : Nat → List PD → List SObj → Option (PD × List SObj) := entry (gf1 i64t .text fun n => gif (-9223372036854775808 ≤ n ∧ n ≤ 9223372036854775807) (some (Lib.itoa n)))
theorem gItoa_of (n : Int) (h : -9223372036854775808 ≤ n ∧ n ≤ 9223372036854775807) (fl : Nat) (σ : List SObj) : gItoa fl [.int .i64 n] σ = some (.str (Lib.itoa n), σ) := by
  have e : i64t.dec (.int .i64 n) = some n := Em.dec_some rfl
  unfold gItoa entry gf1
  simp only [e]
  rw [gif_pos h]
  rfl
def okJ (l : List (List UInt8)) (s : List UInt8) : Prop := l ≠ [] ∧ l.length ≤ 1000 ∧ (Lib.join l s).length ≤ 1000000
noncomputable def gJoin : Nat → List PD → List SObj → Option (PD × List SObj) := entry (gf2 (Em.text.list 1) .text .text fun l s => gif (okJ l s) (some (Lib.join l s)))
theorem gJoin_of (l : List (List UInt8)) (s : List UInt8) (h : okJ l s) (t : Tok) (fl : Nat) (σ : List SObj) : gJoin fl [.slice 1 (l.map PD.str) t, .str s] σ = some (.str (Lib.join l s), σ) := by
  have e1 : (Em.text.list 1).dec (.slice 1 (l.map PD.str) t) = some l := Em.dec_some (by
    rw [PD.strip_slice]
    show _ = PD.slice (sz 1 l) (l.map PD.str) .any
    rw [sz_ne h.1, if_neg (by simp [h.1]), List.map_map]
    rfl)
  have e2 : Em.text.dec (.str s) = some s := Em.dec_some rfl
  unfold gJoin entry gf2
  simp only [e1, e2]
  rw [gif_pos h]
  rfl
theorem gJoinOf {k : Nat} (hk : k = 1) {xs : List PD} {l : List (List UInt8)} (hxs : xs = l.map PD.str) {s : List UInt8} (h : okJ l s) (t : Tok) (fl : Nat) (σ : List SObj) : gJoin fl [.slice k xs t, .str s] σ = some (.str (Lib.join l s), σ) := by
  subst hk hxs
  exact gJoin_of l s h t fl σ
end Go.Kz

/-
  Chapter 51: strconv.Itoa and strings.Join are in the table.
-/
namespace Go.Kz
open Go Go.Proofs Go.RowKit
theorem lib_Itoa {E : PExt} (hE : ExtOk Tryz.prog E) : ExtOk Tryz.prog (E.add 65 gItoa) := by
  refine hE.addLib ⟨_, Tryz.func65, rfl⟩ fun args c vs p hg hs hv => ?_
  obtain ⟨n, z, ha, hz, rfl⟩ := gf1_some hg
  obtain ⟨⟨h0, h1⟩, hz2⟩ := gif_some hz
  simp only [Option.some.injEq] at hz2
  subst hz2
  have hv' := hv.strip
  rw [ha] at hv'
  obtain ⟨v, rfl, h2⟩ := vrs_one hv'
  rw [h2.int_eq]
  obtain ⟨⟨cs, T, fz, hheap, hh⟩, _⟩ := hs.glob.2 0 rfl
  have hcs := hh.1 .u64 _ rfl
  have htab : Lib.TabIs Tryz.prog c.w "internal/strconv.uint64pow10" .u64 Lib.pow10Tab := by
    unfold Lib.TabIs World.var?
    have hg : Tryz.prog.globalNamed "internal/strconv.uint64pow10" = some 0 := by kernel_rfl
    rw [hg]
    simp only [Option.bind_some, hheap]
    rw [hcs]
    rfl
  refine Calls.mono (Tryz.strconv_Itoa n h0 h1 c.w htab) fun e w' he => ?_
  obtain ⟨rfl, k, os, rfl⟩ := he
  exact ⟨_, rfl, ⟨rfl, rfl, rfl, by simp [Go.Sort.grow], fun i hi _ => by simp [Go.Sort.grow, Array.getElem?_append, hi]⟩, fun _ => .str _⟩

theorem lib_Join {E : PExt} (hE : ExtOk Tryz.prog E) : ExtOk Tryz.prog (E.add 66 gJoin) := by
  refine hE.addLib ⟨_, Tryz.func66, rfl⟩ fun args c vs p hg hs hv => ?_
  obtain ⟨l, s, z, ha, hz, rfl⟩ := gf2_some hg
  obtain ⟨⟨hne, hl, hjl⟩, hz2⟩ := gif_some hz
  simp only [Option.some.injEq] at hz2
  subst hz2
  have hv' := hv.strip
  rw [ha] at hv'
  obtain ⟨v, u, rfl, h1, h2⟩ := vrs_two hv'
  rw [h2.str_eq]
  obtain ⟨A, capx, flx, rfl, a1, a2, a3, a4, a5, a6, a7, a8⟩ := h1.inv_slice
  have hfl : (l.map Em.text.emb).flatMap PD.cells = l.map PD.str := by
    have : ∀ l : List (List UInt8), (l.map Em.text.emb).flatMap PD.cells = l.map PD.str := fun l => by
      induction l with
      | nil => rfl
      | cons x l ih => rw [List.map_cons, List.flatMap_cons, ih]; rfl
    exact this l
  rw [List.length_map] at a4
  rw [sz_ne hne, Nat.mul_one] at a4
  rw [hfl] at a7
  have hl0 : 0 < l.length := List.length_pos_iff.2 hne
  obtain ⟨ad, rfl, hc0, _⟩ := a6 0 (flx[0]'(by omega)) (by simp)
  obtain ⟨bk, o, spot⟩ := ad
  have hsp : spot = none := by
    cases spot with
    | none => rfl
    | some q =>
      have : ((⟨bk, o, some q⟩ : Addr).add 0).spot.isSome = true := by unfold Addr.add; split <;> simp_all
      unfold World.cell? at hc0
      split at hc0
      · rw [if_pos this] at hc0; cases hc0
      · cases hc0
  subst hsp
  have hbk : bk < c.w.heap.size := by
    have := cell_lt hc0
    rwa [add_block] at this
  have hx : (l.map fun s : List UInt8 => (⟨s.toArray⟩ : ByteArray)).map (·.data.toList) = l := by
    rw [List.map_map]
    conv => rhs; rw [← List.map_id l]
    exact List.map_congr_left fun x _ => by simp
  have hj := Tryz.strings_Join bk o capx (l.map fun s : List UInt8 => (⟨s.toArray⟩ : ByteArray)) ⟨s.toArray⟩ c.w (fun j x hjx => by
    rw [List.getElem?_map] at hjx
    cases hlj : l[j]? with
    | none => rw [hlj] at hjx; cases hjx
    | some y =>
      rw [hlj] at hjx
      simp only [Option.map_some, Option.some.injEq] at hjx
      subst hjx
      have hjl : j < flx.length := by rw [a4]; exact (List.getElem?_eq_some_iff.1 hlj).1
      obtain ⟨ad', e9, h9, _⟩ := a6 j flx[j] (List.getElem?_eq_getElem hjl)
      cases e9
      have := (a7 j flx[j] (.str y) (List.getElem?_eq_getElem hjl) (by rw [List.getElem?_map, hlj]; rfl)).str_eq
      rw [← addr_lit, h9, this]) hbk (by rw [List.length_map]; omega) (by rw [List.length_map]; rw [List.length_map] at a1; exact a1) (by rw [hx]; exact Nat.le_trans hjl (by omega))
  rw [List.length_map, hx] at hj
  rw [List.length_map]
  refine Calls.mono hj fun e w' he => ?_
  obtain ⟨rfl, hB⟩ := he
  refine ⟨_, rfl, ⟨hB.os, hB.tape, hB.output, hB.size, fun k hk _ => hB.block k hk⟩, fun _ => ?_⟩
  exact .str _
end Go.Kz

/-
  slices.Insert of ranks, where there is room.
-/
namespace Go.Kz
open Go Go.Proofs Go.RowKit Go.Lib
set_option maxRecDepth 100000
set_option maxHeartbeats 4000000
def insD (cur : Array Value) (i n : Nat) : List Value := (cur.toList.drop (i * 6)).take ((n - i) * 6)
def insA (cur : Array Value) (i n : Nat) : Array Value := (cur.toList.take ((i + 1) * 6) ++ insD cur i n ++ cur.toList.drop ((i + 1) * 6 + (insD cur i n).length)).toArray
def insB (cur : Array Value) (i n : Nat) (vs : List Value) : Array Value := ((insA cur i n).toList.take (i * 6) ++ vs ++ (insA cur i n).toList.drop (i * 6 + vs.length)).toArray
theorem ins_room (w : World) (b n c i vc : Nat) (a : Addr) (cur : Array Value) (T : TypeId) (vs : List Value) {cA : Array Value} {TA : TypeId} {fz : Nat × Nat}
    (hi : i < n) (hroom : n + 1 ≤ c) (hc : c ≤ maxLen) (hb : w.heap[b]? = some (.cells cur T (0, 0))) (hcur : cur.size = c * 6) (hab : a.block ≠ b) (ha : w.heap[a.block]? = some (.cells cA TA fz)) (ha0 : cA.size ≠ 0)
    (hvl : vs.length = 6) (hvs : ∀ (j : Nat) (v : Value), vs[j]? = some v → w.cell? (a.add j) = some v) (h1c : ∀ v ∈ cur.toList, v.oneCell' = true) (h1v : ∀ v ∈ vs, v.oneCell' = true) :
    Calls Tryz.prog 112 #[.slice (some ⟨b, 0, none⟩) n c, .int .i64 i, .slice (some a) 1 vc] w fun e w' =>
      e = .returned (.slice (some ⟨b, 0, none⟩) (n + 1) c) ∧ w' = (w.drew.setRow b (insA cur i n)).setRow b (insB cur i n vs) := by
  have mixed : Tryz.prog.follows .mixedOrders = true := by kernel_rfl
  have u3 := run_underlying (P := Tryz.prog) Tryz.underlying3
  have u4 := run_underlying (P := Tryz.prog) Tryz.underlying4
  have ut := run_underlying (P := Tryz.prog) Tryz.underlying31
  have hz : ∀ w, (Go.sizeOf 48).run Tryz.prog w = .ok 6 w := fun w => by kernel_rfl
  have hov : ∀ bo lb cb, (callFunc 137 #[.slice (some a) 1 vc, .slice (some ⟨b, bo, none⟩) lb cb]).run Tryz.prog w = .ok (.value (.bool false)) w := fun bo lb cb => by
    rw [run_callFunc_extern Tryz.func137 (by kernel_rfl) (by kernel_rfl) (by kernel_rfl) (e := Extern.SlicesOverlaps.overlaps #[31, 31] #[4]) (by kernel_rfl),
      run_overlaps_off w 31 4 48 Tryz.underlying31 6 hz a ⟨b, bo, none⟩ 1 vc lb cb hab ha ha0 hb]
    rfl
  go_enter Tryz.func112, Tryz.ntmps112
  have hcm : c ≤ 9223372036854775807 := hc
  have hz2 : ¬ ((i : Int) = (n : Int)) := by omega
  have hw0 : IntKind.i64.wrap ((n : Int) + 1) = (n : Int) + 1 := by rw [IntKind.wrap_i64]; omega
  have hw1 : IntKind.i64.wrap ((i : Int) + 1) = (i : Int) + 1 := by rw [IntKind.wrap_i64]; omega
  have hw2 : wrap64 ((n : Int) + 1) = (n : Int) + 1 := wrap64_small (by omega) (by omega)
  have hw3 : wrap64 ((i : Int) + 1) = (i : Int) + 1 := wrap64_small (by omega) (by omega)
  have hb0 : (0 : Int) ≤ (n : Int) + 1 := by omega
  have hb1 : (0 : Int) ≤ (i : Int) + 1 := by omega
  have hb2 : ¬ ((c : Int) < (n : Int) + 1) := by omega
  have hb3 : (n : Int) + 1 ≤ (c : Int) := by omega
  have hb4 : (i : Int) + 1 ≤ (n : Int) + 1 := by omega
  have hb5 : (i : Int) ≤ (n : Int) + 1 := by omega
  have hq1 : ¬ (c = i + 1) := by omega
  have hq2 : ¬ (c = i) := by omega
  have ht1 : ((n : Int) + 1).toNat = n + 1 := by omega
  have ht2 : ((i : Int) + 1).toNat = i + 1 := by omega
  have hDl : (insD cur i n).length = (n - i) * 6 := by
    unfold insD
    rw [List.length_take, List.length_drop, Array.length_toList, hcur]
    omega
  have hAs : (insA cur i n).size = cur.size := by
    unfold insA
    simp only [List.size_toArray, List.length_append, List.length_take, List.length_drop, Array.length_toList, hDl, hcur]
    omega
  have h1D : ∀ v ∈ insD cur i n, v.oneCell' = true := fun v hv => h1c v (List.mem_of_mem_drop (List.mem_of_mem_take hv))
  have h1A : ∀ v ∈ (insA cur i n).toList, v.oneCell' = true := by
    unfold insA
    intro v hv
    simp only [List.mem_append] at hv
    rcases hv with (hv | hv) | hv
    · exact h1c v (List.mem_of_mem_take hv)
    · exact h1D v hv
    · exact h1c v (List.mem_of_mem_drop hv)
  have hbd : w.drew.heap[b]? = some (.cells cur T (0, 0)) := hb
  have hcp1 : ∀ ty dc sc, (Builtin.copy_ #[31, 31] ty #[.slice (some ⟨b, (i + 1) * 6, none⟩) (n - i) dc, .slice (some ⟨b, i * 6, none⟩) (n + 1 - i) sc]).run Tryz.prog w.drew = .ok (goInt (n - i : Nat)) (w.drew.setRow b (insA cur i n)) := fun ty dc sc =>
    run_copyK Tryz.underlying31 hz w.drew b ((i + 1) * 6) _ dc (some ⟨b, i * 6, none⟩) _ sc (n - i) (by simp only [Nat.min_def]; split <;> omega) (insD cur i n) hDl (fun j v hj => ⟨_, rfl, by
      rw [addr_lit]
      simp only [World.cell?, hbd]
      unfold insD at hj
      rw [List.getElem?_take] at hj
      split at hj
      · rw [List.getElem?_drop] at hj
        simpa using hj
      · cases hj⟩) hbd (by rw [hDl, hcur]; omega) h1D
  obtain ⟨W1, hW1⟩ : ∃ W1, W1 = w.drew.setRow b (insA cur i n) := ⟨_, rfl⟩
  have hb1 : W1.heap[b]? = some (.cells (insA cur i n) T (0, 0)) := by rw [hW1]; exact setRow_heap _ _ cur _ T (0, 0) hbd
  have hcp2 : ∀ ty dc sc, (Builtin.copy_ #[31, 31] ty #[.slice (some ⟨b, i * 6, none⟩) (n + 1 - i) dc, .slice (some a) 1 sc]).run Tryz.prog W1 = .ok (goInt (1 : Nat)) (W1.setRow b (insB cur i n vs)) := fun ty dc sc =>
    run_copyK Tryz.underlying31 hz W1 b (i * 6) _ dc (some a) 1 sc 1 (by simp only [Nat.min_def]; split <;> omega) vs (by omega) (fun j v hj => ⟨_, rfl, by
      have := hvs j v hj
      rw [hW1]
      have hbl : (a.add j).block = a.block := by cases a; unfold Addr.add; split <;> rfl
      unfold World.cell? at this ⊢
      rw [hbl] at this ⊢
      rw [setRow_other _ _ _ _ (fun h => hab h)]
      exact this⟩) hb1 (by rw [hAs, hcur, hvl]; omega) h1v
  subst hW1
  go_wp2_with (simp only [hov])
  go_region_law_o (refine step_copy_runI rfl _ _ 31 31 rfl _ _ (by simp [Act.eval, Act.put]) (by simp [Act.eval, Act.put]) (hcp1 _ _ _) ?_)
  go_wp2_with (at_builtin; refine wpList_copy_runI _ rfl _ _ 31 31 rfl _ _ rfl rfl (hcp2 _ _ _) ?_)
  go_ret
  exact ⟨rfl, rfl⟩
end Go.Kz

/-
  slices.Insert of ranks, where the row must grow.
-/
namespace Go.Kz
open Go Go.Proofs Go.RowKit Go.Lib
set_option maxRecDepth 100000
set_option maxHeartbeats 4000000
def insR (zc : Array Value) (cur : Array Value) (i n G : Nat) : Array Value := (cur.toList.take (i * 6)).toArray ++ Builtin.zeroCells zc (n + 1 - i) ++ Builtin.zeroCells zc (G - (n + 1))
def insS (R : Array Value) (i : Nat) (vs : List Value) : Array Value := (R.toList.take (i * 6) ++ vs ++ R.toList.drop (i * 6 + vs.length)).toArray
def insT (S : Array Value) (i : Nat) (D : List Value) : Array Value := (S.toList.take ((i + 1) * 6) ++ D ++ S.toList.drop ((i + 1) * 6 + D.length)).toArray
theorem one_min {i n : Nat} (hi : i < n) : Nat.min 1 (n + 1 - i) = 1 := by simp only [Nat.min_def]; split <;> omega
theorem same_min {i n : Nat} : Nat.min (n - i) (n - i) = n - i := Nat.min_self _
theorem fit1 {i n r l : Nat} (hi : i < n) (hr : n * 6 + 6 ≤ r) (hl : l = 6) : i * 6 + l ≤ r := by omega
theorem fit2 {i n r s l : Nat} (hi : i < n) (hr : n * 6 + 6 ≤ r) (hs : s = r) (hl : l = (n - i) * 6) : (i + 1) * 6 + l ≤ s := by omega
theorem insS_size {R : Array Value} {i n : Nat} {vs : List Value} (hi : i < n) (hr : n * 6 + 6 ≤ R.size) (hvl : vs.length = 6) : (insS R i vs).size = R.size := by
  unfold insS
  simp only [List.size_toArray, List.length_append, List.length_take, List.length_drop, Array.length_toList, hvl]
  omega
theorem insD_len {cur : Array Value} {i n c : Nat} (hcur : cur.size = c * 6) (hi : i < n) (hnc : n ≤ c) : (insD cur i n).length = (n - i) * 6 := by
  unfold insD
  rw [List.length_take, List.length_drop, Array.length_toList, hcur]
  omega
theorem six_le {n G : Nat} (h : n + 1 ≤ G) : n * 6 + 6 ≤ G * 6 := by omega
theorem insR_size {zc cur : Array Value} {i n c G : Nat} (hzs : zc.size = 6) (hcur : cur.size = c * 6) (hi : i < n) (hnc : n ≤ c) (hge : n + 1 ≤ G) : (insR zc cur i n G).size = G * 6 := by
  have h1 : (cur.toList.take (i * 6)).length = i * 6 := by rw [List.length_take, Array.length_toList, hcur]; omega
  unfold insR
  simp only [Array.size_append, List.size_toArray, h1, size_zeroCells, hzs]
  omega
theorem ins_grow (w : World) (b n c i vc : Nat) (a : Addr) (cur : Array Value) (T : TypeId) (vs : List Value) {cA : Array Value} {TA : TypeId} {fz : Nat × Nat}
    (hi : i < n) (hnc : n ≤ c) (hroom : c < n + 1) (hn : n ≤ 200) (hb : w.heap[b]? = some (.cells cur T (0, 0))) (hcur : cur.size = c * 6) (ha : w.heap[a.block]? = some (.cells cA TA fz))
    (hvl : vs.length = 6) (hvs : ∀ (j : Nat) (v : Value), vs[j]? = some v → w.cell? (a.add j) = some v) (h1c : ∀ v ∈ cur.toList, v.oneCell' = true) (h1v : ∀ v ∈ vs, v.oneCell' = true)
    {inf : TypeInfo} {z : Value} (hin : Tryz.prog.info? 48 = some inf) (hzr : inf.zero = some z) (his : inf.size = 6) (hib : inf.bytes ≤ 1000) (hzs : z.cells.size = 6) (hz1 : ∀ v ∈ z.cells.toList, v.oneCell' = true) (G : Nat) (hG : Kept (G = grownCap w (n + 1) c 48)) :
    Calls Tryz.prog 112 #[.slice (some ⟨b, 0, none⟩) n c, .int .i64 i, .slice (some a) 1 vc] w fun e w' =>
      e = .returned (.slice (some ⟨w.heap.size, 0, none⟩) (n + 1) G) ∧
      w' = ((w.drew.alloc (.cells (insR z.cells cur i n G) 48)).setRow w.heap.size (insS (insR z.cells cur i n G) i vs)).drew.setRow w.heap.size (insT (insS (insR z.cells cur i n G) i vs) i (insD cur i n)) := by
  have mixed : Tryz.prog.follows .mixedOrders = true := by kernel_rfl
  have u3 := run_underlying (P := Tryz.prog) Tryz.underlying3
  have u4 := run_underlying (P := Tryz.prog) Tryz.underlying4
  have ut := run_underlying (P := Tryz.prog) Tryz.underlying31
  have hz : ∀ w, (Go.sizeOf 48).run Tryz.prog w = .ok 6 w := fun w => by kernel_rfl
  have hge : n + 1 ≤ G := by rw [hG.out]; exact grownCap_ge _ _ _ _
  have hbw : b < w.heap.size := heap_lt hb
  have haw : a.block < w.heap.size := heap_lt ha
  obtain ⟨hz2, hw0, hw1, hw2, hw3, hw5, hw4, hb2, hb5, hb6, hb7, hb8, hb9, hq1, hq2, hq3, ht2, hik⟩ := grow_arith hi hnc hroom hn hge
  have hic : i ≤ c := Nat.le_of_lt (Nat.lt_of_lt_of_le hi hnc)
  have hold : (Builtin.firstCells inf.size i (.slice (some ⟨b, 0, none⟩) i c)).run Tryz.prog w.drew = .ok (cur.toList.take (i * 6)).toArray w.drew := by
    rw [his]
    exact run_loadCells_of (by rw [List.length_take, Array.length_toList, hcur, Nat.min_eq_left]; exact Nat.mul_le_mul_right _ hic) fun j v hj => by
      rw [addr_lit]
      simp only [World.cell?, drew_heap, hb, Nat.zero_add]
      rw [List.getElem?_take] at hj
      split at hj
      · simpa using hj
      · cases hj
  have hrz : ∀ ty, (Builtin.append_ #[31, 3] ty #[.slice (some ⟨b, 0, none⟩) i c, .int .i64 ((n : Int) + 1 - i)]).run Tryz.prog w =
      .ok (.slice (some ⟨w.heap.size, 0, none⟩) (n + 1) G) (w.drew.alloc (.cells (insR z.cells cur i n G) 48)) := fun ty => by
    obtain ⟨m1, m2, m3, m4, m5⟩ := grow_more hi hnc hroom hn hib
    have h := Lib.run_append_grow_zeros (P := Tryz.prog) w 31 3 ty 48 inf z .i64 .i64 Tryz.underlying31 Tryz.underlying3 hin hzr (some ⟨b, 0, none⟩) i c (cur.toList.take (i * 6)) hold (n + 1 - i) m1 (by rw [his]; decide) m2 m3 m4 m5
    rw [hik, ← hG.out] at h
    rw [hw5]
    exact h
  have hRs : n * 6 + 6 ≤ (insR z.cells cur i n G).size := by
    rw [insR_size hzs hcur hi hnc hge]
    exact six_le hge
  obtain ⟨R, hR⟩ : ∃ R, insR z.cells cur i n G = R := ⟨_, rfl⟩
  rw [hR] at hrz hRs ⊢
  have hheap : (w.drew.alloc (.cells R 48)).heap[w.heap.size]? = some (.cells R 48 (0, 0)) := heap_alloc_new w.drew _
  have hcA : ∀ ty dc sc, (Builtin.copy_ #[31, 31] ty #[.slice (some ⟨w.heap.size, i * 6, none⟩) (n + 1 - i) dc, .slice (some a) 1 sc]).run Tryz.prog (w.drew.alloc (.cells R 48)) = .ok (goInt (1 : Nat)) ((w.drew.alloc (.cells R 48)).setRow w.heap.size (insS R i vs)) := fun ty dc sc =>
    run_copyK (cur := R) (T := 48) Tryz.underlying31 hz (w.drew.alloc (.cells R 48)) w.heap.size (i * 6) (n + 1 - i) dc (some a) 1 sc 1 (one_min hi) vs (by rw [hvl]) (fun j v hj => ⟨_, rfl, by
      have := hvs j v hj
      have hbl : (a.add j).block = a.block := by cases a; unfold Addr.add; split <;> rfl
      unfold World.cell? at this ⊢
      rw [hbl] at this ⊢
      rw [heap_alloc_old w.drew _ haw]
      exact this⟩) hheap (fit1 hi hRs hvl) h1v
  have hSs : (insS R i vs).size = R.size := insS_size hi hRs hvl
  have hDl : (insD cur i n).length = (n - i) * 6 := insD_len hcur hi hnc
  have h1D : ∀ v ∈ insD cur i n, v.oneCell' = true := fun v hv => h1c v (List.mem_of_mem_drop (List.mem_of_mem_take hv))
  have hheap2 : (((w.drew.alloc (.cells R 48)).setRow w.heap.size (insS R i vs)).drew).heap[w.heap.size]? = some (.cells (insS R i vs) 48 (0, 0)) := setRow_heap _ _ R _ 48 (0, 0) hheap
  have hcB : ∀ ty dc sc, (Builtin.copy_ #[31, 31] ty #[.slice (some ⟨w.heap.size, (i + 1) * 6, none⟩) (n - i) dc, .slice (some ⟨b, i * 6, none⟩) (n - i) sc]).run Tryz.prog (((w.drew.alloc (.cells R 48)).setRow w.heap.size (insS R i vs)).drew) = .ok (goInt (n - i : Nat)) ((((w.drew.alloc (.cells R 48)).setRow w.heap.size (insS R i vs)).drew).setRow w.heap.size (insT (insS R i vs) i (insD cur i n))) := fun ty dc sc =>
    run_copyK (cur := insS R i vs) (T := 48) Tryz.underlying31 hz ((w.drew.alloc (.cells R 48)).setRow w.heap.size (insS R i vs)).drew w.heap.size ((i + 1) * 6) (n - i) dc (some ⟨b, i * 6, none⟩) (n - i) sc (n - i) same_min (insD cur i n) hDl (fun j v hj => ⟨_, rfl, by
      rw [addr_lit]
      simp only [World.cell?, drew_heap]
      rw [setRow_other _ _ _ _ (Nat.ne_of_lt hbw), heap_alloc_old w.drew _ hbw]
      simp only [drew_heap, hb]
      unfold insD at hj
      rw [List.getElem?_take] at hj
      split at hj
      · rw [List.getElem?_drop] at hj
        simpa using hj
      · cases hj⟩) hheap2 (fit2 hi hRs hSs hDl) h1D
  have hcp1 : ∀ ty dc sc, (Builtin.copy_ #[31, 31] ty #[.slice (some ⟨w.heap.size, i * 6, none⟩) (n + 1 - i) dc, .slice (some a) 1 sc]).run Tryz.prog ((w.alloc (.cells R 48)).drew) = .ok (goInt (1 : Nat)) (((w.alloc (.cells R 48)).drew).setRow w.heap.size (insS R i vs)) := hcA
  have hcp2 : ∀ ty dc sc, (Builtin.copy_ #[31, 31] ty #[.slice (some ⟨w.heap.size, (i + 1) * 6, none⟩) (n - i) dc, .slice (some ⟨b, i * 6, none⟩) (n - i) sc]).run Tryz.prog ((((w.alloc (.cells R 48)).drew).setRow w.heap.size (insS R i vs)).drew) = .ok (goInt (n - i : Nat)) (((((w.alloc (.cells R 48)).drew).setRow w.heap.size (insS R i vs)).drew).setRow w.heap.size (insT (insS R i vs) i (insD cur i n))) := hcB
  clear hcA hcB
  clear hold hik hw5 hRs hSs hDl h1D hheap hheap2 hR hin hzr his hib hzs hz1 hG hic hb hcur ha hvl hvs h1c h1v hbw haw
  go_enter Tryz.func112, Tryz.ntmps112
  go_wp2_with (first
    | (at_builtin; refine Lib.wpList_append_run _ rfl _ _ _ _ rfl _ _ rfl rfl _ _ (hrz _) ?_)
    | (at_builtin; refine wpList_copy_runI _ rfl _ _ 31 31 rfl _ _ rfl rfl (hcp1 _ _ _) ?_))
  go_region_law_o (refine step_copy_runI rfl _ _ 31 31 rfl _ _ (by simp [Act.eval, Act.put]) (by simp [Act.eval, Act.put]) (hcp2 _ _ _) ?_)
  go_wp2
  go_ret
  exact ⟨rfl, rfl⟩
end Go.Kz

/-
  slices.Insert of ranks.
-/
namespace Go.Kz
open Go Go.Proofs Go.RowKit Go.Lib
set_option maxRecDepth 100000
theorem two_fills {α : Type} (L D V X : List α) (p k : Nat) (hV : V.length = k) (h : p + k ≤ L.length) : (L.take (p + k) ++ D ++ X).take p ++ V ++ (L.take (p + k) ++ D ++ X).drop (p + k) = L.take p ++ V ++ D ++ X := by
  have hl : (L.take (p + k)).length = p + k := by rw [List.length_take]; omega
  rw [List.append_assoc (L.take (p + k)), List.take_append_of_le_length (by omega), List.take_take, Nat.min_eq_left (by omega), List.drop_append_of_le_length (by omega), List.drop_of_length_le (by omega), List.nil_append, List.append_assoc, List.append_assoc, List.append_assoc]
theorem two_fills' {α : Type} (L Z D V X : List α) (p k : Nat) (hL : L.length = p) (hV : V.length = k) : ((L ++ Z).take p ++ V ++ X).take (p + k) ++ D = L ++ V ++ D := by
  have h1 : (L ++ Z).take p = L := by rw [← hL, List.take_left]
  have h2 : (L ++ V).length = p + k := by rw [List.length_append]; omega
  rw [h1, ← h2, List.take_left]
theorem ins_rank : InsSpec Tryz.prog 112 48 6 := by
  intro w b n c i vc a cur vs cA TA fz hi hnc hn hc hb hcur hab ha ha0 hvl hvs h1c h1v
  have hbw := heap_lt hb
  have hDl : (insD cur i n).length = (n - i) * 6 := by
    unfold insD
    rw [List.length_take, List.length_drop, Array.length_toList, hcur]
    omega
  have h1D : ∀ v ∈ insD cur i n, v.oneCell' = true := fun v hv => h1c v (List.mem_of_mem_drop (List.mem_of_mem_take hv))
  have e6 : (i + 1) * 6 = i * 6 + 6 := by omega
  have hcl : cur.toList.length = c * 6 := by rw [Array.length_toList, hcur]
  by_cases hroom : n + 1 ≤ c
  · refine Calls.mono (ins_room w b n c i vc a cur 48 vs hi hroom hc hb hcur hab ha ha0 hvl hvs h1c h1v) fun en w' he => ?_
    obtain ⟨rfl, rfl⟩ := he
    have hbd : w.drew.heap[b]? = some (.cells cur 48 (0, 0)) := hb
    have hb1 : (w.drew.setRow b (insA cur i n)).heap[b]? = some (.cells (insA cur i n) 48 (0, 0)) := setRow_heap _ _ cur _ 48 (0, 0) hbd
    have hB : (insB cur i n vs).toList = cur.toList.take (i * 6) ++ vs ++ insD cur i n ++ cur.toList.drop ((i + 1) * 6 + (insD cur i n).length) := by
      unfold insB insA
      simp only [hvl, e6]
      exact two_fills _ _ _ _ _ _ hvl (by omega)
    refine ⟨b, c, insB cur i n vs, rfl, .inl ⟨rfl, rfl⟩, hroom, hc, ⟨rfl, rfl, rfl, by simp⟩, fun j hj hne => ?_, setRow_heap _ _ _ _ 48 (0, 0) hb1, ?_, ?_, _, hB⟩
    · rw [setRow_other _ _ _ _ hne, setRow_other _ _ _ _ hne]
      rfl
    · have := congrArg List.length hB
      rw [Array.length_toList, List.length_append, List.length_append, List.length_append, List.length_take, List.length_drop, hcl, hvl, hDl] at this
      rw [this]
      omega
    · intro v hv
      rw [hB] at hv
      simp only [List.mem_append] at hv
      rcases hv with ((hv | hv) | hv) | hv
      · exact h1c v (List.mem_of_mem_take hv)
      · exact h1v v hv
      · exact h1D v hv
      · exact h1c v (List.mem_of_mem_drop hv)
  · obtain ⟨inf, z, hin, hzr, his, hib, hzs, hz1⟩ := chkInfo_ok (P := Tryz.prog) (e := 48) (k := 6) (by kernel_rfl)
    obtain ⟨G, hG⟩ : ∃ G, G = grownCap w (n + 1) c 48 := ⟨_, rfl⟩
    have hge : n + 1 ≤ G := by rw [hG]; exact grownCap_ge _ _ _ _
    have hle : G ≤ maxLen := by rw [hG]; exact grownCap_le_maxLen _ _ _ _ (by simp only [maxLen]; omega)
    have hGk : Kept (G = grownCap w (n + 1) c 48) := ⟨hG⟩
    clear hG
    refine Calls.mono (ins_grow w b n c i vc a cur 48 vs hi hnc (by omega) hn hb hcur ha hvl hvs h1c h1v hin hzr his hib hzs hz1 G hGk) fun en w' he => ?_
    obtain ⟨rfl, rfl⟩ := he
    obtain ⟨R, hR⟩ : ∃ R, insR z.cells cur i n G = R := ⟨_, rfl⟩
    have hL0 : (cur.toList.take (i * 6)).length = i * 6 := by rw [List.length_take, hcl]; omega
    obtain ⟨Z, hRZ, hZ1⟩ : ∃ Z, R.toList = cur.toList.take (i * 6) ++ Z ∧ ∀ v ∈ Z, v.oneCell' = true := by
      refine ⟨(Builtin.zeroCells z.cells (n + 1 - i)).toList ++ (Builtin.zeroCells z.cells (G - (n + 1))).toList, ?_, fun v hv => ?_⟩
      · rw [← hR]
        unfold insR
        simp only [Array.toList_append, List.append_assoc]
      · rcases List.mem_append.1 hv with hv | hv
        · exact ones_zeroCells hz1 (by omega) _ v hv
        · exact ones_zeroCells hz1 (by omega) _ v hv
    have hRs : R.size = G * 6 := by
      rw [← hR]
      unfold insR
      simp only [Array.size_append, List.size_toArray, hL0, size_zeroCells, hzs]
      omega
    rw [hR]
    have hheap : (w.drew.alloc (.cells R 48)).heap[w.heap.size]? = some (.cells R 48 (0, 0)) := heap_alloc_new w.drew _
    have hheap2 : (((w.drew.alloc (.cells R 48)).setRow w.heap.size (insS R i vs)).drew).heap[w.heap.size]? = some (.cells (insS R i vs) 48 (0, 0)) := setRow_heap _ _ R _ 48 (0, 0) hheap
    have hT : (insT (insS R i vs) i (insD cur i n)).toList = cur.toList.take (i * 6) ++ vs ++ insD cur i n ++ (insS R i vs).toList.drop ((i + 1) * 6 + (insD cur i n).length) := by
      unfold insT
      simp only
      congr 1
      unfold insS
      simp only [hRZ, e6, hvl]
      exact two_fills' _ _ _ _ _ _ _ hL0 hvl
    have hSs : (insS R i vs).size = R.size := by
      unfold insS
      simp only [List.size_toArray, List.length_append, List.length_take, List.length_drop, Array.length_toList, hvl]
      omega
    have h1R : ∀ v ∈ R.toList, v.oneCell' = true := fun v hv => by
      rw [hRZ] at hv
      rcases List.mem_append.1 hv with hv | hv
      · exact h1c v (List.mem_of_mem_take hv)
      · exact hZ1 v hv
    have h1S : ∀ v ∈ (insS R i vs).toList, v.oneCell' = true := by
      unfold insS
      intro v hv
      simp only [List.mem_append] at hv
      rcases hv with (hv | hv) | hv
      · exact h1R v (List.mem_of_mem_take hv)
      · exact h1v v hv
      · exact h1R v (List.mem_of_mem_drop hv)
    refine ⟨w.heap.size, G, insT (insS R i vs) i (insD cur i n), rfl, .inr (Nat.le_refl _), hge, hle, ⟨rfl, rfl, rfl, by simp⟩, fun j hj hne => ?_, setRow_heap _ _ _ _ 48 (0, 0) hheap2, ?_, ?_, _, hT⟩
    · rw [setRow_other _ _ _ _ (by omega)]
      show (World.setRow _ _ _).heap[j]? = _
      rw [setRow_other _ _ _ _ (by omega), heap_alloc_old w.drew _ hj]
      rfl
    · have := congrArg List.length hT
      rw [Array.length_toList, List.length_append, List.length_append, List.length_append, hL0, List.length_drop, hvl, hDl, Array.length_toList, hSs, hRs] at this
      rw [this]
      omega
    · intro v hv
      rw [hT] at hv
      simp only [List.mem_append] at hv
      rcases hv with ((hv | hv) | hv) | hv
      · exact h1c v (List.mem_of_mem_take hv)
      · exact h1v v hv
      · exact h1D v hv
      · exact h1S v (List.mem_of_mem_drop hv)
end Go.Kz

/-
  slices.Delete of the last division.
-/
namespace Go.Kz
open Go Go.Proofs Go.RowKit Go.Lib
set_option maxRecDepth 100000
set_option maxHeartbeats 4000000
theorem del_arith {i c : Nat} (hic : i + 1 ≤ c) (hc : c ≤ 9223372036854775807) :
    ¬ ((i : Int) = (i : Int) + 1) ∧ (i : Int) ≤ (i : Int) + 1 ∧ (i : Int) + 1 ≤ (c : Int) ∧ (0 : Int) ≤ (i : Int) + 1 ∧ ((i : Int) + 1).toNat = i + 1 ∧ (i : Int) ≤ (c : Int) ∧ ¬ (c = i) ∧ i + 1 - i = 1 ∧ i + 1 - (i + 1) = 0 ∧ i ≤ c ∧ i ≤ i + 1 := by
  refine ⟨by omega, by omega, by omega, by omega, by omega, by omega, by omega, by omega, by omega, by omega, by omega⟩
def delA (cur : Array Value) (z : Value) (i : Nat) : Array Value := (cur.toList.take (i * 5) ++ (Builtin.zeroCells z.cells 1).toList ++ cur.toList.drop (i * 5 + (Builtin.zeroCells z.cells 1).toList.length)).toArray
theorem run_append_none {P : Program} {t e ty : TypeId} {k : Nat} (hu : P.underlying t = some (.slice e)) (hsz : ∀ w, (Go.sizeOf e).run P w = .ok k w) (w : World) (a : Addr) (n c : Nat) (X : Option Addr) (cx : Nat) (hnc : n ≤ c) :
    (Builtin.append_ #[t, t] ty #[.slice (some a) n c, .slice X 0 cx]).run P w = .ok (.slice (some a) n c) w := by
  have hfy : (Builtin.firstCells k 0 (.slice X 0 cx)).run P w = .ok #[] w := by
    cases X <;> simp [Builtin.firstCells, loadCells, loadCellsFrom]
  simp [Builtin.append_, run_underlying hu, hsz, Builtin.lenOf, hfy, storeCells, hnc]
theorem run_clear_one {P : Program} {t e ty : TypeId} (hu : P.underlying t = some (.slice e)) {z : Value} (hzr : ∀ w, (zeroValue e).run P w = .ok z w) (w : World) (b off cx : Nat) {cur : Array Value} {T : TypeId} (hb : w.heap[b]? = some (.cells cur T (0, 0)))
    (hle : off + (Builtin.zeroCells z.cells 1).toList.length ≤ cur.size) (h1 : ∀ v ∈ (Builtin.zeroCells z.cells 1).toList, v.oneCell' = true) :
    (Builtin.clear_ #[t] ty #[.slice (some ⟨b, off, none⟩) 1 cx]).run P w = .ok (.tuple #[]) (w.setRow b (cur.toList.take off ++ (Builtin.zeroCells z.cells 1).toList ++ cur.toList.drop (off + (Builtin.zeroCells z.cells 1).toList.length)).toArray) := by
  have hst := run_storeCells_at (P := P) b off T (Builtin.zeroCells z.cells 1).toList 0 cur w hb (by omega) h1
  simp only [Nat.add_zero] at hst
  simp [Builtin.clear_, run_underlying hu, hzr, hst]
theorem del_last (w : World) (b i c : Nat) (cur : Array Value) (T : TypeId) (hic : i + 1 ≤ c) (hc : c ≤ 9223372036854775807) (hb : w.heap[b]? = some (.cells cur T (0, 0))) (hcur : cur.size = c * 5)
    {z : Value} (hzr : ∀ w, (zeroValue 53).run Tryz.prog w = .ok z w) (hle : i * 5 + (Builtin.zeroCells z.cells 1).toList.length ≤ cur.size) (h1 : ∀ v ∈ (Builtin.zeroCells z.cells 1).toList, v.oneCell' = true) :
    Calls Tryz.prog 115 #[.slice (some ⟨b, 0, none⟩) (i + 1) c, .int .i64 i, .int .i64 ((i : Int) + 1)] w fun e w' =>
      e = .returned (.slice (some ⟨b, 0, none⟩) i c) ∧ w' = w.drew.setRow b (delA cur z i) := by
  have mixed : Tryz.prog.follows .mixedOrders = true := by kernel_rfl
  have u3 := run_underlying (P := Tryz.prog) Tryz.underlying3
  have u4 := run_underlying (P := Tryz.prog) Tryz.underlying4
  have ut := run_underlying (P := Tryz.prog) Tryz.underlying32
  have hz : ∀ w, (Go.sizeOf 53).run Tryz.prog w = .ok 5 w := fun w => by kernel_rfl
  obtain ⟨a1, a2, a3, a4, a5, a6, a7, a8, a9, a10, a11⟩ := del_arith hic hc
  have hap : ∀ ty X cx, (Builtin.append_ #[32, 32] ty #[.slice (some ⟨b, 0, none⟩) i c, .slice X 0 cx]).run Tryz.prog w.drew = .ok (.slice (some ⟨b, 0, none⟩) i c) w.drew := fun ty X cx =>
    run_append_none Tryz.underlying32 hz w.drew _ i c X cx a10
  have hcl : ∀ ty cx, (Builtin.clear_ #[32] ty #[.slice (some ⟨b, i * 5, none⟩) 1 cx]).run Tryz.prog w.drew = .ok (.tuple #[]) (w.drew.setRow b (delA cur z i)) := fun ty cx =>
    run_clear_one Tryz.underlying32 hzr w.drew b (i * 5) cx hb hle h1
  clear hb hcur hle h1 hzr
  by_cases hq : c = i + 1
  · subst hq
    go_enter Tryz.func115, Tryz.ntmps115
    go_wp2_with fail
    go_region_o
    go_wp2_with fail
    go_ret
    exact ⟨rfl, rfl⟩
  · go_enter Tryz.func115, Tryz.ntmps115
    go_wp2_with fail
    go_region_o
    go_wp2_with fail
    go_ret
    exact ⟨rfl, rfl⟩
def gDelLast (e k : Nat) : Nat → List PD → List SObj → Option (PD × List SObj) := fun fl args σ => match args with
  | [.rref id ver 0 n sz, .int .i64 i, .int .i64 j] => match σ[id]? with
    | some (.row e' size ver' cs) => if fl ≤ id ∧ ver' = ver ∧ size = k ∧ sz = k ∧ e' = e ∧ cs.length = n * k ∧ 0 ≤ i ∧ i + 1 = n ∧ j = n ∧ 0 < k then
        some (.rref id (ver + 1) 0 i.toNat k, σ.set id (.row e k (ver + 1) (cs.take (i.toNat * k)))) else none
    | _ => none
  | _ => none
theorem addDel {E : PExt} (hE : ExtOk Tryz.prog E) : ExtOk Tryz.prog (E.add 115 (gDelLast 53 5)) := by
  refine hE.addRaw ⟨_, Tryz.func115, rfl⟩ fun fl args c vs p σ' hg hs _ hv => ?_
  unfold gDelLast at hg
  split at hg
  rotate_left
  · cases hg
  rename_i id ver n sz i j
  split at hg
  rotate_left
  · cases hg
  rename_i e' size ver' cs hq
  split at hg
  rotate_left
  · cases hg
  rename_i hc
  obtain ⟨hfl, rfl, rfl, rfl, rfl, hlen, hi0, hin, rfl, hk⟩ := hc
  simp only [Option.some.injEq, Prod.mk.injEq] at hg
  obtain ⟨rfl, rfl⟩ := hg
  obtain ⟨v1, v2, v3, rfl, h1, h2, h3⟩ := vrs_three hv
  obtain ⟨b, cap, rfl, hp, q1, q2⟩ := h1.inv_rref
  obtain ⟨_, C, hr, hCo⟩ := (hp.2 _ _ _ cs hq).2 rfl
  obtain ⟨b', C', cur, e1, e2, e3, e4, e5, e6, e7, e8⟩ := hs.row id _ _ _ cs hp.1 hq
  rw [hr] at e1
  simp only [Value.slice.injEq, Option.some.injEq, Addr.mk.injEq, and_true, true_and] at e1
  obtain ⟨rfl, rfl⟩ := e1
  have hcapC : cap = C := by omega
  subst hcapC
  obtain rfl := h2.int_eq
  obtain rfl := h3.int_eq
  obtain ⟨j, rfl⟩ := Int.eq_ofNat_of_zero_le hi0
  obtain rfl : n = j + 1 := by omega
  obtain ⟨inf, z, hin', hzr, his, hib, hzs, hz1⟩ := chkInfo_ok (P := Tryz.prog) (e := 53) (k := 5) (by kernel_rfl)
  have hzv : ∀ w, (zeroValue 53).run Tryz.prog w = .ok z w := fun w => by simp [zeroValue, typeInfo, hin', hzr]
  have hzl : (Builtin.zeroCells z.cells 1).toList.length = 5 := by rw [Array.length_toList, size_zeroCells, hzs]
  have hzo : ∀ v ∈ (Builtin.zeroCells z.cells 1).toList, v.oneCell' = true := ones_zeroCells hz1 (by omega) 1
  have hj : ((j : Int) + 1) = ((j + 1 : Nat) : Int) := by omega
  have run := del_last c.w b j cap cur 53 q1 q2 e2 e3 hzv (by rw [hzl, e3]; omega) hzo
  rw [hj] at run
  refine Calls.mono run fun en w' he => ?_
  obtain ⟨rfl, rfl⟩ := he
  have hA : (delA cur z j).toList = cur.toList.take (j * 5) ++ ((Builtin.zeroCells z.cells 1).toList ++ cur.toList.drop (j * 5 + (Builtin.zeroCells z.cells 1).toList.length)) := by
    unfold delA
    simp only [List.append_assoc]
  have hAs : (delA cur z j).size = cap * 5 := by
    have := congrArg List.length hA
    rw [Array.length_toList, List.length_append, List.length_append, List.length_take, List.length_drop, hzl, Array.length_toList, e3] at this
    omega
  have hT : (cur.toList.take (j * 5)).length = j * 5 := by rw [List.length_take, Array.length_toList, e3]; omega
  have hcl : (cs.take (j * 5)).length = j * 5 := by rw [List.length_take]; omega
  have p1 : VRs c (cur.toList.take (j * 5)) (cs.take (j * 5)) := by
    have := e7.take_drop 0 (j * 5)
    rw [List.drop_zero, List.drop_zero, List.take_take, Nat.min_eq_left (by omega)] at this
    exact this
  have hk1 : ∀ m, m < c.w.heap.size → blk (c.ρ id) ≠ some m → (c.w.drew.setRow b (delA cur z j)).heap[m]? = c.w.heap[m]? := fun m _ h => by
    rw [setRow_other _ _ _ _ (fun e => h (by rw [hr, e]; rfl))]
    rfl
  have hall : ∃ b0 C0 cur0, c.ρ id = .slice (some ⟨b0, 0, none⟩) 0 C0 ∧ (c.w.drew.setRow b (delA cur z j)).heap[b0]? = some (.cells cur0 53 (0, 0)) ∧ cur0.size = C0 * 5 ∧ C0 ≤ maxLen ∧ 0 < 5 ∧
      (cs.take (j * 5)).length ≤ cur0.size ∧ VRs c (cur0.toList.take (cs.take (j * 5)).length) (cs.take (j * 5)) ∧ ∀ v ∈ cur0.toList, v.oneCell' = true := by
    refine ⟨b, cap, delA cur z j, hr, setRow_heap _ _ cur _ 53 (0, 0) e2, hAs, e4, by omega, by rw [hcl, hAs]; omega, ?_, ?_⟩
    · rw [hcl, hA, List.take_append_of_le_length (by rw [hT]; exact Nat.le_refl _), List.take_take, Nat.min_self]
      exact p1
    · intro v hv
      rw [hA] at hv
      simp only [List.mem_append] at hv
      rcases hv with hv | hv | hv
      · exact e8 v (List.mem_of_mem_take hv)
      · exact hzo v hv
      · exact e8 v (List.mem_of_mem_drop hv)
  refine ⟨c.put _ id (c.ρ id) (.row 53 5 (ver' + 1) (cs.take (j * 5))), rfl, rfl, Sr.putRow hs hp.1 hq (Nat.le_succ _) (fun _ => rfl) ⟨rfl, rfl, rfl, by simp⟩ hk1 (.inl rfl) hall,
    Nx.putRow hs hp.1 hq hfl (Nat.le_succ _) (fun _ => rfl) ⟨rfl, rfl, rfl, by simp⟩ hk1 (.inl rfl), ?_, fun i hi => .inl hi⟩
  refine .rref _ _ _ _ _ _ _ ⟨hp.1, fun e0 sz1 v1 cs1 hq1 => ?_⟩ (Nat.le_of_succ_le q1) q2
  rw [put_σ (hs.dom id hp.1)] at hq1
  simp only [Option.some.injEq, SObj.row.injEq] at hq1
  obtain ⟨rfl, rfl, rfl, rfl⟩ := hq1
  exact ⟨Nat.le_refl _, fun _ => ⟨rfl, cap, by rw [put_ρ]; exact hr, by simp⟩⟩
end Go.Kz

/-
  Chapter 51: slices.Insert of ranks and slices.Clone in the table.
-/
namespace Go.Kz
open Go Go.Proofs
set_option maxRecDepth 100000
noncomputable def In0 : PExt := ClE.add 112 (gIns 48 6)
theorem In0_ok : ExtOk Tryz.prog In0 := ClE_ok.addIns ⟨_, Tryz.func112, rfl⟩ ins_rank
noncomputable def InE : PExt := In0.add 115 (gDelLast 53 5)
theorem InE_ok : ExtOk Tryz.prog InE := addDel In0_ok
end Go.Kz

/-
  Chapter 51: the closed calls of Apply that known makes.
-/
namespace Go.Kz
open Go Go.Proofs
set_option maxRecDepth 100000
noncomputable def puA : List (List PD × PD) :=
  [([(.agg [(.str [111]), (.slice 6 [(.agg [(.str [114]), (.str [116]), (.int .i64 8), (.int .i64 1), (.int .i64 36), (.slice 1 [(.int .i64 1), (.int .i64 1), (.int .i64 1)] .any)])] .any), (.slice 5 [(.agg [(.str [100]), (.bool .false), (.int .i64 36), (.int .i64 40), (.slice 4 [(.agg [(.str [115]), (.int .i64 8), (.int .i64 1), (.slice 3 [(.agg [(.int .i64 36), (.int .i64 40), (.slice 2 [(.agg [(.int .i64 0), (.int .i64 0)])] .any)])] .any)])] .any)])] .any), (.slice 0 [] .any)]), (.agg [(.int .i64 1), (.int .i64 0), (.int .i64 0), (.str []), (.str [113]), (.str [116]), (.int .i64 8), (.int .i64 1), (.int .i64 36), (.slice 1 [(.int .i64 1), (.int .i64 1), (.int .i64 1)] .any), (.str []), (.bool .false), (.int .i64 0), (.int .i64 0), (.slice 0 [] .any), (.str []), (.int .i64 0), (.int .i64 0), (.slice 0 [] .any), (.str []), (.int .i64 0), (.int .i64 0), (.int .i64 0), (.bool .false)])], (.tup [(.agg [(.str [111]), (.slice 6 [(.agg [(.str [113]), (.str [116]), (.int .i64 8), (.int .i64 1), (.int .i64 36), (.slice 1 [(.int .i64 1), (.int .i64 1), (.int .i64 1)] .any)]), (.agg [(.str [114]), (.str [116]), (.int .i64 8), (.int .i64 1), (.int .i64 36), (.slice 1 [(.int .i64 1), (.int .i64 1), (.int .i64 1)] .any)])] .any), (.slice 5 [(.agg [(.str [100]), (.bool .false), (.int .i64 36), (.int .i64 40), (.slice 4 [(.agg [(.str [115]), (.int .i64 8), (.int .i64 1), (.slice 3 [(.agg [(.int .i64 36), (.int .i64 40), (.slice 2 [(.agg [(.int .i64 1), (.int .i64 0)])] .any)])] .any)])] .any)])] .any), (.slice 0 [] .any)]), (.int .i64 0)])),
   ([(.agg [(.str [111]), (.slice 6 [(.agg [(.str [114]), (.str [116]), (.int .i64 8), (.int .i64 1), (.int .i64 36), (.slice 1 [(.int .i64 1), (.int .i64 1), (.int .i64 1)] .any)])] .any), (.slice 5 [(.agg [(.str [100]), (.bool .false), (.int .i64 36), (.int .i64 40), (.slice 4 [(.agg [(.str [115]), (.int .i64 8), (.int .i64 1), (.slice 3 [(.agg [(.int .i64 36), (.int .i64 40), (.slice 2 [(.agg [(.int .i64 0), (.int .i64 0)])] .any)])] .any)])] .any)])] .any), (.slice 0 [] .any)]), (.agg [(.int .i64 2), (.int .i64 0), (.int .i64 0), (.str []), (.str []), (.str []), (.int .i64 0), (.int .i64 0), (.int .i64 0), (.slice 0 [] .any), (.str []), (.bool .false), (.int .i64 0), (.int .i64 0), (.slice 0 [] .any), (.str []), (.int .i64 0), (.int .i64 0), (.slice 0 [] .any), (.str []), (.int .i64 0), (.int .i64 0), (.int .i64 0), (.bool .false)])], (.tup [(.agg [(.str []), (.slice 0 [] .any), (.slice 0 [] .any), (.slice 0 [] .any)]), (.int .i64 14)])),
   ([(.agg [(.str [111]), (.slice 6 [(.agg [(.str [114]), (.str [116]), (.int .i64 8), (.int .i64 1), (.int .i64 36), (.slice 1 [(.int .i64 1), (.int .i64 1), (.int .i64 1)] .any)])] .any), (.slice 5 [(.agg [(.str [100]), (.bool .false), (.int .i64 36), (.int .i64 40), (.slice 4 [(.agg [(.str [115]), (.int .i64 8), (.int .i64 1), (.slice 3 [(.agg [(.int .i64 36), (.int .i64 40), (.slice 2 [(.agg [(.int .i64 0), (.int .i64 0)])] .any)])] .any)])] .any)])] .any), (.slice 0 [] .any)]), (.agg [(.int .i64 5), (.int .i64 0), (.int .i64 0), (.str []), (.str []), (.str []), (.int .i64 0), (.int .i64 0), (.int .i64 0), (.slice 0 [] .any), (.str []), (.bool .false), (.int .i64 0), (.int .i64 0), (.slice 0 [] .any), (.str []), (.int .i64 0), (.int .i64 0), (.slice 0 [] .any), (.str []), (.int .i64 0), (.int .i64 0), (.int .i64 0), (.bool .false)])], (.tup [(.agg [(.str []), (.slice 0 [] .any), (.slice 0 [] .any), (.slice 0 [] .any)]), (.int .i64 13)]))]
theorem puA_all : (puA.all (pureRun Tryz.prog InE 1000 23)) = true := by kernel_rfl
noncomputable def ApE : PExt := InE.add 23 (fun _ args σ => match gPures puA args with | some p => some (p, σ) | none => none)
theorem ApE_ok : ExtOk Tryz.prog ApE := InE_ok.addPures fol puA puA_all
end Go.Kz

/-
  Chapter 51: known runs (seat of the other seven laws).
-/
namespace Go.Kz
open Go Go.Proofs
set_option maxRecDepth 100000
set_option maxHeartbeats 4000000
section
variable {E : PExt} (hU : Uni E)
include hU

theorem r_what_7 (h0 : E 56 = none) (d i : Int) (nm rn rt fn sn cn : List UInt8) (ra rb rf fl fh sa sb ca cb cs : Int) (fp ct : Bool) (wk sk gk : Nat) (W S G : List PD) : Run Tryz.prog E 56 [(.agg [.int .i64 7, .int .i64 d, .int .i64 i, .str nm, .str rn, .str rt, .int .i64 ra, .int .i64 rb, .int .i64 rf, .slice wk W .any, .str fn, .bool fp, .int .i64 fl, .int .i64 fh, .slice sk S .any, .str sn, .int .i64 sa, .int .i64 sb, .slice gk G .any, .str cn, .int .i64 ca, .int .i64 cb, .int .i64 cs, .bool ct])] (.tup [.int .i64 2, .int .i64 0]) := by
  apply Run.bodyL h0 Tryz.func56 rfl
  focus (simp [show Tryz.f56.ntmps = _ from rfl, List.replicate]; rfl)
  have gx := True.intro
  refine goA ?_
  clear gx
  exact ⟨_, _, rfl, rfl⟩

theorem r_Text_7 (d i : Int) (nm rn rt fn sn cn : List UInt8) (ra rb rf fl fh sa sb ca cb cs : Int) (fp ct : Bool) (wk sk gk : Nat) (W S G : List PD) (h0 : E 29 = none) {gW : Nat → List PD → List SObj → Option (PD × List SObj)} (hW : E 56 = some gW) (hW1 : ∀ fl0 σ, gW fl0 [(.agg [.int .i64 7, .int .i64 d, .int .i64 i, .str nm, .str rn, .str rt, .int .i64 ra, .int .i64 rb, .int .i64 rf, .slice wk W .any, .str fn, .bool fp, .int .i64 fl, .int .i64 fh, .slice sk S .any, .str sn, .int .i64 sa, .int .i64 sb, .slice gk G .any, .str cn, .int .i64 ca, .int .i64 cb, .int .i64 cs, .bool ct])] σ = some (.tup [.int .i64 2, .int .i64 0], σ)) (hI : E 65 = some gItoa) (hJ : E 66 = some gJoin) (hli : (Lib.itoa i).length ≤ 100) (hld : (Lib.itoa d).length ≤ 100) (hi : -9223372036854775808 ≤ i ∧ i ≤ 9223372036854775807) (hd : -9223372036854775808 ≤ d ∧ d ≤ 9223372036854775807) (hl : (Lib.join [[97, 100, 100], [115, 116, 111, 112], Lib.itoa d, Lib.itoa i, sn] [32]).length ≤ 100000) : Run Tryz.prog E 29 [(.agg [.int .i64 7, .int .i64 d, .int .i64 i, .str nm, .str rn, .str rt, .int .i64 ra, .int .i64 rb, .int .i64 rf, .slice wk W .any, .str fn, .bool fp, .int .i64 fl, .int .i64 fh, .slice sk S .any, .str sn, .int .i64 sa, .int .i64 sb, .slice gk G .any, .str cn, .int .i64 ca, .int .i64 cb, .int .i64 cs, .bool ct])] (.tup [.str (Lib.join [[97, 100, 100], [115, 116, 111, 112], Lib.itoa d, Lib.itoa i, sn] [32]), .int .i64 0]) := by
  have f1 := gItoa_of i hi
  have f2 := gItoa_of d hd
  have hj : okJ [[97, 100, 100], [115, 116, 111, 112], Lib.itoa d, Lib.itoa i, sn] [32] := ⟨by simp, by simp, by omega⟩
  have f3 : ∀ t fl σ, gJoin fl [.slice Tryz.prog.types[9].size [.str ([97, 100, 100]), .str ([115, 116, 111, 112]), .str (Lib.itoa d), .str (Lib.itoa i), .str (sn)] t, .str [32]] σ = some (.str (Lib.join [[97, 100, 100], [115, 116, 111, 112], Lib.itoa d, Lib.itoa i, sn] [32]), σ) := fun t fl σ => gJoinOf (by kernel_rfl) rfl hj t fl σ
  have f4 : ∀ t fl σ, gJoin fl [.slice 1 [.str ([97, 100, 100]), .str ([115, 116, 111, 112]), .str (Lib.itoa d), .str (Lib.itoa i), .str (sn)] t, .str [32]] σ = some (.str (Lib.join [[97, 100, 100], [115, 116, 111, 112], Lib.itoa d, Lib.itoa i, sn] [32]), σ) := fun t fl σ => gJoinOf rfl rfl hj t fl σ
  apply Run.bodyL h0 Tryz.func29 rfl
  focus (simp [show Tryz.f29.ntmps = _ from rfl, List.replicate]; rfl)
  have gx := And.intro @hW (And.intro @hW1 (And.intro @hI (And.intro @hJ (And.intro @f1 (And.intro @f2 (And.intro @f3 (@f4)))))))
  refine goA ?_
  clear gx
  exact ⟨_, _, rfl, rfl⟩

end
noncomputable def Sx0 : PExt := fun _ => none
theorem Sx0_ok {P : Program} : ExtOk P Sx0 := fun _ hg => by cases hg
theorem Sx0_uni : Uni Sx0 := Uni.none
noncomputable def Sx1 : PExt := Sx0.add 65 gItoa
theorem Sx1_ok : ExtOk Tryz.prog Sx1 := lib_Itoa Sx0_ok
theorem Sx1_uni : Uni Sx1 := Sx0_uni.entry
noncomputable def Sx2 : PExt := Sx1.add 66 gJoin
theorem Sx2_ok : ExtOk Tryz.prog Sx2 := lib_Join Sx1_ok
theorem Sx2_uni : Uni Sx2 := Sx1_uni.entry
noncomputable def Sx3 : PExt := Sx2.add 56 (entry (gEv Tryz.prog Sx2 56))
theorem Sx3_ok : ExtOk Tryz.prog Sx3 := Sx2_ok.addEv fol _
theorem Sx3_uni : Uni Sx3 := Sx2_uni.entry
def flute : PD := .agg [.int .i64 7, .int .i64 1, .int .i64 0, .str [], .str [], .str [], .int .i64 0, .int .i64 0, .int .i64 0, .slice 0 [] .any, .str [], .bool false, .int .i64 0, .int .i64 0, .slice 0 [] .any, .str [70, 108, 117, 116, 101], .int .i64 0, .int .i64 0, .slice 0 [] .any, .str [], .int .i64 0, .int .i64 0, .int .i64 0, .bool false]
def fluteT : List UInt8 := [97, 100, 100, 32, 115, 116, 111, 112, 32, 49, 32, 48, 32, 70, 108, 117, 116, 101]
theorem itoa_0 : Lib.itoa 0 = [48] := by decide +kernel
theorem itoa_1 : Lib.itoa 1 = [49] := by decide +kernel
theorem flute_join : Lib.join [[97, 100, 100], [115, 116, 111, 112], Lib.itoa 1, Lib.itoa 0, [70, 108, 117, 116, 101]] [32] = fluteT := by
  rw [itoa_0, itoa_1]
  rfl
theorem flute_run : Run Tryz.prog Sx3 29 [flute] (.tup [.str fluteT, .int .i64 0]) := by
  have h := r_Text_7 Sx3_uni 1 0 [] [] [] [] [70, 108, 117, 116, 101] [] 0 0 0 0 0 0 0 0 0 0 false false 0 0 0 [] [] [] rfl rfl
    (fun fl0 σ => entry_gEv (r_what_7 Sx2_uni rfl 1 0 [] [] [] [] [70, 108, 117, 116, 101] [] 0 0 0 0 0 0 0 0 0 0 false false 0 0 0 [] [] []) rfl rfl fl0 σ) rfl rfl (by rw [itoa_0]; decide) (by rw [itoa_1]; decide) (by decide) (by decide) (by rw [flute_join]; decide)
  rw [flute_join] at h
  exact h
def puT : List (List PD × PD) := [([flute], .tup [.str fluteT, .int .i64 0])]
noncomputable def KnE : PExt := ApE.add 29 (fun _ args σ => match gPures puT args with | some p => some (p, σ) | none => none)
theorem KnE_ok : ExtOk Tryz.prog KnE := ExtOk.pick (Sx3_ok.addRunList fol puT (fun r hr => by
  obtain rfl := List.mem_singleton.1 hr
  exact ⟨flute_run, rfl, rfl⟩)) ApE_ok (if_pos rfl)
theorem known_ok : ExtOk Tryz.prog (KnE.add 10 (entry (gf0 Em.bool (some true)))) := KnE_ok.addOnceF (f := 10) (N := 1000) fol (by kernel_rfl)
end Go.Kz
