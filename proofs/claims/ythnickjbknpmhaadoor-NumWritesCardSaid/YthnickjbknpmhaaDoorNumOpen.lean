/-
  Opening the arguments of the laws: slices of ints, arrays of these.
-/
import Derived.Test.YthnickjbknpmhaaDoorNumLift
import Derived.Lib.SmallJoins
import Derived.OpenShut
namespace Go.Proofs.YthnickjbknpmhaaDoor
open Go.ChangeShapes Go.WideShapes Go.ChangeAt Go.RowKit Go.Joins Go.Deep

section
variable {H : Type} {enc : TypeId × Value → H} {P : Program} {w : World}

theorem lt_of_cell {p : Addr} {v : Value} (h : w.cell? p = some v) : p.block < w.heap.size := by
  rcases Nat.lt_or_ge p.block w.heap.size with h0 | h0
  · exact h0
  · have : w.heap[p.block]? = none := Array.getElem?_eq_none h0
    simp [World.cell?, this] at h

theorem reads_of_trod {t e : TypeId} {k : IntKind} {fuel : Nat} {v : Value} {y : DataW H × List MemPlace} (ht : P.underlying t = some (.slice e)) (he : P.underlying e = some (.int k)) (hc : P.cellsOf e = 1)
    (h : DataW.trod enc P w 0 (fun _ => true) true fuel t [v] = some y) :
    ∃ (A : Option Addr) (n c : Nat) (zs : List Int), v = .slice A n c ∧ n ≤ c ∧ c ≤ maxLen ∧ Reads w w.heap.size 1 A n (zs.map (Value.int k)) ∧ ∀ z ∈ zs, (Lit.int k z).wf = true := by
  rcases open_ints ht he hc h with ⟨hcs, _⟩ | ⟨a, len, cap, zs, hcs, _, hl, hm, hlen, _, hcell, hwf⟩
  · simp only [List.cons.injEq, and_true] at hcs
    exact ⟨none, 0, 0, [], hcs, Nat.le_refl _, by decide, Reads.none_, by simp⟩
  · simp only [List.cons.injEq, and_true] at hcs
    simp only [if_true] at hlen
    refine ⟨some a, len, cap, zs.take len, hcs, hl, hm, ⟨by simp; omega, fun h0 => ?_⟩, fun z hz => hwf z (List.mem_of_mem_take hz)⟩
    have h00 := hcell 0 (by omega)
    have hb := lt_of_cell h00
    rw [block_of_add] at hb
    refine ⟨a, rfl, hb, fun j u hu => ?_⟩
    rw [List.map_take, List.getElem?_take] at hu
    split at hu
    · rename_i hj
      have hz : j < zs.length := by omega
      rw [hcell j hz]
      rw [List.getElem?_map, List.getElem?_eq_getElem hz] at hu
      rw [← hu, List.getD_eq_getElem?_getD, List.getElem?_eq_getElem hz]
      rfl
    · cases hu
theorem okWide_array {r : Reach} {b0 n : Nat} {t e : TypeId} {v : Value} (ht : P.underlying t = some (.array n e)) (h : Value.okWide P w r b0 t v) : ∃ cs, v = .agg cs ∧ cs.size = P.cellsOf t := by
  simp only [Value.okWide, ht] at h
  obtain ⟨cs, h1, h2, _⟩ := h
  exact ⟨cs, h1, h2⟩
end

theorem cells_l3 : Tryd.prog.cellsOf 43 = 3 := by kernel_rfl
theorem cells_l2 : Tryd.prog.cellsOf 47 = 2 := by kernel_rfl
theorem cells_li : Tryd.prog.cellsOf 22 = 1 := by kernel_rfl
theorem cells_i : Tryd.prog.cellsOf 3 = 1 := by kernel_rfl
section
variable {H : Type} {enc : TypeId × Value → H} {w : World} {base : Nat} {v : Value} {d : DataW H} {p : List MemPlace}
theorem open_list {m : Nat} {y : Option (DataW H × List MemPlace)} {u : Value} (h : DataW.trod enc Tryd.prog w 0 (fun _ => true) true m 22 [u] = y) (hy : y.isSome = true) :
    ∃ (A : Option Addr) (n c : Nat) (zs : List Int), u = .slice A n c ∧ n ≤ 9223372036854775807 ∧ Reads w w.heap.size 1 A n (zs.map (Value.int .i64)) := by
  obtain ⟨y', rfl⟩ := Option.isSome_iff_exists.1 hy
  obtain ⟨A, n, c, zs, e, hl, hm, hr, _⟩ := reads_of_trod Tryd.underlying22 Tryd.underlying3 cells_i h
  exact ⟨A, n, c, zs, e, Nat.le_trans hl hm, hr⟩
set_option maxRecDepth 100000 in
theorem open_lists3 (hv : Value.okWide Tryd.prog w .any base 43 v) (h : DataW.Trod enc Tryd.prog w 0 (fun _ => true) true 43 v d p) :
    ∃ (A1 A2 A3 : Option Addr) (k1 k2 k3 d1 d2 d3 : Nat) (z1 z2 z3 : List Int), v = .agg #[.slice A1 k1 d1, .slice A2 k2 d2, .slice A3 k3 d3] ∧ k1 ≤ 9223372036854775807 ∧ k2 ≤ 9223372036854775807 ∧ k3 ≤ 9223372036854775807 ∧
      Reads w w.heap.size 1 A1 k1 (z1.map (Value.int .i64)) ∧ Reads w w.heap.size 1 A2 k2 (z2.map (Value.int .i64)) ∧ Reads w w.heap.size 1 A3 k3 (z3.map (Value.int .i64)) := by
  obtain ⟨cs, rfl, hsz⟩ := okWide_array Tryd.underlying43 hv
  obtain ⟨c0, c1, c2, rfl⟩ := array3 (hsz.trans cells_l3)
  obtain ⟨fuel, hf⟩ := h
  obtain ⟨xs, m, rfl, _, _, hn, hel⟩ := DataW.trod_array Tryd.underlying43 hf
  have h0 := hel 0 (by omega)
  have h1 := hel 1 (by omega)
  have h2 := hel 2 (by omega)
  rw [cells_li] at h0 h1 h2
  obtain ⟨A1, k1, d1, z1, rfl, m1, r1⟩ := open_list (u := c0) (by simpa [Value.cells] using h0) (by simp [hn])
  obtain ⟨A2, k2, d2, z2, rfl, m2, r2⟩ := open_list (u := c1) (by simpa [Value.cells] using h1) (by simp [hn])
  obtain ⟨A3, k3, d3, z3, rfl, m3, r3⟩ := open_list (u := c2) (by simpa [Value.cells] using h2) (by simp [hn])
  exact ⟨A1, A2, A3, k1, k2, k3, d1, d2, d3, z1, z2, z3, rfl, m1, m2, m3, r1, r2, r3⟩
set_option maxRecDepth 100000 in
theorem open_lists2 (hv : Value.okWide Tryd.prog w .any base 47 v) (h : DataW.Trod enc Tryd.prog w 0 (fun _ => true) true 47 v d p) :
    ∃ (A1 A2 : Option Addr) (k1 k2 d1 d2 : Nat) (z1 z2 : List Int), v = .agg #[.slice A1 k1 d1, .slice A2 k2 d2] ∧ k1 ≤ 9223372036854775807 ∧ k2 ≤ 9223372036854775807 ∧
      Reads w w.heap.size 1 A1 k1 (z1.map (Value.int .i64)) ∧ Reads w w.heap.size 1 A2 k2 (z2.map (Value.int .i64)) := by
  obtain ⟨cs, rfl, hsz⟩ := okWide_array Tryd.underlying47 hv
  obtain ⟨c0, c1, rfl⟩ := array2 (hsz.trans cells_l2)
  obtain ⟨fuel, hf⟩ := h
  obtain ⟨xs, m, rfl, _, _, hn, hel⟩ := DataW.trod_array Tryd.underlying47 hf
  have h0 := hel 0 (by omega)
  have h1 := hel 1 (by omega)
  rw [cells_li] at h0 h1
  obtain ⟨A1, k1, d1, z1, rfl, m1, r1⟩ := open_list (u := c0) (by simpa [Value.cells] using h0) (by simp [hn])
  obtain ⟨A2, k2, d2, z2, rfl, m2, r2⟩ := open_list (u := c1) (by simpa [Value.cells] using h1) (by simp [hn])
  exact ⟨A1, A2, k1, k2, d1, d2, z1, z2, rfl, m1, m2, r1, r2⟩
end
end Go.Proofs.YthnickjbknpmhaaDoor
