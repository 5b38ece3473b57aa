/-
  Opening the arguments of the heat laws: a slice of ints reads as a list; a case; a struct of five ints.
-/
import Derived.Test.YtdiidinbgnjjmaaLift
import Derived.Test.YtdiidinbgnjjmaaBase
import Derived.Lib.SmallJoins
import Derived.OpenShut
namespace Go.Proofs.Ytdiidinbgnjjmaa
open Go.ChangeShapes Go.WideShapes Go.ChangeAt Go.RowKit Go.Joins Go.Deep

section
variable {H : Type} {enc : TypeId × Value → H} {P : Program} {w : World}

theorem lt_of_cell {p : Addr} {v : Value} (h : w.cell? p = some v) : p.block < w.heap.size := by
  rcases Nat.lt_or_ge p.block w.heap.size with h0 | h0
  · exact h0
  · have : w.heap[p.block]? = none := Array.getElem?_eq_none h0
    simp [World.cell?, this] at h

theorem reads_of_trod {t e : TypeId} {k : IntKind} {fuel : Nat} {v : Value} {y : DataW H × List MemPlace} (ht : P.underlying t = some (.slice e)) (he : P.underlying e = some (.int k)) (hc : P.cellsOf e = 1)
    (h : DataW.trod enc P w 0 (fun _ => true) true fuel t [v] = some y) :
    ∃ (A : Option Addr) (n c : Nat) (zs : List Int), v = .slice A n c ∧ n ≤ c ∧ c ≤ maxLen ∧ Reads w w.heap.size 1 A n (zs.map (Value.int k)) ∧ ∀ z ∈ zs, (Lit.int k z).wf = true := by
  rcases open_ints ht he hc h with ⟨hcs, _⟩ | ⟨a, len, cap, zs, hcs, _, hl, hm, hlen, _, hcell, hwf⟩
  · simp only [List.cons.injEq, and_true] at hcs
    exact ⟨none, 0, 0, [], hcs, Nat.le_refl _, by decide, Reads.none_, by simp⟩
  · simp only [List.cons.injEq, and_true] at hcs
    simp only [if_true] at hlen
    refine ⟨some a, len, cap, zs.take len, hcs, hl, hm, ⟨by simp; omega, fun h0 => ?_⟩, fun z hz => hwf z (List.mem_of_mem_take hz)⟩
    have h00 := hcell 0 (by omega)
    have hb := lt_of_cell h00
    rw [block_of_add] at hb
    refine ⟨a, rfl, hb, fun j u hu => ?_⟩
    rw [List.map_take, List.getElem?_take] at hu
    split at hu
    · rename_i hj
      have hz : j < zs.length := by omega
      rw [hcell j hz]
      rw [List.getElem?_map, List.getElem?_eq_getElem hz] at hu
      rw [← hu, List.getD_eq_getElem?_getD, List.getElem?_eq_getElem hz]
      rfl
    · cases hu

theorem trod_int_of {e : TypeId} {k : IntKind} {sp : Nat → Bool} {fuel base : Nat} {hd : Bool} {v : Value} {y : DataW H × List MemPlace} (he : P.underlying e = some (.int k)) (h : DataW.trod enc P w base sp hd fuel e [v] = some y) : ∃ n : Int, v = .int k n ∧ (Lit.int k n).wf = true := by
  obtain ⟨n, e0, _, wf⟩ := DataW.trod_int he h
  simp only [List.cons.injEq, and_true] at e0
  exact ⟨n, e0, wf⟩
end

theorem Try.cells22 : Try.prog.cellsOf 22 = 1 := by kernel_rfl
theorem Try.cells3 : Try.prog.cellsOf 3 = 1 := by kernel_rfl
theorem Try.cells24 : Try.prog.cellsOf 24 = 3 := by kernel_rfl

theorem open_case {H : Type} {enc : TypeId × Value → H} {w : World} {base : Nat} {v : Value} {d : DataW H} {p : List MemPlace} (hv : Value.okWide Try.prog w .any base 24 v) (h : DataW.Trod enc Try.prog w 0 (fun _ => true) true 24 v d p) :
    ∃ (A : Option Addr) (n c : Nat) (zs : List Int) (lo more : Int), v = .agg #[.slice A n c, .int .i64 lo, .int .i64 more] ∧ n ≤ c ∧ c ≤ 9223372036854775807 ∧ Reads w w.heap.size 1 A n (zs.map (Value.int .i64)) := by
  obtain ⟨v0, v1, v2, y0, y1, y2, n, rfl, _, _, t0, t1, t2⟩ := open_agg3 Try.underlying24 (by kernel_rfl) Try.cells24 hv h
  obtain ⟨A, len, cap, zs, rfl, hl, hm, hr, _⟩ := reads_of_trod Try.underlying22 Try.underlying3 Try.cells3 t0
  obtain ⟨a, rfl, _⟩ := trod_int_of Try.underlying3 t1
  obtain ⟨b, rfl, _⟩ := trod_int_of Try.underlying3 t2
  exact ⟨A, len, cap, zs, a, b, rfl, hl, hm, hr⟩

theorem Try.cells5 : Try.prog.cellsOf 5 = 1 := by kernel_rfl
theorem open_bytes {H : Type} {enc : TypeId × Value → H} {w : World} {base : Nat} {v : Value} {d : DataW H} {p : List MemPlace} (hv : Value.okWide Try.prog w .any base 44 v) (h : DataW.Trod enc Try.prog w 0 (fun _ => true) true 44 v d p) :
    ∃ (A : Option Addr) (n c : Nat) (zs : List Int), v = .slice A n c ∧ n ≤ c ∧ c ≤ 9223372036854775807 ∧ Reads w w.heap.size 1 A n (zs.map (Value.int .u8)) ∧ ∀ z ∈ zs, 0 ≤ z ∧ z < 256 := by
  obtain ⟨a0, len, cap, rfl⟩ := okWide_slice Try.underlying44 hv
  obtain ⟨fuel, hf⟩ := h
  obtain ⟨A, n, c, zs, e, hl, hm, hr, hwf⟩ := reads_of_trod (v := .slice a0 len cap) Try.underlying44 Try.underlying5 Try.cells5 hf
  refine ⟨A, n, c, zs, e, hl, hm, hr, fun z hz => ?_⟩
  have := hwf z hz
  simp [Lit.wf, IntKind.min, IntKind.max, IntKind.signed, IntKind.bits] at this
  omega

theorem Try.cells29 : Try.prog.cellsOf 29 = 2 := by kernel_rfl
theorem open_warm {H : Type} {enc : TypeId × Value → H} {w : World} {base : Nat} {v : Value} {d : DataW H} {p : List MemPlace} (hv : Value.okWide Try.prog w .any base 29 v) (h : DataW.Trod enc Try.prog w 0 (fun _ => true) true 29 v d p) :
    ∃ a b : Int, v = .agg #[.int .i64 a, .int .i64 b] := by
  obtain ⟨v0, v1, y0, y1, n, rfl, _, _, t0, t1⟩ := open_agg2 Try.underlying29 (by kernel_rfl) Try.cells29 hv h
  obtain ⟨a, rfl, _⟩ := trod_int_of Try.underlying3 t0
  obtain ⟨b, rfl, _⟩ := trod_int_of Try.underlying3 t1
  exact ⟨a, b, rfl⟩
end Go.Proofs.Ytdiidinbgnjjmaa
