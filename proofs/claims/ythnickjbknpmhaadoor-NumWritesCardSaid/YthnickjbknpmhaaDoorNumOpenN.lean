/-
  Opening an argument that is any Num; strings.
-/
import Derived.Test.YthnickjbknpmhaaDoorNumOpen
namespace Go.Proofs.YthnickjbknpmhaaDoor
open Go.ChangeShapes Go.WideShapes Go.ChangeAt Go.RowKit Go.Joins Go.Deep

theorem cells_num : Tryd.prog.cellsOf 25 = 2 := by kernel_rfl
theorem cells_u32 : Tryd.prog.cellsOf 50 = 1 := by kernel_rfl
theorem cells_d : Tryd.prog.cellsOf 23 = 1 := by kernel_rfl
theorem cells_b : Tryd.prog.cellsOf 4 = 1 := by kernel_rfl
theorem okWide_struct {P : Program} {w : World} {r : Reach} {b0 : Nat} {fs : Array Field} {t : TypeId} {v : Value} (ht : P.underlying t = some (.struct fs)) (h : Value.okWide P w r b0 t v) : ∃ cs, v = .agg cs ∧ cs.size = P.cellsOf t := by
  simp only [Value.okWide, ht] at h
  obtain ⟨cs, h1, h2, _⟩ := h
  exact ⟨cs, h1, h2⟩
section
variable {H : Type} {enc : TypeId × Value → H} {w : World} {base : Nat} {v : Value} {d : DataW H} {p : List MemPlace}
theorem sl_of_reads {A : Option Addr} {n c : Nat} {zs : List Int} (hl : n ≤ c) (hm : c ≤ maxLen) (h : Reads w w.heap.size 1 A n (zs.map (Value.int .u32))) (hw : ∀ z ∈ zs, (Lit.int .u32 z).wf = true) :
    Sl w w.heap.size A n c (zs.map Int.toNat) := by
  have e : u32s (zs.map Int.toNat) = zs.map (Value.int .u32) := by
    unfold u32s
    rw [List.map_map]
    apply List.map_congr_left
    intro z hz
    have := bounds_u32 (hw z hz)
    show Value.int .u32 ((z.toNat : Nat) : Int) = _
    rw [Int.toNat_of_nonneg this.1]
  refine ⟨⟨by rw [e]; exact h, fun x hx => ?_⟩, hl, hm⟩
  obtain ⟨z, hz, rfl⟩ := List.mem_map.1 hx
  have := bounds_u32 (hw z hz)
  omega
set_option maxRecDepth 100000 in
theorem num_of_trod {n : Nat} {cs : List Value} {y : Option (DataW H × List MemPlace)} (h : DataW.trod enc Tryd.prog w 0 (fun _ => true) true n 25 cs = y) (hy : y.isSome = true) :
    ∃ (neg : Bool) (A : Option Addr) (n c : Nat) (l : List Nat), cs = [.bool neg, .slice A n c] ∧ Sl w w.heap.size A n c l := by
  obtain ⟨y', rfl⟩ := Option.isSome_iff_exists.1 hy
  obtain ⟨y0, y1, m, _, hl, h0, h1⟩ := trod_struct2 Tryd.underlying25 h
  rw [cells_num] at hl
  match cs, hl with
  | [u0, u1], _ =>
    have h0' : DataW.trod enc Tryd.prog w 0 (fun _ => true) true m 4 [u0] = some y0 := by simpa [cells_b] using h0
    have h1' : DataW.trod enc Tryd.prog w 0 (fun _ => true) true m 23 [u1] = some y1 := by simpa [cells_d] using h1
    obtain ⟨b, hb, _⟩ := DataW.trod_bool Tryd.underlying4 h0'
    obtain ⟨A, n, c, zs, rfl, hl, hm, hr, hw⟩ := reads_of_trod Tryd.underlying23 Tryd.underlying50 cells_u32 h1'
    simp at hb
    subst hb
    exact ⟨b, A, n, c, _, rfl, sl_of_reads hl hm hr hw⟩
set_option maxRecDepth 100000 in
theorem open_num (hv : Value.okWide Tryd.prog w .any base 25 v) (h : DataW.Trod enc Tryd.prog w 0 (fun _ => true) true 25 v d p) :
    ∃ (neg : Bool) (A : Option Addr) (n c : Nat) (l : List Nat), v = .agg #[.bool neg, .slice A n c] ∧ Sl w w.heap.size A n c l := by
  obtain ⟨cs, rfl, _⟩ := okWide_struct Tryd.underlying25 hv
  obtain ⟨fuel, hf⟩ := h
  obtain ⟨neg, A, n, c, l, e, hs⟩ := num_of_trod hf rfl
  refine ⟨neg, A, n, c, l, ?_, hs⟩
  congr 1
  apply Array.toList_inj.1
  simpa [Value.cells] using e
end
end Go.Proofs.YthnickjbknpmhaaDoor
