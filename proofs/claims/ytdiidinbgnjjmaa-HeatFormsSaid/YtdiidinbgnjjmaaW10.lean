/-
  The contract of Odd: a heat of which one number is changed.
-/
import Derived.Test.YtdiidinbgnjjmaaW7
import Derived.Deep.DeepCutAuto
namespace Go.Proofs.Ytdiidinbgnjjmaa
open Go.RowKit

def OddP (w : World) (e : Ending) (w' : World) : Prop :=
  ∃ r f t g p : Int, e = .returned (.agg #[.int .i64 r, .int .i64 f, .int .i64 t, .int .i64 g, .int .i64 p]) ∧ Below w.heap.size w w'

/-- The three blocks of Odd. -/
def Three (w : World) (r f t g p a b : Int) (W : World) : Prop :=
  W.heap[w.heap.size]? = some (.cells #[.int .i64 r, .int .i64 f, .int .i64 t, .int .i64 g, .int .i64 p] 27 (0, 0)) ∧ W.heap[w.heap.size + 1]? = some (.cells #[.int .i64 a, .int .i64 b] 25 (0, 0)) ∧
    W.heap[w.heap.size + 1 + 1]? = some (.cells #[.int .i64 0, .int .i64 0, .int .i64 0, .int .i64 0, .int .i64 0] 27 (0, 0)) ∧ Below w.heap.size w W
theorem Three.start (w : World) (r f t g p a b : Int) : Three w r f t g p a b (((w.alloc (.cells #[.int .i64 r, .int .i64 f, .int .i64 t, .int .i64 g, .int .i64 p] 27)).alloc (.cells #[.int .i64 a, .int .i64 b] 25)).alloc (.cells #[.int .i64 0, .int .i64 0, .int .i64 0, .int .i64 0, .int .i64 0] 27)) := by
  refine ⟨heap_alloc_past (heap_alloc_past (heap_alloc_at _ _ _ rfl)), heap_alloc_past (heap_alloc_at _ _ _ (by simp)), heap_alloc_at _ _ _ (by simp), ?_⟩
  exact (((Below.refl _ _).alloc (Nat.le_refl _) _).alloc (by simp) _).alloc (by simp; omega) _
theorem Three.drew {w W : World} {r f t g p a b : Int} (h : Three w r f t g p a b W) : Three w r f t g p a b W.drew := ⟨h.1, h.2.1, h.2.2.1, h.2.2.2.drew⟩
theorem Three.alloc {w W : World} {r f t g p a b : Int} (h : Three w r f t g p a b W) (hz : w.heap.size ≤ W.heap.size) (o : Obj) : Three w r f t g p a b (W.alloc o) :=
  ⟨heap_alloc_past h.1, heap_alloc_past h.2.1, heap_alloc_past h.2.2.1, h.2.2.2.alloc hz o⟩

set_option maxRecDepth 100000 in
set_option maxHeartbeats 4000000 in
theorem odd_any (r f t g p a b : Int) (w : World) :
    Calls Try.prog 11 #[.agg #[.int .i64 r, .int .i64 f, .int .i64 t, .int .i64 g, .int .i64 p], .agg #[.int .i64 a, .int .i64 b]] w (OddP w) := by
  obtain ⟨j, hj, j0, j1⟩ : ∃ j : Int, b % 6 = j ∧ 0 ≤ j ∧ j < 6 := ⟨_, rfl, (emod_bd b 6 (by omega)).1, (emod_bd b 6 (by omega)).2⟩
  obtain ⟨i, hi, i0, i1⟩ : ∃ i : Int, a % 5 = i ∧ 0 ≤ i ∧ i < 5 := ⟨_, rfl, (emod_bd a 5 (by omega)).1, (emod_bd a 5 (by omega)).2⟩
  have HJ := Lib.hid hj
  have HI := Lib.hid hi
  clear hj hi
  go_enter Try.func11, Try.ntmps11
  go_upto_region 1 with fail
  have h0 := Three.start w r f t g p a b
  have hz0 : w.heap.size + 1 + 1 + 1 = (((w.alloc (.cells #[.int .i64 r, .int .i64 f, .int .i64 t, .int .i64 g, .int .i64 p] 27)).alloc (.cells #[.int .i64 a, .int .i64 b] 25)).alloc (.cells #[.int .i64 0, .int .i64 0, .int .i64 0, .int .i64 0, .int .i64 0] 27)).heap.size := by simp
  have HZ := Lib.hid hz0
  clear hz0
  have a0 := cell_of_heap (i := 0) h0.2.1
  have a1 := cell_of_heap (i := 1) h0.2.1
  simp at a0 a1
  have hs : w.heap.size ≤ (((w.alloc (.cells #[.int .i64 r, .int .i64 f, .int .i64 t, .int .i64 g, .int .i64 p] 27)).alloc (.cells #[.int .i64 a, .int .i64 b] 25)).alloc (.cells #[.int .i64 0, .int .i64 0, .int .i64 0, .int .i64 0, .int .i64 0] 27)).heap.size := by rw [← HZ.out]; omega
  generalize (((w.alloc (.cells #[.int .i64 r, .int .i64 f, .int .i64 t, .int .i64 g, .int .i64 p] 27)).alloc (.cells #[.int .i64 a, .int .i64 b] 25)).alloc (.cells #[.int .i64 0, .int .i64 0, .int .i64 0, .int .i64 0, .int .i64 0] 27)) = w0 at h0 a0 a1 hs HZ ⊢
  have hs1 : w.heap.size + 1 < w0.heap.size := by have := HZ.out; omega
  go_cut [5] (fun s5 W => ∃ v : Int, s5 = .int .i64 v ∧ Three w r f t g p a b W)
  case first =>
    rcases (show j = 0 ∨ j = 1 ∨ j = 2 ∨ j = 3 ∨ j = 4 ∨ j = 5 from by omega) with rfl | rfl | rfl | rfl | rfl | rfl
    all_goals
      go_region_with (go_at_call 14; refine (mod_any _ _ _ (by omega) (by omega)).mono ?_; rw [HJ.out]; rintro e w' ⟨rfl, rfl⟩)
      all_goals (go_wp2_with fail; go_meet; exact ⟨_, rfl, (h0.drew).alloc (by simpa using hs) _⟩)
  case rest =>
    obtain ⟨v, rfl, h1⟩ := hcut
    obtain ⟨r0, r1, r2, hB⟩ := h1
    have c0 := cell_of_heap (i := 0) r0
    have c1 := cell_of_heap (i := 1) r0
    have c2 := cell_of_heap (i := 2) r0
    have c3 := cell_of_heap (i := 3) r0
    have c4 := cell_of_heap (i := 4) r0
    have q0 := cell_of_heap (i := 0) r1
    have d0 := cell_of_heap (i := 0) r2
    have d1 := cell_of_heap (i := 1) r2
    have d2 := cell_of_heap (i := 2) r2
    have d3 := cell_of_heap (i := 3) r2
    have d4 := cell_of_heap (i := 4) r2
    have e0 := frozen_of_heap (i := 0) r0
    have e1 := frozen_of_heap (i := 1) r0
    have e2 := frozen_of_heap (i := 2) r0
    have e3 := frozen_of_heap (i := 3) r0
    have e4 := frozen_of_heap (i := 4) r0
    have f0 := frozen_of_heap (i := 0) r2
    have f1 := frozen_of_heap (i := 1) r2
    have f2 := frozen_of_heap (i := 2) r2
    have f3 := frozen_of_heap (i := 3) r2
    have f4 := frozen_of_heap (i := 4) r2
    simp at c0 c1 c2 c3 c4 q0 d0 d1 d2 d3 d4
    clear r0 r1 r2 h0 a0 a1 hs hs1 HZ j0 j1 HJ
    go_wp2_with fail
    refine (mod_any _ _ _ (by omega) (by omega)).mono ?_
    rw [HI.out]
    rintro e w' ⟨rfl, rfl⟩
    rcases (show i = 0 ∨ i = 1 ∨ i = 2 ∨ i = 3 ∨ i = 4 from by omega) with rfl | rfl | rfl | rfl | rfl
    all_goals clear HI
    all_goals go_wp2
    all_goals exact bodyPost_ret (v := .agg #[.int .i64 _, .int .i64 _, .int .i64 _, .int .i64 _, .int .i64 _]) (by simp [results, Try.results11, go_sem, d0, d1, d2, d3, d4]; exact ⟨rfl, rfl, rfl, rfl, rfl⟩) rfl ⟨_, _, _, _, _, rfl, by go_grown⟩
end Go.Proofs.Ytdiidinbgnjjmaa
