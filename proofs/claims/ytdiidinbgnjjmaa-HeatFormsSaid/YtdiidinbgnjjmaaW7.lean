/-
  The contracts of the law's own helpers: warm, runs, rests, grows, meets.
-/
import Derived.Test.YtdiidinbgnjjmaaW6
import Derived.Deep.RegionHeld3
namespace Go.Proofs.Ytdiidinbgnjjmaa
open Go.RowKit

set_option maxHeartbeats 400000 in
theorem warm_any (a b : Int) (w : World) :
    Calls Try.prog 21 #[.int .i64 a, .int .i64 b] w fun e w' => e = .returned (.agg #[.int .i64 a, .int .i64 b]) ∧ Below w.heap.size w w' := by
  go_enter Try.func21, Try.ntmps21
  go_wp2
  exact bodyPost_ret (v := .agg #[.int .i64 a, .int .i64 b]) (by simp [results, Try.results21, go_sem]) rfl ⟨rfl, by go_grown⟩

set_option maxHeartbeats 400000 in
theorem runs_true (r f t g p lo hi n a b : Int) (w : World) (h1 : chk2 r f t g p lo hi n = 0) (h2 : runLo r f t g p lo hi n = a) (h3 : runHi r f t g p lo hi n = b) :
    Calls Try.prog 25 #[.agg #[.int .i64 r, .int .i64 f, .int .i64 t, .int .i64 g, .int .i64 p], .agg #[.int .i64 lo, .int .i64 hi], .int .i64 n, .agg #[.int .i64 a, .int .i64 b]] w
      fun e w' => e = .returned (.bool true) ∧ Below w.heap.size w w' := by
  have H1 := Lib.hid h1
  have H2 := Lib.hid h2
  have H3 := Lib.hid h3
  clear h1 h2 h3
  go_enter Try.func25, Try.ntmps25
  go_wp2_with fail
  refine (run_any _ _ _ _ _ _ _ _ _).mono ?_
  rw [H1.out, H2.out, H3.out]
  rintro e w1 ⟨rfl, hb⟩
  obtain ⟨hc, hf⟩ := bcell hb
  have hbl : Below w.heap.size w w1 := Below.via (by go_grown) (by go_size) hb
  have hz : w.heap.size + 1 + 1 < w1.heap.size := by have := hb.size; simp at this; omega
  go_wp2
  go_ret
  exact ⟨rfl, by go_grown⟩

set_option maxHeartbeats 400000 in
theorem rests_true (r f t g p lo hi n a b : Int) (w : World) (h1 : chk2 r f t g p lo hi n = 0) (h2 : restLo r f t g p lo hi n = a) (h3 : restHi r f t g p lo hi n = b) :
    Calls Try.prog 26 #[.agg #[.int .i64 r, .int .i64 f, .int .i64 t, .int .i64 g, .int .i64 p], .agg #[.int .i64 lo, .int .i64 hi], .int .i64 n, .agg #[.int .i64 a, .int .i64 b]] w
      fun e w' => e = .returned (.bool true) ∧ Below w.heap.size w w' := by
  have H1 := Lib.hid h1
  have H2 := Lib.hid h2
  have H3 := Lib.hid h3
  clear h1 h2 h3
  go_enter Try.func26, Try.ntmps26
  go_wp2_with fail
  refine (rest_any _ _ _ _ _ _ _ _ _).mono ?_
  rw [H1.out, H2.out, H3.out]
  rintro e w1 ⟨rfl, hb⟩
  obtain ⟨hc, hf⟩ := bcell hb
  have hbl : Below w.heap.size w w1 := Below.via (by go_grown) (by go_size) hb
  have hz : w.heap.size + 1 + 1 < w1.heap.size := by have := hb.size; simp at this; omega
  go_wp2
  go_ret
  exact ⟨rfl, by go_grown⟩

set_option maxHeartbeats 400000 in
theorem grows_true (r f t g p lo hi a b : Int) (w : World) (h1 : chk2 r f t g p lo hi 0 = 0) (h2 : growLo r f t g p lo hi = a) (h3 : growHi r f t g p lo hi = b) :
    Calls Try.prog 27 #[.agg #[.int .i64 r, .int .i64 f, .int .i64 t, .int .i64 g, .int .i64 p], .agg #[.int .i64 lo, .int .i64 hi], .int .i64 a, .int .i64 b] w
      fun e w' => e = .returned (.bool true) ∧ Below w.heap.size w w' := by
  have H1 := Lib.hid h1
  have H2 := Lib.hid h2
  have H3 := Lib.hid h3
  clear h1 h2 h3
  go_enter Try.func27, Try.ntmps27
  go_wp2_with fail
  refine (growth_any _ _ _ _ _ _ _ _).mono ?_
  rw [H1.out, H2.out, H3.out]
  rintro e w1 ⟨rfl, hb⟩
  have hbl : Below w.heap.size w w1 := Below.via (by go_grown) (by go_size) hb
  go_wp2
  go_ret
  exact ⟨rfl, by go_grown⟩

set_option maxHeartbeats 400000 in
theorem meets_true (a b c d x y e0 : Int) (w : World) (h1 : meetLo a b c d = x) (h2 : meetHi a b c d = y) (h3 : meetE a b c d = e0) :
    Calls Try.prog 28 #[.agg #[.int .i64 a, .int .i64 b], .agg #[.int .i64 c, .int .i64 d], .agg #[.int .i64 x, .int .i64 y], .int .i64 e0] w
      fun e w' => e = .returned (.bool true) ∧ Below w.heap.size w w' := by
  have H1 := Lib.hid h1
  have H2 := Lib.hid h2
  have H3 := Lib.hid h3
  clear h1 h2 h3
  go_enter Try.func28, Try.ntmps28
  go_wp2_with fail
  refine (meet_any _ _ _ _ _).mono ?_
  rw [H1.out, H2.out, H3.out]
  rintro e w1 ⟨rfl, hb⟩
  obtain ⟨hc, hf⟩ := bcell hb
  have hbl : Below w.heap.size w w1 := Below.via (by go_grown) (by go_size) hb
  have hz : w.heap.size + 1 + 1 < w1.heap.size := by have := hb.size; simp at this; omega
  go_wp2
  go_ret
  exact ⟨rfl, by go_grown⟩

def WarmP (t : Int) (w : World) (e : Ending) (w' : World) : Prop := ∃ a b : Int, e = .returned (.agg #[.int .i64 a, .int .i64 b]) ∧ 0 ≤ a ∧ a ≤ b ∧ b ≤ t ∧ Below w.heap.size w w'
set_option maxHeartbeats 400000 in
theorem Warm_any (r f t g p lo more : Int) (w : World) (t0 : 0 ≤ t) (t1 : t ≤ 1000) :
    Calls Try.prog 22 #[.agg #[.int .i64 r, .int .i64 f, .int .i64 t, .int .i64 g, .int .i64 p], .int .i64 lo, .int .i64 more] w (WarmP t w) := by
  obtain ⟨a0, a1⟩ := emod_bd lo (t + 1) (by omega)
  obtain ⟨b0, b1⟩ := emod_bd more (t - lo % (t + 1) + 1) (by omega)
  obtain ⟨x, hx⟩ : ∃ x, x = lo % (t + 1) := ⟨_, rfl⟩
  obtain ⟨y, hy⟩ : ∃ y, y = more % (t - x + 1) := ⟨_, rfl⟩
  rw [← hx] at a0 a1 b0 b1
  rw [← hy] at b0 b1
  have HX := Lib.hid hx
  have HY := Lib.hid hy
  clear hx hy
  go_enter Try.func22, Try.ntmps22
  go_wp2_with fail
  refine (mod_any _ _ _ (by omega) (by omega)).mono ?_
  rw [← HX.out]
  rintro e w' ⟨rfl, rfl⟩
  go_wp2_with fail
  refine (mod_any _ _ _ (by omega) (by omega)).mono ?_
  rw [← HY.out]
  rintro e w' ⟨rfl, rfl⟩
  go_wp2
  exact bodyPost_ret (v := .agg #[.int .i64 x, .int .i64 (x + y)]) (by simp [results, Try.results22, go_sem]) rfl ⟨_, _, rfl, by omega, by omega, by omega, by go_grown⟩
end Go.Proofs.Ytdiidinbgnjjmaa
