/-
  The contracts of Run and Rest, and of the reference's.
-/
import Derived.Test.YtdiidinbgnjjmaaW3
namespace Go.Proofs.Ytdiidinbgnjjmaa
open Go.RowKit

theorem tup2 {a b c x y z : Int} (h1 : a = x) (h2 : b = y) (h3 : c = z) : Ending.returned (.tuple #[.agg #[.int .i64 a, .int .i64 b], .int .i64 c]) = .returned (.tuple #[.agg #[.int .i64 x, .int .i64 y], .int .i64 z]) := by rw [h1, h2, h3]

set_option maxHeartbeats 400000 in
theorem run_any (r f t g p lo hi n : Int) (w : World) :
    Calls Try.prog 15 #[.agg #[.int .i64 r, .int .i64 f, .int .i64 t, .int .i64 g, .int .i64 p], .agg #[.int .i64 lo, .int .i64 hi], .int .i64 n] w
      fun e w' => e = .returned (.tuple #[.agg #[.int .i64 (runLo r f t g p lo hi n), .int .i64 (runHi r f t g p lo hi n)], .int .i64 (chk2 r f t g p lo hi n)]) ∧ Below w.heap.size w w' := by
  by_cases h : okAll r f t g p lo hi n = true
  · have e1 : Hid (runLo r f t g p lo hi n = min (lo + n) t) := by unfold Hid runLo; rw [if_pos h]
    have e2 : Hid (runHi r f t g p lo hi n = min (hi + n * r) t) := by unfold Hid runHi; rw [if_pos h]
    have e3 : Hid (chk2 r f t g p lo hi n = 0) := chk2_yes h
    have hn : 0 ≤ n := by rw [okAll_iff] at h; omega
    have H := Lib.hid h
    clear h
    obtain ⟨n, rfl⟩ := Int.eq_ofNat_of_zero_le hn
    go_enter Try.func15, Try.ntmps15
    go_wp2_with fail
    refine (after_run r f t g p lo hi n _ _ H.out (by simp; omega) (by simp [go_sem]) (by simp [go_sem])).mono ?_
    rintro e w1 ⟨rfl, hb⟩
    rw [← e1.out, ← e2.out]
    obtain ⟨hc, hf⟩ := bcell hb
    have hbl : Below w.heap.size w w1 := Below.via (by go_grown) (by go_size) hb
    have hz : w.heap.size + 2 < w1.heap.size := by have := hb.size; simp at this; omega
    go_wp2
    exact bodyPost_ret (v := .tuple #[.agg #[.int .i64 (runLo r f t g p lo hi n), .int .i64 (runHi r f t g p lo hi n)], .int .i64 0]) (by simp [results, Try.results15, go_sem, hc]) rfl ⟨by rw [e3.out], by go_grown⟩
  · have e1 : Hid (runLo r f t g p lo hi n = 0) := by unfold Hid runLo; rw [if_neg h]
    have e2 : Hid (runHi r f t g p lo hi n = 0) := by unfold Hid runHi; rw [if_neg h]
    have e3 : Hid (chk2 r f t g p lo hi n = 3) := chk2_no h
    have H := Lib.hid h
    clear h
    go_enter Try.func15, Try.ntmps15
    go_wp2_with fail
    refine (after_bad r f t g p lo hi n _ _ H.out).mono ?_
    rintro e w1 ⟨rfl, hb⟩
    obtain ⟨hc, hf⟩ := bcell hb
    have hbl : Below w.heap.size w w1 := Below.via (by go_grown) (by go_size) hb
    have hz : w.heap.size + 2 < w1.heap.size := by have := hb.size; simp at this; omega
    go_wp2
    exact bodyPost_ret (v := .tuple #[.agg #[.int .i64 0, .int .i64 0], .int .i64 3]) (by simp [results, Try.results15, go_sem, hc]) rfl ⟨by rw [e1.out, e2.out, e3.out], by go_grown⟩

set_option maxHeartbeats 400000 in
theorem rest_any (r f t g p lo hi n : Int) (w : World) :
    Calls Try.prog 17 #[.agg #[.int .i64 r, .int .i64 f, .int .i64 t, .int .i64 g, .int .i64 p], .agg #[.int .i64 lo, .int .i64 hi], .int .i64 n] w
      fun e w' => e = .returned (.tuple #[.agg #[.int .i64 (restLo r f t g p lo hi n), .int .i64 (restHi r f t g p lo hi n)], .int .i64 (chk2 r f t g p lo hi n)]) ∧ Below w.heap.size w w' := by
  by_cases h : okAll r f t g p lo hi n = true
  · have e1 : Hid (restLo r f t g p lo hi n = max (lo - n * f) 0) := by unfold Hid restLo; rw [if_pos h]
    have e2 : Hid (restHi r f t g p lo hi n = hi) := by unfold Hid restHi; rw [if_pos h]
    have e3 : Hid (chk2 r f t g p lo hi n = 0) := chk2_yes h
    have hn : 0 ≤ n := by rw [okAll_iff] at h; omega
    have H := Lib.hid h
    clear h
    obtain ⟨n, rfl⟩ := Int.eq_ofNat_of_zero_le hn
    go_enter Try.func17, Try.ntmps17
    go_wp2_with fail
    refine (after_rest r f t g p lo hi n _ _ H.out (by simp; omega) (by simp [go_sem])).mono ?_
    rintro e w1 ⟨rfl, hb⟩
    rw [← e1.out]
    obtain ⟨hc, hf⟩ := bcell hb
    have hbl : Below w.heap.size w w1 := Below.via (by go_grown) (by go_size) hb
    have hz : w.heap.size + 2 < w1.heap.size := by have := hb.size; simp at this; omega
    go_wp2
    exact bodyPost_ret (v := .tuple #[.agg #[.int .i64 (restLo r f t g p lo hi n), .int .i64 hi], .int .i64 0]) (by simp [results, Try.results17, go_sem, hc]) rfl ⟨by rw [e2.out, e3.out], by go_grown⟩
  · have e1 : Hid (restLo r f t g p lo hi n = 0) := by unfold Hid restLo; rw [if_neg h]
    have e2 : Hid (restHi r f t g p lo hi n = 0) := by unfold Hid restHi; rw [if_neg h]
    have e3 : Hid (chk2 r f t g p lo hi n = 3) := chk2_no h
    have H := Lib.hid h
    clear h
    go_enter Try.func17, Try.ntmps17
    go_wp2_with fail
    refine (after_bad r f t g p lo hi n _ _ H.out).mono ?_
    rintro e w1 ⟨rfl, hb⟩
    obtain ⟨hc, hf⟩ := bcell hb
    have hbl : Below w.heap.size w w1 := Below.via (by go_grown) (by go_size) hb
    have hz : w.heap.size + 2 < w1.heap.size := by have := hb.size; simp at this; omega
    go_wp2
    exact bodyPost_ret (v := .tuple #[.agg #[.int .i64 0, .int .i64 0], .int .i64 3]) (by simp [results, Try.results17, go_sem, hc]) rfl ⟨by rw [e1.out, e2.out, e3.out], by go_grown⟩

set_option maxHeartbeats 1000000 in
theorem refrun_any (r f t g p lo hi n : Int) (w : World) :
    Calls Try.prog 16 #[.agg #[.int .i64 r, .int .i64 f, .int .i64 t, .int .i64 g, .int .i64 p], .agg #[.int .i64 lo, .int .i64 hi], .int .i64 n] w
      fun e w' => e = .returned (.tuple #[.agg #[.int .i64 (runLo r f t g p lo hi n), .int .i64 (runHi r f t g p lo hi n)], .int .i64 (chk2 r f t g p lo hi n)]) ∧ Below w.heap.size w w' := by
  by_cases h : okAll r f t g p lo hi n = true
  · have e1 : Hid (runLo r f t g p lo hi n = min (lo + n) t) := by unfold Hid runLo; rw [if_pos h]
    have e2 : Hid (runHi r f t g p lo hi n = min (hi + n * r) t) := by unfold Hid runHi; rw [if_pos h]
    have e3 : Hid (chk2 r f t g p lo hi n = 0) := chk2_yes h
    rw [okAll_iff, okH_iff] at h
    obtain ⟨⟨a1, a2, a3, a4, a5, a6, a7, a8, a9, a10⟩, b1, b2, b3, b4, b5⟩ := h
    obtain ⟨n, rfl⟩ := Int.eq_ofNat_of_zero_le b4
    go_enter Try.func16, Try.ntmps16
    go_wp2_with fail
    refine (refcheck2_any _ _ _ _ _ _ _ _ _).mono ?_
    rw [e3.out]
    rintro e w1 ⟨rfl, hb⟩
    have hbl : Below w.heap.size w w1 := Below.via (by go_grown) (by go_size) hb
    obtain ⟨hc, hf⟩ := bcell hb
    have hz : w.heap.size + 1 + 1 < w1.heap.size := by have := hb.size; simp at this; omega
    have hr0 : w1.cell? ⟨w.heap.size + 1 + 1, 0, none⟩ = some (.int .i64 0) := by simp [hc, go_sem]
    have hr1 : w1.cell? ⟨w.heap.size + 1 + 1, 1, none⟩ = some (.int .i64 0) := by simp [hc, go_sem]
    have hv0 : w1.cell? ⟨w.heap.size + 1, 0, none⟩ = some (.int .i64 lo) := by simp [hc, go_sem]
    have hv1 : w1.cell? ⟨w.heap.size + 1, 1, none⟩ = some (.int .i64 hi) := by simp [hc, go_sem]
    have hz0 : w1.frozen? ⟨w.heap.size + 1, 0, none⟩ = false := by simp [hf, go_sem]
    have hz1 : w1.frozen? ⟨w.heap.size + 1, 1, none⟩ = false := by simp [hf, go_sem]
    have hz2 : w1.frozen? ⟨w.heap.size + 1 + 1, 0, none⟩ = false := by simp [hf, go_sem]
    have hz3 : w1.frozen? ⟨w.heap.size + 1 + 1, 1, none⟩ = false := by simp [hf, go_sem]
    have hcb0 : w1.cell? ⟨w.heap.size, 0, none⟩ = some (.int .i64 r) := by simp [hc, go_sem]
    have hcb2 : w1.cell? ⟨w.heap.size, 2, none⟩ = some (.int .i64 t) := by simp [hc, go_sem]
    clear hc hf hb
    go_wp2
    go_loopw [9] (fun i wr => ∃ (k : Nat) (x y : Int), k ≤ n ∧ i = .int .i64 k ∧ Hid (x = min (lo + k) t) ∧ Hid (y = min (hi + k * r) t) ∧ 0 ≤ x ∧ x ≤ t ∧ 0 ≤ y ∧ y ≤ t ∧
      wr.cell? ⟨w.heap.size + 1, 0, none⟩ = some (.int .i64 x) ∧ wr.cell? ⟨w.heap.size + 1, 1, none⟩ = some (.int .i64 y) ∧
      wr.frozen? ⟨w.heap.size + 1, 0, none⟩ = false ∧ wr.frozen? ⟨w.heap.size + 1, 1, none⟩ = false ∧
      wr.cell? ⟨w.heap.size + 1 + 1, 0, none⟩ = some (.int .i64 0) ∧ wr.cell? ⟨w.heap.size + 1 + 1, 1, none⟩ = some (.int .i64 0) ∧
      wr.frozen? ⟨w.heap.size + 1 + 1, 0, none⟩ = false ∧ wr.frozen? ⟨w.heap.size + 1 + 1, 1, none⟩ = false ∧
      wr.cell? ⟨w.heap.size, 0, none⟩ = some (.int .i64 r) ∧ wr.cell? ⟨w.heap.size, 2, none⟩ = some (.int .i64 t) ∧ w.heap.size + 1 + 1 < wr.heap.size ∧ Below w.heap.size w wr) (fun i _ => n - (intOf i).toNat)
    case atStart => exact ⟨0, lo, hi, by omega, rfl, by unfold Hid; omega, by unfold Hid; simp; omega, by omega, by omega, by omega, by omega, hv0, hv1, hz0, hz1, hr0, hr1, hz2, hz3, hcb0, hcb2, hz, hbl⟩
    case round =>
      clear hv0 hv1 hz0 hz1 hr0 hr1 hz2 hz3 hcb0 hcb2 hz hbl
      obtain ⟨k, x, y, hk, rfl, hx, hy, x0, x1, y0, y1, hv0, hv1, hz0, hz1, hr0, hr1, hz2, hz3, hcb0, hcb2, hz, hbl⟩ := hrel
      by_cases hlt : k < n
      · go_wp2
        go_roundw
        case rel =>
          have hu' : Hid (min (x + 1) t = min (lo + (k + 1 : Nat)) t) := by unfold Hid; have := hx.out; omega
          have hv' : Hid (min (y + r) t = min (hi + (k + 1 : Nat) * r) t) := by unfold Hid; have := hy.out; rw [succ_mul_int]; omega
          refine ⟨k + 1, min (x + 1) t, min (y + r) t, by omega, by go_num, hu', hv', by omega, by omega, by omega, by omega, ?_, ?_, ?_, ?_, ?_, ?_, ?_, ?_, ?_, ?_, ?_, ?_⟩
          · simp [go_sem, hv0]; omega
          · simp [go_sem, hv1]; omega
          · simp [go_sem, hz0]
          · simp [go_sem, hz1]
          · simp [go_sem, hr0]
          · simp [go_sem, hr1]
          · simp [go_sem, hz2]
          · simp [go_sem, hz3]
          · simp [go_sem, hcb0]
          · simp [go_sem, hcb2]
          · simp [go_sem]; omega
          · go_grown
        case measure => simp [intOf]; omega
      · have e : k = n := by omega
        have hx' : Hid (runLo r f t g p lo hi n = x) := by rw [← e]; unfold Hid; rw [hx.out, e]; exact e1.out
        have hy' : Hid (runHi r f t g p lo hi n = y) := by rw [← e]; unfold Hid; rw [hy.out, e]; exact e2.out
        clear e
        go_wp2
        exact bodyPost_ret (v := .tuple #[.agg #[.int .i64 x, .int .i64 y], .int .i64 0]) (by simp [results, Try.results16, go_sem, hr0, hr1]) rfl ⟨by rw [hx'.out, hy'.out, e3.out], by go_grown⟩
  · have e1 : Hid (runLo r f t g p lo hi n = 0) := by unfold Hid runLo; rw [if_neg h]
    have e2 : Hid (runHi r f t g p lo hi n = 0) := by unfold Hid runHi; rw [if_neg h]
    have e3 : Hid (chk2 r f t g p lo hi n = 3) := chk2_no h
    clear h
    go_enter Try.func16, Try.ntmps16
    go_wp2_with fail
    refine (refcheck2_any _ _ _ _ _ _ _ _ _).mono ?_
    rw [e3.out]
    rintro e w1 ⟨rfl, hb⟩
    have hbl : Below w.heap.size w w1 := Below.via (by go_grown) (by go_size) hb
    obtain ⟨hc, hf⟩ := bcell hb
    have hz : w.heap.size + 1 + 1 < w1.heap.size := by have := hb.size; simp at this; omega
    go_wp2
    exact bodyPost_ret (v := .tuple #[.agg #[.int .i64 0, .int .i64 0], .int .i64 3]) (by simp [results, Try.results16, go_sem, hc]) rfl ⟨by rw [e1.out, e2.out, e3.out], by go_grown⟩
set_option maxHeartbeats 1000000 in
theorem refrest_any (r f t g p lo hi n : Int) (w : World) :
    Calls Try.prog 18 #[.agg #[.int .i64 r, .int .i64 f, .int .i64 t, .int .i64 g, .int .i64 p], .agg #[.int .i64 lo, .int .i64 hi], .int .i64 n] w
      fun e w' => e = .returned (.tuple #[.agg #[.int .i64 (restLo r f t g p lo hi n), .int .i64 (restHi r f t g p lo hi n)], .int .i64 (chk2 r f t g p lo hi n)]) ∧ Below w.heap.size w w' := by
  by_cases h : okAll r f t g p lo hi n = true
  · have e1 : Hid (restLo r f t g p lo hi n = max (lo - n * f) 0) := by unfold Hid restLo; rw [if_pos h]
    have e2 : Hid (restHi r f t g p lo hi n = hi) := by unfold Hid restHi; rw [if_pos h]
    have e3 : Hid (chk2 r f t g p lo hi n = 0) := chk2_yes h
    rw [okAll_iff, okH_iff] at h
    obtain ⟨⟨a1, a2, a3, a4, a5, a6, a7, a8, a9, a10⟩, b1, b2, b3, b4, b5⟩ := h
    obtain ⟨n, rfl⟩ := Int.eq_ofNat_of_zero_le b4
    go_enter Try.func18, Try.ntmps18
    go_wp2_with fail
    refine (refcheck2_any _ _ _ _ _ _ _ _ _).mono ?_
    rw [e3.out]
    rintro e w1 ⟨rfl, hb⟩
    have hbl : Below w.heap.size w w1 := Below.via (by go_grown) (by go_size) hb
    obtain ⟨hc, hf⟩ := bcell hb
    have hz : w.heap.size + 1 + 1 < w1.heap.size := by have := hb.size; simp at this; omega
    have hr0 : w1.cell? ⟨w.heap.size + 1 + 1, 0, none⟩ = some (.int .i64 0) := by simp [hc, go_sem]
    have hr1 : w1.cell? ⟨w.heap.size + 1 + 1, 1, none⟩ = some (.int .i64 0) := by simp [hc, go_sem]
    have hv0 : w1.cell? ⟨w.heap.size + 1, 0, none⟩ = some (.int .i64 lo) := by simp [hc, go_sem]
    have hv1 : w1.cell? ⟨w.heap.size + 1, 1, none⟩ = some (.int .i64 hi) := by simp [hc, go_sem]
    have hz0 : w1.frozen? ⟨w.heap.size + 1, 0, none⟩ = false := by simp [hf, go_sem]
    have hz1 : w1.frozen? ⟨w.heap.size + 1, 1, none⟩ = false := by simp [hf, go_sem]
    have hz2 : w1.frozen? ⟨w.heap.size + 1 + 1, 0, none⟩ = false := by simp [hf, go_sem]
    have hz3 : w1.frozen? ⟨w.heap.size + 1 + 1, 1, none⟩ = false := by simp [hf, go_sem]
    have hcb0 : w1.cell? ⟨w.heap.size, 1, none⟩ = some (.int .i64 f) := by simp [hc, go_sem]
    clear hc hf hb
    go_wp2
    go_loopw [9] (fun i wr => ∃ (k : Nat) (x y : Int), k ≤ n ∧ i = .int .i64 k ∧ Hid (x = max (lo - k * f) 0) ∧ Hid (y = hi) ∧ 0 ≤ x ∧ x ≤ t ∧ 0 ≤ y ∧ y ≤ t ∧
      wr.cell? ⟨w.heap.size + 1, 0, none⟩ = some (.int .i64 x) ∧ wr.cell? ⟨w.heap.size + 1, 1, none⟩ = some (.int .i64 y) ∧
      wr.frozen? ⟨w.heap.size + 1, 0, none⟩ = false ∧ wr.frozen? ⟨w.heap.size + 1, 1, none⟩ = false ∧
      wr.cell? ⟨w.heap.size + 1 + 1, 0, none⟩ = some (.int .i64 0) ∧ wr.cell? ⟨w.heap.size + 1 + 1, 1, none⟩ = some (.int .i64 0) ∧
      wr.frozen? ⟨w.heap.size + 1 + 1, 0, none⟩ = false ∧ wr.frozen? ⟨w.heap.size + 1 + 1, 1, none⟩ = false ∧
      wr.cell? ⟨w.heap.size, 1, none⟩ = some (.int .i64 f) ∧ w.heap.size + 1 + 1 < wr.heap.size ∧ Below w.heap.size w wr) (fun i _ => n - (intOf i).toNat)
    case atStart => exact ⟨0, lo, hi, by omega, rfl, by unfold Hid; simp; omega, rfl, by omega, by omega, by omega, by omega, hv0, hv1, hz0, hz1, hr0, hr1, hz2, hz3, hcb0, hz, hbl⟩
    case round =>
      clear hv0 hv1 hz0 hz1 hr0 hr1 hz2 hz3 hcb0 hz hbl
      obtain ⟨k, x, y, hk, rfl, hx, hy, x0, x1, y0, y1, hv0, hv1, hz0, hz1, hr0, hr1, hz2, hz3, hcb0, hz, hbl⟩ := hrel
      by_cases hlt : k < n
      · go_wp2
        go_roundw
        case rel =>
          have hu' : Hid (max (x - f) 0 = max (lo - (k + 1 : Nat) * f) 0) := by unfold Hid; have := hx.out; rw [succ_mul_int]; omega
          have hv' : Hid (y = hi) := hy
          refine ⟨k + 1, max (x - f) 0, y, by omega, by go_num, hu', hv', by omega, by omega, by omega, by omega, ?_, ?_, ?_, ?_, ?_, ?_, ?_, ?_, ?_, ?_, ?_⟩
          · simp [go_sem, hv0]; omega
          · simp [go_sem, hv1]
          · simp [go_sem, hz0]
          · simp [go_sem, hz1]
          · simp [go_sem, hr0]
          · simp [go_sem, hr1]
          · simp [go_sem, hz2]
          · simp [go_sem, hz3]
          · simp [go_sem, hcb0]
          · simp [go_sem]; omega
          · go_grown
        case measure => simp [intOf]; omega
      · have e : k = n := by omega
        have hx' : Hid (restLo r f t g p lo hi n = x) := by rw [← e]; unfold Hid; rw [hx.out, e]; exact e1.out
        have hy' : Hid (restHi r f t g p lo hi n = y) := by rw [← e]; unfold Hid; rw [hy.out, e]; exact e2.out
        clear e
        go_wp2
        exact bodyPost_ret (v := .tuple #[.agg #[.int .i64 x, .int .i64 y], .int .i64 0]) (by simp [results, Try.results18, go_sem, hr0, hr1]) rfl ⟨by rw [hx'.out, hy'.out, e3.out], by go_grown⟩
  · have e1 : Hid (restLo r f t g p lo hi n = 0) := by unfold Hid restLo; rw [if_neg h]
    have e2 : Hid (restHi r f t g p lo hi n = 0) := by unfold Hid restHi; rw [if_neg h]
    have e3 : Hid (chk2 r f t g p lo hi n = 3) := chk2_no h
    clear h
    go_enter Try.func18, Try.ntmps18
    go_wp2_with fail
    refine (refcheck2_any _ _ _ _ _ _ _ _ _).mono ?_
    rw [e3.out]
    rintro e w1 ⟨rfl, hb⟩
    have hbl : Below w.heap.size w w1 := Below.via (by go_grown) (by go_size) hb
    obtain ⟨hc, hf⟩ := bcell hb
    have hz : w.heap.size + 1 + 1 < w1.heap.size := by have := hb.size; simp at this; omega
    go_wp2
    exact bodyPost_ret (v := .tuple #[.agg #[.int .i64 0, .int .i64 0], .int .i64 3]) (by simp [results, Try.results18, go_sem, hc]) rfl ⟨by rw [e1.out, e2.out, e3.out], by go_grown⟩

end Go.Proofs.Ytdiidinbgnjjmaa
