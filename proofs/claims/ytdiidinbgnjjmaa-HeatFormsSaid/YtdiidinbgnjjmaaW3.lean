/-
  The contracts of Run and Rest.
-/
import Derived.Test.YtdiidinbgnjjmaaW2
namespace Go.Proofs.Ytdiidinbgnjjmaa
open Go.RowKit

set_option maxHeartbeats 400000 in
theorem refcheck2_any (r f t g p lo hi n : Int) (w : World) :
    Calls Try.prog 34 #[.agg #[.int .i64 r, .int .i64 f, .int .i64 t, .int .i64 g, .int .i64 p], .agg #[.int .i64 lo, .int .i64 hi], .int .i64 n] w fun e w' => e = .returned (.int .i64 (chk2 r f t g p lo hi n)) ∧ Below w.heap.size w w' := by
  have key : okAll r f t g p lo hi n = true ↔ (chk r f t g p = 0 ∧ 0 ≤ lo ∧ lo ≤ hi ∧ hi ≤ t ∧ 0 ≤ n ∧ n ≤ 10000) := by
    rw [okAll_iff, chk_zero]
  have K := Lib.hid key
  have C2 := Lib.hid (chk_two r f t g p)
  clear key
  go_enter Try.func34, Try.ntmps34
  go_wp2_with (first
    | (go_at_call 13; refine (refcheck_any _ _ _ _ _ _).mono ?_; rintro e w1 ⟨rfl, hb⟩; obtain ⟨hc, hf⟩ := bcell hb; have hbl : Below w.heap.size w w1 := Below.via (by go_grown) (by go_size) hb; have hz : w.heap.size + 1 < w1.heap.size := by have := hb.size; simp at this; omega)
    | (go_at_call 31; refine (refwithin_any _ _ _ _).mono ?_; rintro e w' ⟨rfl, rfl⟩))
  all_goals go_ret
  all_goals refine ⟨ret_int ?_, by go_grown⟩
  all_goals unfold chk2
  all_goals split
  all_goals rename_i hk
  all_goals rw [K.out] at hk
  all_goals have c2 := C2.out
  all_goals simp_all
  all_goals omega

set_option maxHeartbeats 400000 in
theorem after_bad (r f t g p lo hi n : Int) (w : World) (T : Value) (h : ¬ okAll r f t g p lo hi n = true) :
    Calls Try.prog 32 #[.agg #[.int .i64 r, .int .i64 f, .int .i64 t, .int .i64 g, .int .i64 p], .agg #[.int .i64 lo, .int .i64 hi], .int .i64 n, T] w fun e w' => e = .returned (.tuple #[.agg #[.int .i64 0, .int .i64 0], .int .i64 3]) ∧ Below w.heap.size w w' := by
  have C := Lib.hid (chk2_no h)
  clear h
  go_enter Try.func32, Try.ntmps32
  go_wp2_with fail
  refine (check2_any _ _ _ _ _ _ _ _ _).mono ?_
  rw [C.out]
  rintro e w1 ⟨rfl, hb⟩
  obtain ⟨hc, hf⟩ := bcell hb
  have hbl : Below w.heap.size w w1 := Below.via (by go_grown) (by go_size) hb
  have hz : w.heap.size + 2 < w1.heap.size := by have := hb.size; simp at this; omega
  go_wp2
  exact bodyPost_ret (v := .tuple #[.agg #[.int .i64 0, .int .i64 0], .int .i64 3]) (by simp [results, Try.results32, go_sem, hc]) rfl ⟨rfl, by go_grown⟩

theorem succ_mul_int (k : Nat) (r : Int) : ((k + 1 : Nat) : Int) * r = k * r + r := by rw [Int.natCast_add, Int.add_mul]; simp
theorem agg2 {a b c d : Int} (h1 : a = c) (h2 : b = d) : Ending.returned (.agg #[.int .i64 a, .int .i64 b]) = .returned (.agg #[.int .i64 c, .int .i64 d]) := by rw [h1, h2]
set_option maxHeartbeats 400000 in
theorem tick_run (x y r t : Int) (b : Nat) (w : World) (x0 : 0 ≤ x) (x1 : x ≤ 1000) (y0 : 0 ≤ y) (y1 : y ≤ 1000) (r0 : 0 ≤ r) (r1 : r ≤ 1000) (hg : b < w.heap.size)
    (hc0 : w.cell? ⟨b, 0, none⟩ = some (.int .i64 r)) (hc2 : w.cell? ⟨b, 2, none⟩ = some (.int .i64 t)) :
    Calls Try.prog 33 #[.agg #[.int .i64 x, .int .i64 y], .pointer (some ⟨b, 0, none⟩)] w fun e w' => e = .returned (.agg #[.int .i64 (min (x + 1) t), .int .i64 (min (y + r) t)]) ∧ Below w.heap.size w w' := by
  go_enter Try.func33, Try.ntmps33
  go_wp2
  all_goals refine bodyPost_ret (v := .agg #[.int .i64 _, .int .i64 _]) (by simp [results, Try.results33, go_sem]; exact ⟨rfl, rfl⟩) rfl ⟨agg2 ?_ ?_, by go_grown⟩
  all_goals omega
set_option maxHeartbeats 400000 in
theorem tick_rest (x y f : Int) (b : Nat) (w : World) (x0 : 0 ≤ x) (x1 : x ≤ 1000) (f0 : 0 ≤ f) (f1 : f ≤ 1000) (hg : b < w.heap.size)
    (hc0 : w.cell? ⟨b, 1, none⟩ = some (.int .i64 f)) :
    Calls Try.prog 35 #[.agg #[.int .i64 x, .int .i64 y], .pointer (some ⟨b, 0, none⟩)] w fun e w' => e = .returned (.agg #[.int .i64 (max (x - f) 0), .int .i64 y]) ∧ Below w.heap.size w w' := by
  go_enter Try.func35, Try.ntmps35
  go_wp2
  all_goals refine bodyPost_ret (v := .agg #[.int .i64 _, .int .i64 _]) (by simp [results, Try.results35, go_sem]; exact ⟨rfl, rfl⟩) rfl ⟨agg2 ?_ ?_, by go_grown⟩
  all_goals omega

set_option maxHeartbeats 1000000 in
theorem after_run (r f t g p lo hi : Int) (n : Nat) (w : World) (b : Nat) (h : okAll r f t g p lo hi n = true) (hg : b < w.heap.size)
    (hc0 : w.cell? ⟨b, 0, none⟩ = some (.int .i64 r)) (hc2 : w.cell? ⟨b, 2, none⟩ = some (.int .i64 t)) :
    Calls Try.prog 32 #[.agg #[.int .i64 r, .int .i64 f, .int .i64 t, .int .i64 g, .int .i64 p], .agg #[.int .i64 lo, .int .i64 hi], .int .i64 n, .func (.func 33) #[] #[.pointer (some ⟨b, 0, none⟩)]] w
      fun e w' => e = .returned (.tuple #[.agg #[.int .i64 (min (lo + n) t), .int .i64 (min (hi + n * r) t)], .int .i64 0]) ∧ Below w.heap.size w w' := by
  have C := Lib.hid (chk2_yes h)
  rw [okAll_iff, okH_iff] at h
  obtain ⟨⟨a1, a2, a3, a4, a5, a6, a7, a8, a9, a10⟩, b1, b2, b3, b4, b5⟩ := h
  go_enter Try.func32, Try.ntmps32
  go_wp2_with fail
  refine (check2_any _ _ _ _ _ _ _ _ _).mono ?_
  rw [C.out]
  rintro e w1 ⟨rfl, hb⟩
  have hbl : Below w.heap.size w w1 := Below.via (by go_grown) (by go_size) hb
  obtain ⟨hc, hf⟩ := bcell hb
  have hz : w.heap.size + 2 < w1.heap.size := by have := hb.size; simp at this; omega
  have hr0 : w1.cell? ⟨w.heap.size + 1 + 1, 0, none⟩ = some (.int .i64 0) := by simp [hc, go_sem]
  have hr1 : w1.cell? ⟨w.heap.size + 1 + 1, 1, none⟩ = some (.int .i64 0) := by simp [hc, go_sem]
  have hv0 : w1.cell? ⟨w.heap.size + 1, 0, none⟩ = some (.int .i64 lo) := by simp [hc, go_sem]
  have hv1 : w1.cell? ⟨w.heap.size + 1, 1, none⟩ = some (.int .i64 hi) := by simp [hc, go_sem]
  have hz0 : w1.frozen? ⟨w.heap.size + 1, 0, none⟩ = false := by simp [hf, go_sem]
  have hz1 : w1.frozen? ⟨w.heap.size + 1, 1, none⟩ = false := by simp [hf, go_sem]
  have hz2 : w1.frozen? ⟨w.heap.size + 1 + 1, 0, none⟩ = false := by simp [hf, go_sem]
  have hz3 : w1.frozen? ⟨w.heap.size + 1 + 1, 1, none⟩ = false := by simp [hf, go_sem]
  have hcb0 := (hbl.cell (p := ⟨b, 0, none⟩) hg).trans hc0
  have hcb2 := (hbl.cell (p := ⟨b, 2, none⟩) hg).trans hc2
  clear hc hf hb
  go_wp2
  go_loopw [21] (fun i wr => ∃ (k : Nat) (x y : Int), k ≤ n ∧ i = .int .i64 k ∧ Hid (x = min (lo + k) t) ∧ Hid (y = min (hi + k * r) t) ∧ 0 ≤ x ∧ x ≤ t ∧ 0 ≤ y ∧ y ≤ t ∧
      wr.cell? ⟨w.heap.size + 1, 0, none⟩ = some (.int .i64 x) ∧ wr.cell? ⟨w.heap.size + 1, 1, none⟩ = some (.int .i64 y) ∧
      wr.frozen? ⟨w.heap.size + 1, 0, none⟩ = false ∧ wr.frozen? ⟨w.heap.size + 1, 1, none⟩ = false ∧ 
      wr.cell? ⟨w.heap.size + 1 + 1, 0, none⟩ = some (.int .i64 0) ∧ wr.cell? ⟨w.heap.size + 1 + 1, 1, none⟩ = some (.int .i64 0) ∧
      wr.frozen? ⟨w.heap.size + 1 + 1, 0, none⟩ = false ∧ wr.frozen? ⟨w.heap.size + 1 + 1, 1, none⟩ = false ∧
      wr.cell? ⟨b, 0, none⟩ = some (.int .i64 r) ∧ wr.cell? ⟨b, 2, none⟩ = some (.int .i64 t) ∧ w.heap.size + 2 < wr.heap.size ∧ Below w.heap.size w wr) (fun i _ => n - (intOf i).toNat)
  case atStart => exact ⟨0, lo, hi, by omega, rfl, by unfold Hid; omega, by unfold Hid; simp; omega, by omega, by omega, by omega, by omega, hv0, hv1, hz0, hz1, hr0, hr1, hz2, hz3, hcb0, hcb2, hz, hbl⟩
  case round =>
    clear hv0 hv1 hz0 hz1 hr0 hr1 hz2 hz3 hcb0 hcb2 hz hbl hc0 hc2
    obtain ⟨k, x, y, hk, rfl, hx, hy, x0, x1, y0, y1, hv0, hv1, hz0, hz1, hr0, hr1, hz2, hz3, hcb0, hcb2, hz, hbl⟩ := hrel
    have hbw : b < wr.heap.size := by omega
    have hs1 : w.heap.size + 1 < wr.heap.size := by omega
    by_cases hlt : k < n
    · go_wp2_with fail
      refine (tick_run x y r t b _ (by omega) (by omega) (by omega) (by omega) (by omega) (by omega) (by omega) hcb0 hcb2).mono ?_
      rintro e w2 ⟨rfl, hb2⟩
      obtain ⟨u, hu⟩ : ∃ u, u = min (x + 1) t := ⟨_, rfl⟩
      obtain ⟨v, hv⟩ : ∃ v, v = min (y + r) t := ⟨_, rfl⟩
      rw [← hu, ← hv]
      have u0 : 0 ≤ u := by omega
      have u1 : u ≤ t := by omega
      have v0 : 0 ≤ v := by omega
      have v1 : v ≤ t := by omega
      have hu' : Hid (u = min (lo + (k + 1 : Nat)) t) := by unfold Hid; have := hx.out; omega
      have hv' : Hid (v = min (hi + (k + 1 : Nat) * r) t) := by unfold Hid; have := hy.out; rw [succ_mul_int]; omega
      have HU := Lib.hid hu
      have HV := Lib.hid hv
      clear hu hv
      obtain ⟨hc, hf⟩ := bcell hb2
      have hbl2 : Below w.heap.size w w2 := Below.via hbl (by omega) hb2
      have hsz : wr.heap.size ≤ w2.heap.size := hb2.size
      have hs2 : w.heap.size + 1 < w2.heap.size := by omega
      have hs3 : w.heap.size + 1 + 1 < w2.heap.size := by omega
      rcases (show (u = x ∧ v = y) ∨ (u = x ∧ ¬ v = y) ∨ ¬ u = x from by omega) with ⟨rfl, rfl⟩ | ⟨rfl, hvy⟩ | hux
      · have ex : u = t := by have := HU.out; omega
        have ey : v = t := by have := HV.out; omega
        have hkr : (k : Int) * r ≤ n * r := Int.mul_le_mul_of_nonneg_right (by omega) (by omega)
        have fx : Hid (u = min (lo + n) t) := by unfold Hid; have := hx.out; omega
        have fy : Hid (v = min (hi + n * r) t) := by unfold Hid; have := hy.out; omega
        clear ex ey hkr
        have q0 := (hc _ _ (by omega)).trans hr0
        have q1 := (hc _ _ (by omega)).trans hr1
        go_wp2
        exact bodyPost_ret (v := .tuple #[.agg #[.int .i64 u, .int .i64 v], .int .i64 0]) (by simp [results, Try.results32, go_sem, q0, q1, hs3]) rfl ⟨by rw [← fx.out, ← fy.out], by go_grown⟩
      all_goals
        have p0 := (hc _ _ (by omega)).trans hv0
        have p1 := (hc _ _ (by omega)).trans hv1
        have p2 := (hf _ _ (by omega)).trans hz0
        have p3 := (hf _ _ (by omega)).trans hz1
        have q0 := (hc _ _ (by omega)).trans hr0
        have q1 := (hc _ _ (by omega)).trans hr1
        have q2 := (hf _ _ (by omega)).trans hz2
        have q3 := (hf _ _ (by omega)).trans hz3
        have d0 := (hc _ _ hbw).trans hcb0
        have d2 := (hc _ _ hbw).trans hcb2
        have hbw2 : b < w2.heap.size := by omega
        clear hc hf
        go_wp2
        go_roundw
        case rel =>
          refine ⟨k + 1, u, v, by omega, by go_num, hu', hv', u0, u1, v0, v1, ?_, ?_, ?_, ?_, ?_, ?_, ?_, ?_, ?_, ?_, ?_, ?_⟩
          · simp [go_sem, p0, hs2]
          · simp [go_sem, p1, hs2]
          · simp [go_sem, p2, hs2]
          · simp [go_sem, p3, hs2]
          · simp [go_sem, q0, hs3]
          · simp [go_sem, q1, hs3]
          · simp [go_sem, q2, hs3]
          · simp [go_sem, q3, hs3]
          · simp [go_sem, d0, hbw2]
          · simp [go_sem, d2, hbw2]
          · simp [go_sem]; omega
          · go_grown
        case measure => simp [intOf]; omega
    · have e : k = n := by omega
      have hx' : Hid (x = min (lo + n) t) := by rw [← e]; exact hx
      have hy' : Hid (y = min (hi + n * r) t) := by rw [← e]; exact hy
      clear e
      go_wp2
      exact bodyPost_ret (v := .tuple #[.agg #[.int .i64 x, .int .i64 y], .int .i64 0]) (by simp [results, Try.results32, go_sem, hr0, hr1]) rfl ⟨by rw [← hx'.out, ← hy'.out], by go_grown⟩

set_option maxHeartbeats 1000000 in
theorem after_rest (r f t g p lo hi : Int) (n : Nat) (w : World) (b : Nat) (h : okAll r f t g p lo hi n = true) (hg : b < w.heap.size)
    (hc1 : w.cell? ⟨b, 1, none⟩ = some (.int .i64 f)) :
    Calls Try.prog 32 #[.agg #[.int .i64 r, .int .i64 f, .int .i64 t, .int .i64 g, .int .i64 p], .agg #[.int .i64 lo, .int .i64 hi], .int .i64 n, .func (.func 35) #[] #[.pointer (some ⟨b, 0, none⟩)]] w
      fun e w' => e = .returned (.tuple #[.agg #[.int .i64 (max (lo - n * f) 0), .int .i64 hi], .int .i64 0]) ∧ Below w.heap.size w w' := by
  have C := Lib.hid (chk2_yes h)
  rw [okAll_iff, okH_iff] at h
  obtain ⟨⟨a1, a2, a3, a4, a5, a6, a7, a8, a9, a10⟩, b1, b2, b3, b4, b5⟩ := h
  go_enter Try.func32, Try.ntmps32
  go_wp2_with fail
  refine (check2_any _ _ _ _ _ _ _ _ _).mono ?_
  rw [C.out]
  rintro e w1 ⟨rfl, hb⟩
  have hbl : Below w.heap.size w w1 := Below.via (by go_grown) (by go_size) hb
  obtain ⟨hc, hf⟩ := bcell hb
  have hz : w.heap.size + 2 < w1.heap.size := by have := hb.size; simp at this; omega
  have hr0 : w1.cell? ⟨w.heap.size + 1 + 1, 0, none⟩ = some (.int .i64 0) := by simp [hc, go_sem]
  have hr1 : w1.cell? ⟨w.heap.size + 1 + 1, 1, none⟩ = some (.int .i64 0) := by simp [hc, go_sem]
  have hv0 : w1.cell? ⟨w.heap.size + 1, 0, none⟩ = some (.int .i64 lo) := by simp [hc, go_sem]
  have hv1 : w1.cell? ⟨w.heap.size + 1, 1, none⟩ = some (.int .i64 hi) := by simp [hc, go_sem]
  have hz0 : w1.frozen? ⟨w.heap.size + 1, 0, none⟩ = false := by simp [hf, go_sem]
  have hz1 : w1.frozen? ⟨w.heap.size + 1, 1, none⟩ = false := by simp [hf, go_sem]
  have hz2 : w1.frozen? ⟨w.heap.size + 1 + 1, 0, none⟩ = false := by simp [hf, go_sem]
  have hz3 : w1.frozen? ⟨w.heap.size + 1 + 1, 1, none⟩ = false := by simp [hf, go_sem]
  have hcb0 := (hbl.cell (p := ⟨b, 1, none⟩) hg).trans hc1
  clear hc hf hb
  go_wp2
  go_loopw [21] (fun i wr => ∃ (k : Nat) (x y : Int), k ≤ n ∧ i = .int .i64 k ∧ Hid (x = max (lo - k * f) 0) ∧ Hid (y = hi) ∧ 0 ≤ x ∧ x ≤ t ∧ 0 ≤ y ∧ y ≤ t ∧
      wr.cell? ⟨w.heap.size + 1, 0, none⟩ = some (.int .i64 x) ∧ wr.cell? ⟨w.heap.size + 1, 1, none⟩ = some (.int .i64 y) ∧
      wr.frozen? ⟨w.heap.size + 1, 0, none⟩ = false ∧ wr.frozen? ⟨w.heap.size + 1, 1, none⟩ = false ∧ 
      wr.cell? ⟨w.heap.size + 1 + 1, 0, none⟩ = some (.int .i64 0) ∧ wr.cell? ⟨w.heap.size + 1 + 1, 1, none⟩ = some (.int .i64 0) ∧
      wr.frozen? ⟨w.heap.size + 1 + 1, 0, none⟩ = false ∧ wr.frozen? ⟨w.heap.size + 1 + 1, 1, none⟩ = false ∧
      wr.cell? ⟨b, 1, none⟩ = some (.int .i64 f) ∧ w.heap.size + 2 < wr.heap.size ∧ Below w.heap.size w wr) (fun i _ => n - (intOf i).toNat)
  case atStart => exact ⟨0, lo, hi, by omega, rfl, by unfold Hid; simp; omega, rfl, by omega, by omega, by omega, by omega, hv0, hv1, hz0, hz1, hr0, hr1, hz2, hz3, hcb0, hz, hbl⟩
  case round =>
    clear hv0 hv1 hz0 hz1 hr0 hr1 hz2 hz3 hcb0 hz hbl hc1
    obtain ⟨k, x, y, hk, rfl, hx, hy, x0, x1, y0, y1, hv0, hv1, hz0, hz1, hr0, hr1, hz2, hz3, hcb0, hz, hbl⟩ := hrel
    have hbw : b < wr.heap.size := by omega
    have hs1 : w.heap.size + 1 < wr.heap.size := by omega
    by_cases hlt : k < n
    · go_wp2_with fail
      refine (tick_rest x y f b _ (by omega) (by omega) (by omega) (by omega) (by omega) hcb0).mono ?_
      rintro e w2 ⟨rfl, hb2⟩
      obtain ⟨u, hu⟩ : ∃ u, u = max (x - f) 0 := ⟨_, rfl⟩
      obtain ⟨v, hv⟩ : ∃ v, v = y := ⟨_, rfl⟩
      rw [← hu, ← hv]
      have u0 : 0 ≤ u := by omega
      have u1 : u ≤ t := by omega
      have v0 : 0 ≤ v := by omega
      have v1 : v ≤ t := by omega
      have hu' : Hid (u = max (lo - (k + 1 : Nat) * f) 0) := by unfold Hid; have := hx.out; rw [succ_mul_int]; omega
      have hv' : Hid (v = hi) := by unfold Hid; have := hy.out; omega
      have HU := Lib.hid hu
      have HV := Lib.hid hv
      clear hu hv
      obtain ⟨hc, hf⟩ := bcell hb2
      have hbl2 : Below w.heap.size w w2 := Below.via hbl (by omega) hb2
      have hsz : wr.heap.size ≤ w2.heap.size := hb2.size
      have hs2 : w.heap.size + 1 < w2.heap.size := by omega
      have hs3 : w.heap.size + 1 + 1 < w2.heap.size := by omega
      rcases (show (u = x ∧ v = y) ∨ (u = x ∧ ¬ v = y) ∨ ¬ u = x from by omega) with ⟨rfl, rfl⟩ | ⟨rfl, hvy⟩ | hux
      · have hkr : (k : Int) * f ≤ n * f := Int.mul_le_mul_of_nonneg_right (by omega) (by omega)
        have hk0 : f = 0 → (n : Int) * f = 0 := fun h => by rw [h]; simp
        have hk1 : f = 0 → (k : Int) * f = 0 := fun h => by rw [h]; simp
        have fx : Hid (u = max (lo - n * f) 0) := by unfold Hid; have := hx.out; have := HU.out; by_cases e : f = 0; have := hk0 e; have := hk1 e; omega; omega
        have fy : Hid (v = hi) := hy
        clear hkr hk0 hk1
        have q0 := (hc _ _ (by omega)).trans hr0
        have q1 := (hc _ _ (by omega)).trans hr1
        go_wp2
        exact bodyPost_ret (v := .tuple #[.agg #[.int .i64 u, .int .i64 v], .int .i64 0]) (by simp [results, Try.results32, go_sem, q0, q1, hs3]) rfl ⟨by rw [← fx.out, ← fy.out], by go_grown⟩
      all_goals
        have p0 := (hc _ _ (by omega)).trans hv0
        have p1 := (hc _ _ (by omega)).trans hv1
        have p2 := (hf _ _ (by omega)).trans hz0
        have p3 := (hf _ _ (by omega)).trans hz1
        have q0 := (hc _ _ (by omega)).trans hr0
        have q1 := (hc _ _ (by omega)).trans hr1
        have q2 := (hf _ _ (by omega)).trans hz2
        have q3 := (hf _ _ (by omega)).trans hz3
        have d0 := (hc _ _ hbw).trans hcb0
        have hbw2 : b < w2.heap.size := by omega
        clear hc hf
        go_wp2
        go_roundw
        case rel =>
          refine ⟨k + 1, u, v, by omega, by go_num, hu', hv', u0, u1, v0, v1, ?_, ?_, ?_, ?_, ?_, ?_, ?_, ?_, ?_, ?_, ?_⟩
          · simp [go_sem, p0, hs2]
          · simp [go_sem, p1, hs2]
          · simp [go_sem, p2, hs2]
          · simp [go_sem, p3, hs2]
          · simp [go_sem, q0, hs3]
          · simp [go_sem, q1, hs3]
          · simp [go_sem, q2, hs3]
          · simp [go_sem, q3, hs3]
          · simp [go_sem, d0, hbw2]
          · simp [go_sem]; omega
          · go_grown
        case measure => simp [intOf]; omega
    · have e : k = n := by omega
      have hx' : Hid (x = max (lo - n * f) 0) := by rw [← e]; exact hx
      have hy' : Hid (y = hi) := hy
      clear e
      go_wp2
      exact bodyPost_ret (v := .tuple #[.agg #[.int .i64 x, .int .i64 y], .int .i64 0]) (by simp [results, Try.results32, go_sem, hr0, hr1]) rfl ⟨by rw [← hx'.out, ← hy'.out], by go_grown⟩

end Go.Proofs.Ytdiidinbgnjjmaa
