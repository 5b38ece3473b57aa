/-
  The contracts of Growth and Meet, and of the reference's.
-/
import Derived.Test.YtdiidinbgnjjmaaW4
namespace Go.Proofs.Ytdiidinbgnjjmaa
open Go.RowKit

theorem tup3 {a b c x y z : Int} (h1 : a = x) (h2 : b = y) (h3 : c = z) : Ending.returned (.tuple #[.int .i64 a, .int .i64 b, .int .i64 c]) = .returned (.tuple #[.int .i64 x, .int .i64 y, .int .i64 z]) := by rw [h1, h2, h3]
theorem mul_bounds {a b m : Int} (h0 : 0 ≤ a) (h1 : a ≤ m) (h2 : 0 ≤ b) (h3 : b ≤ 1000) : 0 ≤ a * b ∧ a * b ≤ m * 1000 :=
  ⟨Int.mul_nonneg h0 h2, Int.mul_le_mul h1 h3 h2 (by omega)⟩
theorem below_drewN {B : Nat} {a w : World} (h : Below B a w) (n : Nat) : Below B a (w.drewN n) := ⟨h.os, h.tape, h.output, h.size, h.block⟩

set_option maxHeartbeats 1000000 in
theorem growth_any (r f t g p lo hi : Int) (w : World) :
    Calls Try.prog 19 #[.agg #[.int .i64 r, .int .i64 f, .int .i64 t, .int .i64 g, .int .i64 p], .agg #[.int .i64 lo, .int .i64 hi]] w
      fun e w' => e = .returned (.tuple #[.int .i64 (growLo r f t g p lo hi), .int .i64 (growHi r f t g p lo hi), .int .i64 (chk2 r f t g p lo hi 0)]) ∧ Below w.heap.size w w' := by
  by_cases h : okAll r f t g p lo hi 0 = true
  · have e1 : Hid (growLo r f t g p lo hi = g * lo / p) := by unfold Hid growLo; rw [if_pos h]
    have e2 : Hid (growHi r f t g p lo hi = (g * hi + p - 1) / p) := by unfold Hid growHi; rw [if_pos h]
    have e3 : Hid (chk2 r f t g p lo hi 0 = 0) := chk2_yes h
    rw [okAll_iff, okH_iff] at h
    obtain ⟨⟨a1, a2, a3, a4, a5, a6, a7, a8, a9, a10⟩, b1, b2, b3, b4, b5⟩ := h
    obtain ⟨m1, m2⟩ := mul_bounds (b := lo) a9 a10 b1 (by omega)
    obtain ⟨m3, m4⟩ := mul_bounds (b := hi) a9 a10 (by omega) (by omega)
    have hp0 : (p == 0) = false := by simp; omega
    go_enter Try.func19, Try.ntmps19
    go_wp2_with fail
    refine (check2_any _ _ _ _ _ _ _ _ _).mono ?_
    rw [e3.out]
    rintro e w1 ⟨rfl, hb⟩
    have hbl : Below w.heap.size w w1 := Below.via (by go_grown) (by go_size) hb
    obtain ⟨hc, hf⟩ := bcell hb
    have hz : w.heap.size + 1 < w1.heap.size := by have := hb.size; simp at this; omega
    go_wp2
    go_quiet (fail)
    go_wp2
    go_ret3
    refine ⟨?_, below_drewN hbl _⟩
    rw [e1.out, e2.out, e3.out]
    rfl
  · have e1 : Hid (growLo r f t g p lo hi = 0) := by unfold Hid growLo; rw [if_neg h]
    have e2 : Hid (growHi r f t g p lo hi = 0) := by unfold Hid growHi; rw [if_neg h]
    have e3 : Hid (chk2 r f t g p lo hi 0 = 3) := chk2_no h
    clear h
    go_enter Try.func19, Try.ntmps19
    go_wp2_with fail
    refine (check2_any _ _ _ _ _ _ _ _ _).mono ?_
    rw [e3.out]
    rintro e w1 ⟨rfl, hb⟩
    have hbl : Below w.heap.size w w1 := Below.via (by go_grown) (by go_size) hb
    go_wp2
    go_ret3
    exact ⟨by rw [e1.out, e2.out, e3.out]; rfl, hbl⟩

theorem ceil_div (a p : Int) (hp : 1 ≤ p) : (a / p * p < a → a / p + 1 = (a + p - 1) / p) ∧ (a ≤ a / p * p → a / p = (a + p - 1) / p) := by
  have h1 := Int.emod_add_mul_ediv a p
  have h2 := Int.emod_nonneg a (show p ≠ 0 by omega)
  have h3 := Int.emod_lt_of_pos a (show 0 < p by omega)
  generalize a / p = q at *
  generalize a % p = m at *
  have hc : q * p = p * q := Int.mul_comm _ _
  have key : ∀ s c : Int, a + p - 1 = c + p * s → 0 ≤ c → c < p → (a + p - 1) / p = s := by
    intro s c e c0 c1
    rw [e, Int.add_mul_ediv_left _ _ (by omega), Int.ediv_eq_zero_of_lt c0 c1]; omega
  constructor
  · intro h
    exact (key (q + 1) (m - 1) (by rw [Int.mul_add]; omega) (by omega) (by omega)).symm
  · intro h
    exact (key q (m + p - 1) (by omega) (by omega) (by omega)).symm

set_option maxHeartbeats 1000000 in
theorem refgrowth_any (r f t g p lo hi : Int) (w : World) :
    Calls Try.prog 20 #[.agg #[.int .i64 r, .int .i64 f, .int .i64 t, .int .i64 g, .int .i64 p], .agg #[.int .i64 lo, .int .i64 hi]] w
      fun e w' => e = .returned (.tuple #[.int .i64 (growLo r f t g p lo hi), .int .i64 (growHi r f t g p lo hi), .int .i64 (chk2 r f t g p lo hi 0)]) ∧ Below w.heap.size w w' := by
  by_cases h : okAll r f t g p lo hi 0 = true
  · have e1 : Hid (growLo r f t g p lo hi = g * lo / p) := by unfold Hid growLo; rw [if_pos h]
    have e2 : Hid (growHi r f t g p lo hi = (g * hi + p - 1) / p) := by unfold Hid growHi; rw [if_pos h]
    have e3 : Hid (chk2 r f t g p lo hi 0 = 0) := chk2_yes h
    rw [okAll_iff, okH_iff] at h
    obtain ⟨⟨a1, a2, a3, a4, a5, a6, a7, a8, a9, a10⟩, b1, b2, b3, b4, b5⟩ := h
    obtain ⟨m1, m2⟩ := mul_bounds (b := lo) a9 a10 b1 (by omega)
    obtain ⟨m3, m4⟩ := mul_bounds (b := hi) a9 a10 (by omega) (by omega)
    have hp0 : (p == 0) = false := by simp; omega
    have hcd := Lib.hid (ceil_div (g * hi) p a3)
    have m5 : 0 ≤ g * hi / p := Int.ediv_nonneg m3 (by omega)
    have m6 : g * hi / p ≤ g * hi := Int.ediv_le_self _ m3
    have m7 : 0 ≤ g * hi / p * p := Int.mul_nonneg m5 (by omega)
    have m8 : g * hi / p * p ≤ g * hi := Int.ediv_mul_le (g * hi) (by omega)
    go_enter Try.func20, Try.ntmps20
    go_wp2_with fail
    refine (refcheck2_any _ _ _ _ _ _ _ _ _).mono ?_
    rw [e3.out]
    rintro e w1 ⟨rfl, hb⟩
    have hbl : Below w.heap.size w w1 := Below.via (by go_grown) (by go_size) hb
    obtain ⟨hc, hf⟩ := bcell hb
    have hz : w.heap.size + 1 < w1.heap.size := by have := hb.size; simp at this; omega
    by_cases hlt : g * hi / p * p < g * hi
    · have e4 := Lib.hid (hcd.out.1 hlt)
      go_wp2
      go_ret3
      exact ⟨by rw [e1.out, e2.out, e3.out, ← e4.out]; rfl, hbl⟩
    · have e4 := Lib.hid (hcd.out.2 (by omega))
      go_wp2
      go_ret3
      exact ⟨by rw [e1.out, e2.out, e3.out, ← e4.out]; rfl, hbl⟩
  · have e1 : Hid (growLo r f t g p lo hi = 0) := by unfold Hid growLo; rw [if_neg h]
    have e2 : Hid (growHi r f t g p lo hi = 0) := by unfold Hid growHi; rw [if_neg h]
    have e3 : Hid (chk2 r f t g p lo hi 0 = 3) := chk2_no h
    clear h
    go_enter Try.func20, Try.ntmps20
    go_wp2_with fail
    refine (refcheck2_any _ _ _ _ _ _ _ _ _).mono ?_
    rw [e3.out]
    rintro e w1 ⟨rfl, hb⟩
    have hbl : Below w.heap.size w w1 := Below.via (by go_grown) (by go_size) hb
    go_wp2
    go_ret3
    exact ⟨by rw [e1.out, e2.out, e3.out]; rfl, hbl⟩

set_option maxHeartbeats 400000 in
theorem meet_any (a b c d : Int) (w : World) :
    Calls Try.prog 23 #[.agg #[.int .i64 a, .int .i64 b], .agg #[.int .i64 c, .int .i64 d]] w
      fun e w' => e = .returned (.tuple #[.agg #[.int .i64 (meetLo a b c d), .int .i64 (meetHi a b c d)], .int .i64 (meetE a b c d)]) ∧ Below w.heap.size w w' := by
  have K : Hid (∀ x y e : Int, (max a c ≤ min b d → x = max a c ∧ y = min b d ∧ e = 0) → (min b d < max a c → x = 0 ∧ y = 0 ∧ e = 21) → Ending.returned (.tuple #[.agg #[.int .i64 x, .int .i64 y], .int .i64 e]) = .returned (.tuple #[.agg #[.int .i64 (meetLo a b c d), .int .i64 (meetHi a b c d)], .int .i64 (meetE a b c d)])) := by
    unfold Hid meetLo meetHi meetE
    intro x y e h1 h2
    by_cases h : max a c ≤ min b d
    · simp only [if_pos h]; obtain ⟨rfl, rfl, rfl⟩ := h1 h; rfl
    · simp only [if_neg h]; obtain ⟨rfl, rfl, rfl⟩ := h2 (by omega); rfl
  go_enter Try.func23, Try.ntmps23
  go_wp2
  all_goals refine bodyPost_ret (v := .tuple #[.agg #[.int .i64 _, .int .i64 _], .int .i64 _]) (by simp [results, Try.results23, go_sem]; exact ⟨⟨rfl, rfl⟩, rfl⟩) rfl ⟨?_, by go_grown⟩
  all_goals refine K.out _ _ _ ?_ ?_
  all_goals omega

set_option maxHeartbeats 400000 in
theorem refmeet_any (a b c d : Int) (w : World) :
    Calls Try.prog 24 #[.agg #[.int .i64 a, .int .i64 b], .agg #[.int .i64 c, .int .i64 d]] w
      fun e w' => e = .returned (.tuple #[.agg #[.int .i64 (meetLo a b c d), .int .i64 (meetHi a b c d)], .int .i64 (meetE a b c d)]) ∧ Below w.heap.size w w' := by
  have K : Hid (∀ x y e : Int, (max a c ≤ min b d → x = max a c ∧ y = min b d ∧ e = 0) → (min b d < max a c → x = 0 ∧ y = 0 ∧ e = 21) → Ending.returned (.tuple #[.agg #[.int .i64 x, .int .i64 y], .int .i64 e]) = .returned (.tuple #[.agg #[.int .i64 (meetLo a b c d), .int .i64 (meetHi a b c d)], .int .i64 (meetE a b c d)])) := by
    unfold Hid meetLo meetHi meetE
    intro x y e h1 h2
    by_cases h : max a c ≤ min b d
    · simp only [if_pos h]; obtain ⟨rfl, rfl, rfl⟩ := h1 h; rfl
    · simp only [if_neg h]; obtain ⟨rfl, rfl, rfl⟩ := h2 (by omega); rfl
  go_enter Try.func24, Try.ntmps24
  go_wp2
  all_goals refine bodyPost_ret (v := .tuple #[.agg #[.int .i64 _, .int .i64 _], .int .i64 _]) (by simp [results, Try.results24, go_sem]; exact ⟨⟨rfl, rfl⟩, rfl⟩) rfl ⟨?_, by go_grown⟩
  all_goals refine K.out _ _ _ ?_ ?_
  all_goals omega
end Go.Proofs.Ytdiidinbgnjjmaa
