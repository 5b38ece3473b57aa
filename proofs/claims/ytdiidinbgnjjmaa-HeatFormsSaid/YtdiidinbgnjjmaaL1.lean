/-
  HeatGrows: the walk of the law over the contracts.
-/
import Derived.Test.YtdiidinbgnjjmaaW8
import Derived.Test.YtdiidinbgnjjmaaW9
namespace Go.Proofs.Ytdiidinbgnjjmaa
open Go.RowKit

/-- A heat in block b and a temperature in the next one; nothing older has turned. -/
def Mem2 (w : World) (b : Nat) (r f t g p x y : Int) (W : World) : Prop :=
  W.cell? ⟨b, 0, none⟩ = some (.int .i64 r) ∧ W.cell? ⟨b, 1, none⟩ = some (.int .i64 f) ∧ W.cell? ⟨b, 2, none⟩ = some (.int .i64 t) ∧ W.cell? ⟨b, 3, none⟩ = some (.int .i64 g) ∧ W.cell? ⟨b, 4, none⟩ = some (.int .i64 p) ∧
    W.cell? ⟨b + 1, 0, none⟩ = some (.int .i64 x) ∧ W.cell? ⟨b + 1, 1, none⟩ = some (.int .i64 y) ∧ b < W.heap.size ∧ b + 1 < W.heap.size ∧ w.heap.size ≤ W.heap.size ∧ Below w.heap.size w W
theorem Mem2.below {w W W1 : World} {b : Nat} {r f t g p x y : Int} (h : Mem2 w b r f t g p x y W) (hb : Below W.heap.size W W1) : Mem2 w b r f t g p x y W1 := by
  obtain ⟨h0, h1, h2, h3, h4, h5, h6, hg, hg1, hz, hB⟩ := h
  have k : ∀ i, W1.cell? ⟨b, i, none⟩ = W.cell? ⟨b, i, none⟩ := fun i => hb.cell (p := ⟨b, i, none⟩) hg
  have k1 : ∀ i, W1.cell? ⟨b + 1, i, none⟩ = W.cell? ⟨b + 1, i, none⟩ := fun i => hb.cell (p := ⟨b + 1, i, none⟩) hg1
  exact ⟨by rw [k, h0], by rw [k, h1], by rw [k, h2], by rw [k, h3], by rw [k, h4], by rw [k1, h5], by rw [k1, h6], Nat.lt_of_lt_of_le hg hb.size, Nat.lt_of_lt_of_le hg1 hb.size, Nat.le_trans hz hb.size, Below.via hB hz hb⟩
theorem Mem2.alloc {w W : World} {b : Nat} {r f t g p x y : Int} (h : Mem2 w b r f t g p x y W) (o : Obj) : Mem2 w b r f t g p x y (W.alloc o) := h.below ((Below.refl _ _).alloc (Nat.le_refl _) o)
theorem Mem2.new {w W : World} (hB : Below w.heap.size w W) (hz : w.heap.size ≤ W.heap.size) (r f t g p x y : Int) :
    Mem2 w W.heap.size r f t g p x y ((W.alloc (.cells #[.int .i64 r, .int .i64 f, .int .i64 t, .int .i64 g, .int .i64 p] 27)).alloc (.cells #[.int .i64 x, .int .i64 y] 29)) := by
  refine ⟨?_, ?_, ?_, ?_, ?_, ?_, ?_, ?_, ?_, ?_, ?_⟩ <;> first | (simp [go_sem]; done) | (simp; omega) | skip
  exact (hB.alloc hz _).alloc (by simp; omega) _

theorem okAll_made {r f t g p x y : Int} (h : 1 ≤ r ∧ r ≤ 4 ∧ 0 ≤ f ∧ f ≤ 3 ∧ (t = 0 ∨ t = 3 ∨ t = 10 ∨ t = 20) ∧ 0 ≤ g ∧ g ≤ 3 ∧ 1 ≤ p ∧ p ≤ 8) (k : 0 ≤ x ∧ x ≤ y ∧ y ≤ t) (n : Int) (h0 : 0 ≤ n) (h1 : n ≤ 10000) : okAll r f t g p x y n = true := by
  rw [okAll_iff, okH_iff]; omega

/-- What Growth returns is exact up to 1. -/
theorem growth_exact {r f t g p x y : Int} (h : okAll r f t g p x y 0 = true) :
    growLo r f t g p x y * p ≤ g * x ∧ g * x < (growLo r f t g p x y + 1) * p ∧ (growLo r f t g p x y + 1) * p ≤ g * x + p ∧ g * y ≤ growHi r f t g p x y * p ∧ growHi r f t g p x y * p ≤ g * y + p ∧
    (growHi r f t g p x y - 1) * p < g * y ∧ g * y - p ≤ (growHi r f t g p x y - 1) * p ∧ 0 ≤ growLo r f t g p x y ∧ growLo r f t g p x y ≤ growHi r f t g p x y ∧ growHi r f t g p x y ≤ 1000000 ∧ 0 ≤ growLo r f t g p x y * p := by
  have h0 := h
  rw [okAll_iff, okH_iff] at h
  obtain ⟨⟨a1, a2, a3, a4, a5, a6, a7, a8, a9, a10⟩, b1, b2, b3, b4, b5⟩ := h
  obtain ⟨m1, m2⟩ := mul_bounds (b := x) a9 a10 b1 (by omega)
  obtain ⟨m3, m4⟩ := mul_bounds (b := y) a9 a10 (by omega) (by omega)
  have hxy : g * x ≤ g * y := Int.mul_le_mul_of_nonneg_left b2 a9
  unfold growLo growHi
  simp only [if_pos h0]
  have d1 := Int.emod_add_mul_ediv (g * x) p
  have d2 := Int.emod_nonneg (g * x) (show p ≠ 0 by omega)
  have d3 := Int.emod_lt_of_pos (g * x) (show 0 < p by omega)
  have e1 := Int.emod_add_mul_ediv (g * y + p - 1) p
  have e2 := Int.emod_nonneg (g * y + p - 1) (show p ≠ 0 by omega)
  have e3 := Int.emod_lt_of_pos (g * y + p - 1) (show 0 < p by omega)
  have f0 : 0 ≤ g * x / p := Int.ediv_nonneg m1 (by omega)
  have f1 : g * x / p ≤ (g * y + p - 1) / p := Int.ediv_le_ediv (by omega) (by omega)
  have f2 : (g * y + p - 1) / p ≤ g * y := by
    by_cases hlt : 0 < g * y
    · refine Int.le_of_lt_add_one ((Int.ediv_lt_iff_lt_mul (by omega)).2 ?_)
      have : g * y * 1 ≤ g * y * p := Int.mul_le_mul_of_nonneg_left a3 m3
      rw [Int.add_mul]; omega
    · have hy0 : g * y = 0 := by omega
      rw [hy0, Int.ediv_eq_zero_of_lt (by omega) (by omega)]
      omega
  generalize g * x / p = a at *
  generalize (g * y + p - 1) / p = b at *
  rw [Int.mul_comm p] at d1 e1
  rw [Int.add_mul, Int.sub_mul]
  have hap : 0 ≤ a * p := Int.mul_nonneg f0 (by omega)
  refine ⟨?_, ?_, ?_, ?_, ?_, ?_, ?_, ?_, ?_, ?_, ?_⟩ <;> omega

theorem growth_mono {r f t g p x y u v : Int} (h : okAll r f t g p x y 0 = true) (k : okAll r f t g p u v 0 = true) :
    (x ≤ u → growLo r f t g p x y ≤ growLo r f t g p u v) ∧ (y ≤ v → growHi r f t g p x y ≤ growHi r f t g p u v) := by
  have h0 := h
  rw [okAll_iff, okH_iff] at h
  obtain ⟨⟨a1, a2, a3, a4, a5, a6, a7, a8, a9, a10⟩, b1, b2, b3, b4, b5⟩ := h
  unfold growLo growHi
  simp only [if_pos h0, if_pos k]
  refine ⟨fun hh => Int.ediv_le_ediv (by omega) (Int.mul_le_mul_of_nonneg_left hh a9), fun hh => Int.ediv_le_ediv (by omega) ?_⟩
  have := Int.mul_le_mul_of_nonneg_left hh a9
  omega

theorem growth_cold {r f t g p : Int} (h : okAll r f t g p 0 0 0 = true) : growLo r f t g p 0 0 = 0 ∧ growHi r f t g p 0 0 = 0 := by
  have h0 := h
  rw [okAll_iff, okH_iff] at h
  unfold growLo growHi
  simp only [if_pos h0, Int.mul_zero]
  exact ⟨by simp, Int.ediv_eq_zero_of_lt (by omega) (by omega)⟩

set_option maxRecDepth 100000 in
set_option maxHeartbeats 2000000 in
theorem heatGrows_walk (A : Option Addr) (n c : Nat) (zs : List Int) (lo0 more0 lo more : Int) (w : World) (hr : Reads w w.heap.size 1 A n (zs.map (Value.int .i64))) (hn : n ≤ c) (hm : c ≤ 9223372036854775807) :
    Calls Try.prog 7 #[.agg #[.slice A n c, .int .i64 lo0, .int .i64 more0], .int .i64 lo, .int .i64 more] w fun e w' => e = .returned (.bool true) ∧ Below w.heap.size w w' := by
  have HR := Lib.hid hr
  clear hr
  go_enter Try.func7, Try.ntmps7
  go_wp2_with fail
  refine (sanity_any _).mono ?_
  rintro e w1 ⟨rfl, hb⟩
  obtain ⟨hc, hf⟩ := bcell hb
  have hbl : Below w.heap.size w w1 := Below.via (by go_grown) (by go_size) hb
  have hz : w.heap.size < w1.heap.size := by have := hb.size; simp at this; omega
  have HR1 := Lib.hid (HR.out.below hbl)
  go_wp2_with fail
  refine (case_any A n c zs lo0 more0 w1 (HR1.out.more (by omega)) hn hm).mono ?_
  rintro e w2 ⟨r, f, t, g, p, x, y, rfl, hv, hw, hb2⟩
  have hbl2 : Below w.heap.size w w2 := Below.via hbl (by omega) hb2
  have hz2 : w.heap.size ≤ w2.heap.size := Nat.le_trans (by omega) hb2.size
  have M := Mem2.new hbl2 hz2 r f t g p x y
  clear hc hf hb hbl hz HR HR1 hb2
  have K1 := okAll_made hv hw 0 (by omega) (by omega)
  have K3 := okAll_made (x := 0) (y := 0) hv (by omega) 0 (by omega) (by omega)
  have e1 := Lib.hid (chk2_yes K1)
  have e3 := Lib.hid (chk2_yes K3)
  have e4 := Lib.hid (growth_cold K3)
  go_wp2_with fail
  refine (Warm_any _ _ _ _ _ _ _ _ (by omega) (by omega)).mono ?_
  rintro e w3 ⟨u, v, rfl, u0, uv, vt, hb3⟩
  have M3 := M.below hb3
  have K2 := okAll_made (x := u) (y := v) hv (by omega) 0 (by omega) (by omega)
  have e2 := Lib.hid (chk2_yes K2)
  obtain ⟨g1, g2, g3, g4, g5, g6, g7, g8, g9, g10, g11⟩ := growth_exact K1
  obtain ⟨k1, k2, k3, k4, k5, k6, k7, k8, k9, k10, k11⟩ := growth_exact K2
  obtain ⟨m1, m2⟩ := growth_mono K1 K2
  have A1 := mul_bounds (a := g) (b := x) (m := 3) (by omega) (by omega) (by omega) (by omega)
  have A2 := mul_bounds (a := g) (b := y) (m := 3) (by omega) (by omega) (by omega) (by omega)
  obtain ⟨A1, A1'⟩ := A1
  obtain ⟨A2, A2'⟩ := A2
  obtain ⟨ga, hga⟩ : ∃ z, growLo r f t g p x y = z := ⟨_, rfl⟩
  obtain ⟨gb, hgb⟩ : ∃ z, growHi r f t g p x y = z := ⟨_, rfl⟩
  obtain ⟨gd, hgd⟩ : ∃ z, growLo r f t g p u v = z := ⟨_, rfl⟩
  obtain ⟨ge, hge⟩ : ∃ z, growHi r f t g p u v = z := ⟨_, rfl⟩
  simp only [hga, hgb] at g1 g2 g3 g4 g5 g6 g7 g8 g9 g10 g11
  simp only [hga, hgd] at m1
  simp only [hgb, hge] at m2
  have Ga := Lib.hid hga
  have Gb := Lib.hid hgb
  have Gd := Lib.hid hgd
  have Ge := Lib.hid hge
  clear hga hgb hgd hge M K1 K2 K3 hb3 k1 k2 k3 k4 k5 k6 k7 k8 k9 k10 k11
  obtain ⟨c0, c1, c2, c3, c4, c5, c6, z1, z2, z3, B3⟩ := M3
  go_wp2_with fail
  refine (growth_any _ _ _ _ _ _ _ _).mono ?_
  rw [Ga.out, Gb.out, e1.out]
  rintro e w4 ⟨rfl, hb4⟩
  have M4 : Mem2 w w2.heap.size r f t g p x y w4 := Mem2.below (Mem2.alloc ⟨c0, c1, c2, c3, c4, c5, c6, z1, z2, z3, B3⟩ _) hb4
  have d0 : w4.cell? ⟨w3.heap.size, 0, none⟩ = some (.int .i64 u) := (hb4.cell (p := ⟨w3.heap.size, 0, none⟩) (by simp)).trans (by simp [go_sem])
  have d1 : w4.cell? ⟨w3.heap.size, 1, none⟩ = some (.int .i64 v) := (hb4.cell (p := ⟨w3.heap.size, 1, none⟩) (by simp)).trans (by simp [go_sem])
  have y4 : w3.heap.size < w4.heap.size := by have := hb4.size; simp at this; omega
  clear c0 c1 c2 c3 c4 c5 c6 z1 z2 z3 B3 hb4
  obtain ⟨c0, c1, c2, c3, c4, c5, c6, z1, z2, z3, B4⟩ := M4
  go_wp2_with fail
  refine (growth_any _ _ _ _ _ _ _ _).mono ?_
  rw [Gd.out, Ge.out, e2.out]
  rintro e w5 ⟨rfl, hb5⟩
  have M5 : Mem2 w w2.heap.size r f t g p x y w5 := Mem2.below ⟨c0, c1, c2, c3, c4, c5, c6, z1, z2, z3, B4⟩ hb5
  have d0' := (hb5.cell (p := ⟨w3.heap.size, 0, none⟩) y4).trans d0
  have d1' := (hb5.cell (p := ⟨w3.heap.size, 1, none⟩) y4).trans d1
  have y5 : w3.heap.size < w5.heap.size := by have := hb5.size; omega
  clear c0 c1 c2 c3 c4 c5 c6 z1 z2 z3 B4 hb5 d0 d1 y4
  obtain ⟨c0, c1, c2, c3, c4, c5, c6, z1, z2, z3, B5⟩ := M5
  go_wp2_with fail
  refine (growth_any _ _ _ _ _ _ _ _).mono ?_
  rw [e4.out.1, e4.out.2, e3.out]
  rintro e w6 ⟨rfl, hb6⟩
  have M6 : Mem2 w w2.heap.size r f t g p x y w6 := Mem2.below ⟨c0, c1, c2, c3, c4, c5, c6, z1, z2, z3, B5⟩ hb6
  have d0 := (hb6.cell (p := ⟨w3.heap.size, 0, none⟩) y5).trans d0'
  have d1 := (hb6.cell (p := ⟨w3.heap.size, 1, none⟩) y5).trans d1'
  clear c0 c1 c2 c3 c4 c5 c6 z1 z2 z3 B5 hb6 d0' d1' y5
  obtain ⟨c0, c1, c2, c3, c4, c5, c6, z1, z2, z3, B6⟩ := M6
  have M1 := Lib.hid m1
  have M2 := Lib.hid m2
  clear m1 m2
  by_cases hxu : x ≤ u
  · have q1 := M1.out hxu
    by_cases hyv : y ≤ v
    · have q2 := M2.out hyv
      go_wp2
      go_ret
      exact ⟨rfl, B6⟩
    · go_wp2
      go_ret
      exact ⟨rfl, B6⟩
  · by_cases hyv : y ≤ v
    · have q2 := M2.out hyv
      go_wp2
      go_ret
      exact ⟨rfl, B6⟩
    · go_wp2
      go_ret
      exact ⟨rfl, B6⟩
end Go.Proofs.Ytdiidinbgnjjmaa
