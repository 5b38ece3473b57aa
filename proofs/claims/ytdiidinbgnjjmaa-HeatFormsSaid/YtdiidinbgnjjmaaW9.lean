/-
  The contracts of the case's made, and of Odd.
-/
import Derived.Test.YtdiidinbgnjjmaaW7
import Derived.Deep.DrawnRows
namespace Go.Proofs.Ytdiidinbgnjjmaa
open Go.RowKit
attribute [local go_sem ↓] Go.wp_at_zero Go.wp_at_succ

/-- What made returns: a valid heat, and a temperature that fits. -/
def CaseP (w : World) (e : Ending) (w' : World) : Prop :=
  ∃ r f t g p a b : Int, e = .returned (.tuple #[.agg #[.int .i64 r, .int .i64 f, .int .i64 t, .int .i64 g, .int .i64 p], .agg #[.int .i64 a, .int .i64 b]]) ∧
    (1 ≤ r ∧ r ≤ 4 ∧ 0 ≤ f ∧ f ≤ 3 ∧ (t = 0 ∨ t = 3 ∨ t = 10 ∨ t = 20) ∧ 0 ≤ g ∧ g ≤ 3 ∧ 1 ≤ p ∧ p ≤ 8) ∧ (0 ≤ a ∧ a ≤ b ∧ b ≤ t) ∧ Below w.heap.size w w'

theorem Reads.take {w : World} {B n : Nat} {A : Option Addr} {xs : List Int} (h : Reads w B 1 A n (xs.map (Value.int .i64))) {k : Nat} (hk : k ≤ n) : Reads w B 1 A k ((xs.take k).map (Value.int .i64)) := by
  obtain ⟨h1, h2⟩ := h
  have hl : xs.length = n := by simpa using h1
  refine ⟨by simp; omega, fun h0 => ?_⟩
  obtain ⟨ad, e, hb, hc⟩ := h2 (by omega)
  refine ⟨ad, e, hb, fun j u hu => hc j u ?_⟩
  rw [List.map_take, List.getElem?_take] at hu
  split at hu
  · exact hu
  · cases hu

set_option maxHeartbeats 2000000 in
theorem case_any (A : Option Addr) (n c : Nat) (zs : List Int) (lo more : Int) (w : World) (hr : Reads w w.heap.size 1 A n (zs.map (Value.int .i64))) (hn : n ≤ c) (hm : c ≤ 9223372036854775807) :
    Calls Try.prog 10 #[.agg #[.slice A n c, .int .i64 lo, .int .i64 more]] w (CaseP w) := by
  obtain ⟨k, hk⟩ : ∃ k : Nat, (n ≤ 5 ∧ k = n) ∨ (5 < n ∧ k = 5) := by
    by_cases h : n ≤ 5
    · exact ⟨n, .inl ⟨h, rfl⟩⟩
    · exact ⟨5, .inr ⟨by omega, rfl⟩⟩
  have HK := Lib.hid (hr.take (k := k) (by omega))
  clear hr
  rcases hk with ⟨h5, rfl⟩ | ⟨h5, rfl⟩
  all_goals
    go_enter Try.func10, Try.ntmps10
    go_wp2_with fail
    refine (made_any A _ c w.heap.size _ _ (((HK.out.alloc (Nat.le_refl _) _).alloc (by simp) _).alloc (by simp; omega) _) (by simp; omega) (by omega)).mono ?_
    rintro e w1 ⟨r, f, t, g, p, rfl, hv, hb⟩
    obtain ⟨hc, hf⟩ := bcell hb
    have hbl : Below w.heap.size w w1 := Below.via (by go_grown) (by go_size) hb
    have hz : w.heap.size + 1 + 1 < w1.heap.size := by have := hb.size; simp at this; omega
    have b1 : w1.cell? ⟨w.heap.size, 1, none⟩ = some (.int .i64 lo) := by simp [hc, go_sem]
    have b2 : w1.cell? ⟨w.heap.size, 2, none⟩ = some (.int .i64 more) := by simp [hc, go_sem]
    have r0 : w1.cell? ⟨w.heap.size + 1, 0, none⟩ = some (.int .i64 0) := by simp [hc, go_sem]
    have r1 : w1.cell? ⟨w.heap.size + 1, 1, none⟩ = some (.int .i64 0) := by simp [hc, go_sem]
    have r2 : w1.cell? ⟨w.heap.size + 1, 2, none⟩ = some (.int .i64 0) := by simp [hc, go_sem]
    have r3 : w1.cell? ⟨w.heap.size + 1, 3, none⟩ = some (.int .i64 0) := by simp [hc, go_sem]
    have r4 : w1.cell? ⟨w.heap.size + 1, 4, none⟩ = some (.int .i64 0) := by simp [hc, go_sem]
    have s0 : w1.cell? ⟨w.heap.size + 1 + 1, 0, none⟩ = some (.int .i64 0) := by simp [hc, go_sem]
    have s1 : w1.cell? ⟨w.heap.size + 1 + 1, 1, none⟩ = some (.int .i64 0) := by simp [hc, go_sem]
    have q0 : w1.frozen? ⟨w.heap.size + 1, 0, none⟩ = false := by simp [hf, go_sem]
    have q1 : w1.frozen? ⟨w.heap.size + 1, 1, none⟩ = false := by simp [hf, go_sem]
    have q2 : w1.frozen? ⟨w.heap.size + 1, 2, none⟩ = false := by simp [hf, go_sem]
    have q3 : w1.frozen? ⟨w.heap.size + 1, 3, none⟩ = false := by simp [hf, go_sem]
    have q4 : w1.frozen? ⟨w.heap.size + 1, 4, none⟩ = false := by simp [hf, go_sem]
    have t0 : w1.frozen? ⟨w.heap.size + 1 + 1, 0, none⟩ = false := by simp [hf, go_sem]
    have t1 : w1.frozen? ⟨w.heap.size + 1 + 1, 1, none⟩ = false := by simp [hf, go_sem]
    have HV := Lib.hid hv
    clear hc hf hb hv
    have hz0 : w.heap.size < w1.heap.size := by omega
    have hz1 : w.heap.size + 1 < w1.heap.size := by omega
    have hz3 : w.heap.size < w1.heap.size + 1 := by omega
    have hn1 : ¬ w.heap.size + 1 = w1.heap.size := by omega
    have hn2 : ¬ w.heap.size + 1 + 1 = w1.heap.size := by omega
    have hn5 : ¬ w.heap.size + 1 + 1 = w.heap.size := by omega
    have hn6 : ¬ w.heap.size = w.heap.size + 1 + 1 := by omega
    have hn3 : ¬ w1.heap.size = w.heap.size + 1 := by omega
    have hn4 : ¬ w1.heap.size = w.heap.size + 1 + 1 := by omega
    go_wp2
    go_region_held3 (fun W => W.cell? ⟨w1.heap.size, 0, none⟩ = some (.int .i64 r) ∧ W.cell? ⟨w1.heap.size, 1, none⟩ = some (.int .i64 f) ∧ W.cell? ⟨w1.heap.size, 2, none⟩ = some (.int .i64 t) ∧ W.cell? ⟨w1.heap.size, 3, none⟩ = some (.int .i64 g) ∧ W.cell? ⟨w1.heap.size, 4, none⟩ = some (.int .i64 p) ∧ W.cell? ⟨w.heap.size, 1, none⟩ = some (.int .i64 lo) ∧ W.cell? ⟨w.heap.size, 2, none⟩ = some (.int .i64 more))
      (go_keep)
      (first | (go_at_call 22; refine (Warm_any _ _ _ _ _ _ _ _ (by have := HV.out; omega) (by have := HV.out; omega)).mono ?_; rintro e w2 ⟨a, b, rfl, ha0, hab, hbt, hb2⟩; obtain ⟨hc2, hf2⟩ := bcell hb2; have hs2 := hb2.size; try simp at hs2))
    all_goals go_wp2
    have hbl2 : Below w.heap.size w w2 := Below.via (by go_grown) (by go_size) hb2
    have u0 : w2.cell? ⟨w.heap.size + 1, 0, none⟩ = some (.int .i64 0) := by rw [hc2 _ _ (by simp; omega)]; simp [go_sem, hz1, r0]
    have u1 : w2.cell? ⟨w.heap.size + 1, 1, none⟩ = some (.int .i64 0) := by rw [hc2 _ _ (by simp; omega)]; simp [go_sem, hz1, r1]
    have u2 : w2.cell? ⟨w.heap.size + 1, 2, none⟩ = some (.int .i64 0) := by rw [hc2 _ _ (by simp; omega)]; simp [go_sem, hz1, r2]
    have u3 : w2.cell? ⟨w.heap.size + 1, 3, none⟩ = some (.int .i64 0) := by rw [hc2 _ _ (by simp; omega)]; simp [go_sem, hz1, r3]
    have u4 : w2.cell? ⟨w.heap.size + 1, 4, none⟩ = some (.int .i64 0) := by rw [hc2 _ _ (by simp; omega)]; simp [go_sem, hz1, r4]
    have v0 : w2.cell? ⟨w.heap.size + 1 + 1, 0, none⟩ = some (.int .i64 0) := by rw [hc2 _ _ (by simp; omega)]; simp [go_sem, hz, s0]
    have v1 : w2.cell? ⟨w.heap.size + 1 + 1, 1, none⟩ = some (.int .i64 0) := by rw [hc2 _ _ (by simp; omega)]; simp [go_sem, hz, s1]
    exact bodyPost_ret (v := .tuple #[.agg #[.int .i64 r, .int .i64 f, .int .i64 t, .int .i64 g, .int .i64 p], .agg #[.int .i64 a, .int .i64 b]])
      (by simp [results, Try.results10, go_sem, u0, u1, u2, u3, u4, v0, v1]) rfl ⟨r, f, t, g, p, a, b, rfl, HV.out, ⟨ha0, hab, hbt⟩, by go_grown⟩
end Go.Proofs.Ytdiidinbgnjjmaa
