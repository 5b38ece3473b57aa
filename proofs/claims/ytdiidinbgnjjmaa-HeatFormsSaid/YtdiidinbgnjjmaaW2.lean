/-
  The contracts of check, the closures, and after.
-/
import Derived.Test.YtdiidinbgnjjmaaW1
namespace Go.Proofs.Ytdiidinbgnjjmaa
open Go.RowKit

theorem within_two (lo hi a b : Int) (g : Nat) (w : World) (hg : g = w.heap.size) :
    Calls Try.prog 30 #[.int .i64 lo, .int .i64 hi, .slice (some ⟨g, 0, none⟩) 2 2] (w.alloc (.cells #[.int .i64 a, .int .i64 b] 3)) fun e w' => e = .returned (.bool (allIn lo hi [a, b])) ∧ w.alloc (.cells #[.int .i64 a, .int .i64 b] 3) = w' :=
  within_any lo hi _ 2 2 (g + 1) [a, b] _ (reads_new _ 3 [.int .i64 a, .int .i64 b] _ 2 _ hg (by omega) rfl) (by omega)
theorem within_one (lo hi a : Int) (g : Nat) (w : World) (hg : g = w.heap.size) :
    Calls Try.prog 30 #[.int .i64 lo, .int .i64 hi, .slice (some ⟨g, 0, none⟩) 1 1] (w.alloc (.cells #[.int .i64 a] 3)) fun e w' => e = .returned (.bool (allIn lo hi [a])) ∧ w.alloc (.cells #[.int .i64 a] 3) = w' :=
  within_any lo hi _ 1 1 (g + 1) [a] _ (reads_new _ 3 [.int .i64 a] _ 1 _ hg (by omega) rfl) (by omega)

theorem bcell {W w1 : World} (hb : Below W.heap.size W w1) : (∀ b o, b < W.heap.size → w1.cell? ⟨b, o, none⟩ = W.cell? ⟨b, o, none⟩) ∧ (∀ b o, b < W.heap.size → w1.frozen? ⟨b, o, none⟩ = W.frozen? ⟨b, o, none⟩) :=
  ⟨fun b o h => hb.cell (p := ⟨b, o, none⟩) h, fun b o h => hb.frozen (p := ⟨b, o, none⟩) h⟩

theorem Below.via {B : Nat} {w0 w w' : World} (h0 : Below B w0 w) (hB : B ≤ w.heap.size) (h : Below w.heap.size w w') : Below B w0 w' := h0.trans (h.mono hB)
theorem ret_int {k : IntKind} {a b : Int} (h : a = b) : Ending.returned (.int k a) = .returned (.int k b) := by rw [h]
theorem chk_two (r f t g p : Int) : chk r f t g p = 0 ∨ chk r f t g p = 3 := by unfold chk; split <;> simp
theorem chk_zero {r f t g p : Int} : chk r f t g p = 0 ↔ okH r f t g p = true := by unfold chk; split <;> simp [*]
theorem chk2_yes {r f t g p lo hi n : Int} (h : okAll r f t g p lo hi n = true) : chk2 r f t g p lo hi n = 0 := by unfold chk2; rw [if_pos h]
theorem chk2_no {r f t g p lo hi n : Int} (h : ¬ okAll r f t g p lo hi n = true) : chk2 r f t g p lo hi n = 3 := by unfold chk2; rw [if_neg h]

set_option maxHeartbeats 400000 in
theorem check2_any (r f t g p lo hi n : Int) (w : World) :
    Calls Try.prog 36 #[.agg #[.int .i64 r, .int .i64 f, .int .i64 t, .int .i64 g, .int .i64 p], .agg #[.int .i64 lo, .int .i64 hi], .int .i64 n] w fun e w' => e = .returned (.int .i64 (chk2 r f t g p lo hi n)) ∧ Below w.heap.size w w' := by
  have key : okAll r f t g p lo hi n = true ↔ (chk r f t g p = 0 ∧ allIn 0 t [lo, hi] = true ∧ ¬ hi < lo ∧ allIn 0 10000 [n] = true) := by
    rw [okAll_iff, chk_zero]
    constructor
    · rintro ⟨a, b⟩; refine ⟨a, ?_, ?_, ?_⟩ <;> simp [allIn] <;> omega
    · rintro ⟨a, b, c, d⟩; refine ⟨a, ?_⟩; simp [allIn] at b d; omega
  have K := Lib.hid key
  have C2 := Lib.hid (chk_two r f t g p)
  clear key
  go_enter Try.func36, Try.ntmps36
  go_wp2_with (first
    | (go_at_call 12; refine (check_any _ _ _ _ _ _).mono ?_; rintro e w1 ⟨rfl, hb⟩; obtain ⟨hc, hf⟩ := bcell hb; have hbl : Below w.heap.size w w1 := Below.via (by go_grown) (by go_size) hb; have hz : w.heap.size + 1 < w1.heap.size := by have := hb.size; simp at this; omega)
    | (go_at_call 30; with_reducible refine (within_two _ _ _ _ _ _ ?_).mono ?_; simp; rintro e w' ⟨rfl, rfl⟩)
    | (go_at_call 30; with_reducible refine (within_one _ _ _ _ _ ?_).mono ?_; simp; rintro e w' ⟨rfl, rfl⟩))
  all_goals go_ret
  all_goals refine ⟨ret_int ?_, by go_grown⟩
  all_goals unfold chk2
  all_goals split
  all_goals rename_i hk
  all_goals rw [K.out] at hk
  all_goals have c2 := C2.out
  all_goals simp_all
  all_goals omega
end Go.Proofs.Ytdiidinbgnjjmaa
