/-
  The contract of sanity: the examples of the chapter hold.
-/
import Derived.Test.YtdiidinbgnjjmaaW7
import Derived.Deep.DeepCutAuto
namespace Go.Proofs.Ytdiidinbgnjjmaa
open Go.RowKit

/-- Five cells of a block, and that nothing older has turned. -/
def Five (w : World) (g : Nat) (a b c d e : Int) (W : World) : Prop :=
  W.cell? ⟨g, 0, none⟩ = some (.int .i64 a) ∧ W.cell? ⟨g, 1, none⟩ = some (.int .i64 b) ∧ W.cell? ⟨g, 2, none⟩ = some (.int .i64 c) ∧ W.cell? ⟨g, 3, none⟩ = some (.int .i64 d) ∧ W.cell? ⟨g, 4, none⟩ = some (.int .i64 e) ∧ g < W.heap.size ∧ w.heap.size ≤ W.heap.size ∧ Below w.heap.size w W
theorem Five.below {w W W1 : World} {g : Nat} {a b c d e : Int} (h : Five w g a b c d e W) (hb : Below W.heap.size W W1) : Five w g a b c d e W1 := by
  obtain ⟨h0, h1, h2, h3, h4, hg, hz, hB⟩ := h
  have k : ∀ i, W1.cell? ⟨g, i, none⟩ = W.cell? ⟨g, i, none⟩ := fun i => hb.cell (p := ⟨g, i, none⟩) hg
  exact ⟨by rw [k, h0], by rw [k, h1], by rw [k, h2], by rw [k, h3], by rw [k, h4], Nat.lt_of_lt_of_le hg hb.size, Nat.le_trans hz hb.size, Below.via hB hz hb⟩
theorem Five.drew {w W : World} {g : Nat} {a b c d e : Int} (h : Five w g a b c d e W) : Five w g a b c d e W.drew := by
  obtain ⟨h0, h1, h2, h3, h4, hg, hz, hB⟩ := h
  exact ⟨h0, h1, h2, h3, h4, hg, hz, hB.drew⟩

theorem Five.alloc {w W : World} {g : Nat} {a b c d e : Int} (h : Five w g a b c d e W) (o : Obj) : Five w g a b c d e (W.alloc o) := h.below ((Below.refl _ _).alloc (Nat.le_refl _) o)
theorem Five.setCell {w W : World} {g : Nat} {a b c d e : Int} (h : Five w g a b c d e W) {p : Addr} (hp : g < p.block ∧ w.heap.size ≤ p.block) (u : Value) : Five w g a b c d e (W.setCell p u) := by
  obtain ⟨h0, h1, h2, h3, h4, hg, hz, hB⟩ := h
  have k : ∀ i, (W.setCell p u).cell? ⟨g, i, none⟩ = W.cell? ⟨g, i, none⟩ := fun i => Below.cell?_far W p ⟨g, i, none⟩ u (by show g ≠ p.block; omega)
  have hs : (W.setCell p u).heap.size = W.heap.size := by simp [World.setCell]
  exact ⟨by rw [k, h0], by rw [k, h1], by rw [k, h2], by rw [k, h3], by rw [k, h4], by rw [hs]; exact hg, by rw [hs]; exact hz, hB.setCell hp.2 u⟩

theorem Five.size {w W : World} {g : Nat} {a b c d e : Int} (h : Five w g a b c d e W) : g < W.heap.size ∧ w.heap.size ≤ W.heap.size := ⟨h.2.2.2.2.2.1, h.2.2.2.2.2.2.1⟩
set_option maxRecDepth 100000 in
set_option maxHeartbeats 4000000 in
theorem sanity_any (w : World) : Calls Try.prog 9 #[] w fun e w' => e = .returned (.bool true) ∧ Below w.heap.size w w' := by
  go_enter Try.func9, Try.ntmps9
  go_upto_region 2 with fail
  have h0 : Five w w.heap.size 3 2 10 1 4 (w.alloc (.cells #[.int .i64 3, .int .i64 2, .int .i64 10, .int .i64 1, .int .i64 4] 27)) := by
    refine ⟨?_, ?_, ?_, ?_, ?_, ?_, ?_, ?_⟩ <;> first | (simp [go_sem]; done) | go_grown
  generalize (w.alloc (.cells #[.int .i64 3, .int .i64 2, .int .i64 10, .int .i64 1, .int .i64 4] 27)) = w0 at h0 ⊢
  go_cut [2] (fun s2 W => s2 = .bool true ∧ Five w w.heap.size 3 2 10 1 4 W)
  case first =>
    have hx := h0
    unfold Five at hx
    obtain ⟨c0, c1, c2, c3, c4, cz, cs, cb⟩ := hx
    go_region_held3 (fun W => W.cell? ⟨w.heap.size, 0, none⟩ = some (.int .i64 3) ∧ W.cell? ⟨w.heap.size, 1, none⟩ = some (.int .i64 2) ∧ W.cell? ⟨w.heap.size, 2, none⟩ = some (.int .i64 10) ∧ W.cell? ⟨w.heap.size, 3, none⟩ = some (.int .i64 1) ∧ W.cell? ⟨w.heap.size, 4, none⟩ = some (.int .i64 4) ∧ w.heap.size < W.heap.size ∧ w.heap.size ≤ W.heap.size ∧ Below w.heap.size w W)
      (first | assumption | exact Five.drew h0 | exact Five.below (by assumption) (by assumption))
      (first
        | (go_at_call 21; refine (warm_any _ _ _).mono ?_; rintro e w1 ⟨rfl, hb⟩)
        | (go_at_call 25; refine (runs_true _ _ _ _ _ _ _ _ _ _ _ (by decide) (by decide) (by decide)).mono ?_; rintro e w1 ⟨rfl, hb⟩)
        | (go_at_call 26; refine (rests_true _ _ _ _ _ _ _ _ _ _ _ (by decide) (by decide) (by decide)).mono ?_; rintro e w1 ⟨rfl, hb⟩))
    all_goals (go_wp2_with fail; go_meet; exact ⟨rfl, by assumption⟩)
  case rest =>
    obtain ⟨rfl, hF2⟩ := hcut
    rename World => wc2
    go_upto_region 3 with fail
    go_cut [3] (fun s3 W => s3 = .bool true ∧ Five w w.heap.size 3 2 10 1 4 W)
    case first =>
      have hx := hF2
      unfold Five at hx
      obtain ⟨c0, c1, c2, c3, c4, cz, cs, cb⟩ := hx
      go_region_held3 (fun W => W.cell? ⟨w.heap.size, 0, none⟩ = some (.int .i64 3) ∧ W.cell? ⟨w.heap.size, 1, none⟩ = some (.int .i64 2) ∧ W.cell? ⟨w.heap.size, 2, none⟩ = some (.int .i64 10) ∧ W.cell? ⟨w.heap.size, 3, none⟩ = some (.int .i64 1) ∧ W.cell? ⟨w.heap.size, 4, none⟩ = some (.int .i64 4) ∧ w.heap.size < W.heap.size ∧ w.heap.size ≤ W.heap.size ∧ Below w.heap.size w W)
        (first | assumption | exact Five.drew hF2 | exact Five.below (by assumption) (by assumption))
        (first
          | (go_at_call 21; refine (warm_any _ _ _).mono ?_; rintro e w1 ⟨rfl, hb⟩)
          | (go_at_call 27; refine (grows_true _ _ _ _ _ _ _ _ _ _ (by decide) (by decide) (by decide)).mono ?_; rintro e w1 ⟨rfl, hb⟩))
      all_goals (go_wp2_with fail; go_meet; exact ⟨rfl, by assumption⟩)
    case rest =>
      obtain ⟨rfl, hF3⟩ := hcut
      rename World => wc3
      go_upto_region 4 with fail
      go_cut [5] (fun s5 W => s5 = .int .i64 3 ∧ Five w w.heap.size 3 2 10 1 4 W)
      case first =>
        have hx := hF3
        unfold Five at hx
        obtain ⟨c0, c1, c2, c3, c4, cz, cs, cb⟩ := hx
        go_region_held3 (fun W => W.cell? ⟨w.heap.size, 0, none⟩ = some (.int .i64 3) ∧ W.cell? ⟨w.heap.size, 1, none⟩ = some (.int .i64 2) ∧ W.cell? ⟨w.heap.size, 2, none⟩ = some (.int .i64 10) ∧ W.cell? ⟨w.heap.size, 3, none⟩ = some (.int .i64 1) ∧ W.cell? ⟨w.heap.size, 4, none⟩ = some (.int .i64 4) ∧ w.heap.size < W.heap.size ∧ w.heap.size ≤ W.heap.size ∧ Below w.heap.size w W)
          (first | assumption | exact q1 | exact Five.drew hF3 | exact Five.alloc (Five.drew hF3) _ | exact Five.alloc q1 _ | (refine Five.setCell (Five.setCell q1 ?_ _) ?_ _ <;> constructor <;> first | (simp; done) | (simp; omega) | omega))
          (first
            | (go_at_call 21; refine (warm_any _ _ _).mono ?_; rintro e w1 ⟨rfl, hb⟩; have q1 : Five w w.heap.size 3 2 10 1 4 w1 := Five.below (by assumption) hb; obtain ⟨hc, hf⟩ := bcell hb; have z1 := hb.size; try (simp at z1; try rw [Nat.add_one_le_iff] at z1))
            | (go_at_call 15; refine (run_any _ _ _ _ _ _ _ _ _).mono ?_; rintro e w1 ⟨rfl, hb⟩; have q1 : Five w w.heap.size 3 2 10 1 4 w1 := Five.below (by assumption) hb; obtain ⟨hc, hf⟩ := bcell hb; have z1 := hb.size; try (simp at z1; try rw [Nat.add_one_le_iff] at z1)))
        all_goals (go_wp2_with fail; go_meet; exact ⟨rfl, by assumption⟩)
      case rest =>
        obtain ⟨rfl, hF4⟩ := hcut
        rename World => wc4
        go_upto_region 5 with fail
        go_cut [7] (fun s7 W => s7 = .int .i64 3 ∧ Five w w.heap.size 3 2 10 1 4 W)
        case first =>
          have hx := hF4
          unfold Five at hx
          obtain ⟨c0, c1, c2, c3, c4, cz, cs, cb⟩ := hx
          go_region_held3 (fun W => W.cell? ⟨w.heap.size, 0, none⟩ = some (.int .i64 3) ∧ W.cell? ⟨w.heap.size, 1, none⟩ = some (.int .i64 2) ∧ W.cell? ⟨w.heap.size, 2, none⟩ = some (.int .i64 10) ∧ W.cell? ⟨w.heap.size, 3, none⟩ = some (.int .i64 1) ∧ W.cell? ⟨w.heap.size, 4, none⟩ = some (.int .i64 4) ∧ w.heap.size < W.heap.size ∧ w.heap.size ≤ W.heap.size ∧ Below w.heap.size w W)
            (first | assumption | exact q1 | exact Five.drew hF4 | exact Five.alloc (Five.drew hF4) _ | exact Five.alloc q1 _ | (refine Five.setCell (Five.setCell q1 ?_ _) ?_ _ <;> constructor <;> first | (simp; done) | (simp; omega) | omega))
            (first
              | (go_at_call 21; refine (warm_any _ _ _).mono ?_; rintro e w1 ⟨rfl, hb⟩; have q1 : Five w w.heap.size 3 2 10 1 4 w1 := Five.below (by assumption) hb; obtain ⟨hc, hf⟩ := bcell hb; have z1 := hb.size; try (simp at z1; try rw [Nat.add_one_le_iff] at z1))
              | (go_at_call 15; refine (run_any _ _ _ _ _ _ _ _ _).mono ?_; rintro e w1 ⟨rfl, hb⟩; have q1 : Five w w.heap.size 3 2 10 1 4 w1 := Five.below (by assumption) hb; obtain ⟨hc, hf⟩ := bcell hb; have z1 := hb.size; try (simp at z1; try rw [Nat.add_one_le_iff] at z1)))
          all_goals (go_wp2_with fail; go_meet; exact ⟨rfl, by assumption⟩)
        case rest =>
          obtain ⟨rfl, hF5⟩ := hcut
          rename World => wc5
          go_upto_region 6 with fail
          go_cut [9] (fun s9 W => s9 = .int .i64 3 ∧ Five w w.heap.size 3 2 10 1 4 W)
          case first =>
            have hx := hF5
            unfold Five at hx
            obtain ⟨c0, c1, c2, c3, c4, cz, cs, cb⟩ := hx
            go_region_held3 (fun W => W.cell? ⟨w.heap.size, 0, none⟩ = some (.int .i64 3) ∧ W.cell? ⟨w.heap.size, 1, none⟩ = some (.int .i64 2) ∧ W.cell? ⟨w.heap.size, 2, none⟩ = some (.int .i64 10) ∧ W.cell? ⟨w.heap.size, 3, none⟩ = some (.int .i64 1) ∧ W.cell? ⟨w.heap.size, 4, none⟩ = some (.int .i64 4) ∧ w.heap.size < W.heap.size ∧ w.heap.size ≤ W.heap.size ∧ Below w.heap.size w W)
              (first | assumption | exact q1 | exact Five.drew hF5 | exact Five.alloc (Five.drew hF5) _ | exact Five.alloc q1 _ | (refine Five.setCell (Five.setCell q1 ?_ _) ?_ _ <;> constructor <;> first | (simp; done) | (simp; omega) | omega))
              (first
                | (go_at_call 21; refine (warm_any _ _ _).mono ?_; rintro e w1 ⟨rfl, hb⟩; have q1 : Five w w.heap.size 3 2 10 1 4 w1 := Five.below (by assumption) hb; obtain ⟨hc, hf⟩ := bcell hb; have z1 := hb.size; try (simp at z1; try rw [Nat.add_one_le_iff] at z1))
                | (go_at_call 15; refine (run_any _ _ _ _ _ _ _ _ _).mono ?_; rintro e w1 ⟨rfl, hb⟩; have q1 : Five w w.heap.size 3 2 10 1 4 w1 := Five.below (by assumption) hb; obtain ⟨hc, hf⟩ := bcell hb; have z1 := hb.size; try (simp at z1; try rw [Nat.add_one_le_iff] at z1)))
            all_goals (go_wp2_with fail; go_meet; exact ⟨rfl, by assumption⟩)
          case rest =>
            obtain ⟨rfl, hF6⟩ := hcut
            rename World => wc6
            have hB6 : Below w.heap.size w wc6 := by have := hF6; unfold Five at this; exact this.2.2.2.2.2.2.2
            go_wp2_with (first
              | (go_at_call 21; refine (warm_any _ _ _).mono ?_; rintro e w1 ⟨rfl, hb⟩; have q1 : Below w.heap.size w w1 := Below.via (by assumption) (by first | exact hF6.size.2 | assumption) hb; have q2 := Nat.le_trans (by first | exact hF6.size.2 | assumption) hb.size)
              | (go_at_call 28; refine (meets_true _ _ _ _ _ _ _ _ (by decide) (by decide) (by decide)).mono ?_; rintro e w1 ⟨rfl, hb⟩; have q1 : Below w.heap.size w w1 := Below.via (by assumption) (by first | exact hF6.size.2 | assumption) hb; have q2 := Nat.le_trans (by first | exact hF6.size.2 | assumption) hb.size))
            go_ret
            exact ⟨rfl, by assumption⟩
end Go.Proofs.Ytdiidinbgnjjmaa
