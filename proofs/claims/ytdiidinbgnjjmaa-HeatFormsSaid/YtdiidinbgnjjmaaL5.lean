/-
  HeatMeets: the walk of the law over the contracts.
-/
import Derived.Test.YtdiidinbgnjjmaaL4
namespace Go.Proofs.Ytdiidinbgnjjmaa
open Go.RowKit

theorem meetLo_comm (a b c d : Int) : meetLo c d a b = meetLo a b c d := by unfold meetLo; rw [Int.max_comm, Int.min_comm]
theorem meetHi_comm (a b c d : Int) : meetHi c d a b = meetHi a b c d := by unfold meetHi; rw [Int.max_comm, Int.min_comm]
theorem meetE_comm (a b c d : Int) : meetE c d a b = meetE a b c d := by unfold meetE; rw [Int.max_comm, Int.min_comm]
theorem meet_says (a b c d : Int) : (meetE a b c d = 0 ∧ a ≤ meetLo a b c d ∧ c ≤ meetLo a b c d ∧ (meetLo a b c d = a ∨ meetLo a b c d = c) ∧ meetHi a b c d ≤ b ∧ meetHi a b c d ≤ d ∧ (meetHi a b c d = b ∨ meetHi a b c d = d)) ∨
    (meetE a b c d = 21 ∧ (b < a ∨ b < c ∨ d < a ∨ d < c)) := by
  unfold meetE meetLo meetHi
  by_cases h : max a c ≤ min b d
  · left; simp only [if_pos h]; refine ⟨trivial, ?_, ?_, ?_, ?_, ?_, ?_⟩ <;> omega
  · right; simp only [if_neg h]; refine ⟨trivial, ?_⟩; omega

/-- Two temperatures in block b. -/
def Cell4 (b : Nat) (x y u v : Int) (W : World) : Prop := W.cell? ⟨b, 0, none⟩ = some (.int .i64 x) ∧ W.cell? ⟨b, 1, none⟩ = some (.int .i64 y) ∧ W.cell? ⟨b, 2, none⟩ = some (.int .i64 u) ∧ W.cell? ⟨b, 3, none⟩ = some (.int .i64 v) ∧ b < W.heap.size
theorem Cell4.below {b : Nat} {x y u v : Int} {W W1 : World} (h : Cell4 b x y u v W) (hb : Below W.heap.size W W1) : Cell4 b x y u v W1 := by
  obtain ⟨h0, h1, h2, h3, hz⟩ := h
  exact ⟨(hb.cell (p := ⟨b, 0, none⟩) hz).trans h0, (hb.cell (p := ⟨b, 1, none⟩) hz).trans h1, (hb.cell (p := ⟨b, 2, none⟩) hz).trans h2, (hb.cell (p := ⟨b, 3, none⟩) hz).trans h3, Nat.lt_of_lt_of_le hz hb.size⟩
theorem Cell4.alloc {b : Nat} {x y u v : Int} {W : World} (h : Cell4 b x y u v W) (o : Obj) : Cell4 b x y u v (W.alloc o) := h.below ((Below.refl _ _).alloc (Nat.le_refl _) o)
theorem Cell4.new (W : World) (x y u v : Int) : Cell4 W.heap.size x y u v (W.alloc (.cells #[.int .i64 x, .int .i64 y, .int .i64 u, .int .i64 v] 51)) := ⟨by simp [go_sem], by simp [go_sem], by simp [go_sem], by simp [go_sem], by simp⟩
theorem lt_of_heap {w : World} {g : Nat} {o : Obj} (h : w.heap[g]? = some o) : g < w.heap.size := by
  rcases Nat.lt_or_ge g w.heap.size with h0 | h0
  · exact h0
  · rw [Array.getElem?_eq_none h0] at h; cases h
theorem heap_below {w w' : World} {g : Nat} {o : Obj} (h : w.heap[g]? = some o) (hb : Below w.heap.size w w') : w'.heap[g]? = some o := by
  have hl : g < w.heap.size := by
    rcases Nat.lt_or_ge g w.heap.size with h0 | h0
    · exact h0
    · rw [Array.getElem?_eq_none h0] at h; cases h
  rw [hb.block g hl]; exact h

theorem keep2 {w W W1 : World} {a b c d : Int} (h : W.cell? ⟨w.heap.size, 0, none⟩ = some (.int .i64 a) ∧ W.cell? ⟨w.heap.size, 1, none⟩ = some (.int .i64 b) ∧ W.cell? ⟨w.heap.size + 1, 0, none⟩ = some (.int .i64 c) ∧ W.cell? ⟨w.heap.size + 1, 1, none⟩ = some (.int .i64 d) ∧ w.heap.size + 1 < W.heap.size ∧ Below w.heap.size w W) (hb : Below W.heap.size W W1) :
    W1.cell? ⟨w.heap.size, 0, none⟩ = some (.int .i64 a) ∧ W1.cell? ⟨w.heap.size, 1, none⟩ = some (.int .i64 b) ∧ W1.cell? ⟨w.heap.size + 1, 0, none⟩ = some (.int .i64 c) ∧ W1.cell? ⟨w.heap.size + 1, 1, none⟩ = some (.int .i64 d) ∧ w.heap.size + 1 < W1.heap.size ∧ Below w.heap.size w W1 := by
  obtain ⟨h0, h1, h2, h3, hz, hB⟩ := h
  have x0 := (hb.cell (p := ⟨w.heap.size, 0, none⟩) (by show w.heap.size < _; omega)).trans h0
  have x1 := (hb.cell (p := ⟨w.heap.size, 1, none⟩) (by show w.heap.size < _; omega)).trans h1
  have x2 := (hb.cell (p := ⟨w.heap.size + 1, 0, none⟩) hz).trans h2
  have x3 := (hb.cell (p := ⟨w.heap.size + 1, 1, none⟩) hz).trans h3
  exact ⟨x0, x1, x2, x3, Nat.lt_of_lt_of_le hz hb.size, Below.via hB (by omega) hb⟩

set_option maxRecDepth 100000 in
set_option maxHeartbeats 4000000 in
theorem heatMeets_walk (a b c d n : Int) (w : World) (n0 : 0 ≤ n) (n1 : n < 256) :
    Calls Try.prog 8 #[.agg #[.int .i64 a, .int .i64 b], .agg #[.int .i64 c, .int .i64 d], .int .u8 n] w fun e w' => e = .returned (.bool true) ∧ Below w.heap.size w w' := by
  go_enter Try.func8, Try.ntmps8
  go_wp2_with fail
  refine (sanity_any _).mono ?_
  rintro e w1 ⟨rfl, hb⟩
  have hb1 : Below w.heap.size w w1 := Below.via (by go_grown) (by go_size) hb
  have A0 : Cell2 w.heap.size a b w1 := (Cell2.alloc (Cell2.new w a b) _).below hb
  have C0 : Cell2 (w.heap.size + 1) c d w1 := Cell2.below (by have := Cell2.new (w.alloc (.cells #[.int .i64 a, .int .i64 b] 29)) c d; simpa using this) hb
  clear hb
  obtain ⟨tt, htt⟩ : ∃ z : Int, n % 20 - 10 = z := ⟨_, rfl⟩
  have z1 : w.heap.size < w1.heap.size := A0.2.2
  have z2 : w.heap.size + 1 < w1.heap.size := C0.2.2
  have a0 := A0.1
  have a1 := A0.2.1
  have c0 := C0.1
  have c1 := C0.2.1
  go_wp2
  go_region_held3 (fun W => W.cell? ⟨w.heap.size, 0, none⟩ = some (.int .i64 a) ∧ W.cell? ⟨w.heap.size, 1, none⟩ = some (.int .i64 b) ∧ W.cell? ⟨w.heap.size + 1, 0, none⟩ = some (.int .i64 c) ∧ W.cell? ⟨w.heap.size + 1, 1, none⟩ = some (.int .i64 d) ∧ w.heap.size + 1 < W.heap.size ∧ Below w.heap.size w W)
    (first | assumption | exact ⟨a0, a1, c0, c1, z2, hb1.drew⟩ | exact q1 | exact keep2 (by assumption) ((Below.refl _ _).alloc (Nat.le_refl _) _))
    (first | (go_at_call 21; refine (warm_any _ _ _).mono ?_; rintro e w2 ⟨rfl, hb⟩; have q1 := keep2 (by assumption) hb))
  go_wp2
  have hB2 : Below w.heap.size w w2 := q1.2.2.2.2.2
  have hs2 : w.heap.size ≤ w2.heap.size := by have := q1.2.2.2.2.1; omega
  have HG := Lib.hid (heap_alloc_at w2 (.cells #[.int .i64 a, .int .i64 b, .int .i64 c, .int .i64 d, .int .i64 (a.tmod 10), .int .i64 (b.tmod 10), .int .i64 (c.tmod 10), .int .i64 (d.tmod 10)] 51) _ rfl)
  have HS := Lib.hid q1
  clear q1 hb a0 a1 c0 c1 A0 C0 z1 z2 hb1
  go_loopw [43] (fun K wr => ∃ k : Nat, k ≤ 2 ∧ K = .int .i64 k ∧ Hid (wr.heap[w2.heap.size]? = some (.cells #[.int .i64 a, .int .i64 b, .int .i64 c, .int .i64 d, .int .i64 (a.tmod 10), .int .i64 (b.tmod 10), .int .i64 (c.tmod 10), .int .i64 (d.tmod 10)] 51 (0, 0))) ∧ w.heap.size ≤ wr.heap.size ∧ w2.heap.size < wr.heap.size ∧ Below w.heap.size w wr) (fun K _ => 2 - (intOf K).toNat)
  case atStart => exact ⟨0, by omega, rfl, HG.out, by simp; omega, by simp, hB2.alloc hs2 _⟩
  case round =>
    clear HG
    obtain ⟨k, hk, rfl, HG, hsw, hsg, hBw⟩ := hrel
    rcases (show k = 0 ∨ k = 1 ∨ k = 2 from by omega) with rfl | rfl | rfl
    · have f0 := cell_of_heap (i := 0) HG.out
      have f1 := cell_of_heap (i := 1) HG.out
      have f2 := cell_of_heap (i := 2) HG.out
      have f3 := cell_of_heap (i := 3) HG.out
      simp at f0 f1 f2 f3
      obtain ⟨P, hP⟩ : ∃ z, z = a := ⟨_, rfl⟩
      obtain ⟨Q, hQ⟩ : ∃ z, z = b := ⟨_, rfl⟩
      obtain ⟨R, hR⟩ : ∃ z, z = c := ⟨_, rfl⟩
      obtain ⟨S, hS⟩ : ∃ z, z = d := ⟨_, rfl⟩
      rw [← hP] at f0
      rw [← hQ] at f1
      rw [← hR] at f2
      rw [← hS] at f3
      clear hP hQ hR hS
      go_wp2_with fail
      obtain ⟨lo, hlo⟩ : ∃ z, meetLo P Q R S = z := ⟨_, rfl⟩
      obtain ⟨hi, hhi⟩ : ∃ z, meetHi P Q R S = z := ⟨_, rfl⟩
      obtain ⟨ee, hee⟩ : ∃ z, meetE P Q R S = z := ⟨_, rfl⟩
      have hsay := meet_says P Q R S
      simp only [hlo, hhi, hee] at hsay
      have SAY := Lib.hid hsay
      have E1 := Lib.hid hlo
      have E2 := Lib.hid hhi
      have E3 := Lib.hid hee
      clear hlo hhi hee hsay
      refine (meet_any P Q R S _).mono ?_
      rw [E1.out, E2.out, E3.out]
      rintro e w3 ⟨rfl, hb⟩
      have X3 := (Cell4.new wr P Q R S).below hb
      have B3 : Below w.heap.size w w3 := Below.via (hBw.alloc hsw _) (by simp; omega) hb
      have G3 : Hid (w3.heap[w2.heap.size]? = some (.cells #[.int .i64 a, .int .i64 b, .int .i64 c, .int .i64 d, .int .i64 (a.tmod 10), .int .i64 (b.tmod 10), .int .i64 (c.tmod 10), .int .i64 (d.tmod 10)] 51 (0, 0))) := heap_below (heap_alloc_past HG.out) hb
      have S3 : w.heap.size ≤ w3.heap.size := by have := hb.size; simp at this; omega
      have HX3 := Lib.hid X3
      obtain ⟨x0, x1, x2, x3, x4⟩ := X3
      clear hb f0 f1 f2 f3 HG hBw
      go_wp2_with fail
      refine (refmeet_any P Q R S _).mono ?_
      rw [E1.out, E2.out, E3.out]
      rintro e w4 ⟨rfl, hb⟩
      have X4 := (HX3.out.alloc _).below hb
      have Y4 := (Cell2.new w3 lo hi).below hb
      have B4 : Below w.heap.size w w4 := Below.via (B3.alloc S3 _) (by simp; omega) hb
      have G4 : Hid (w4.heap[w2.heap.size]? = some (.cells #[.int .i64 a, .int .i64 b, .int .i64 c, .int .i64 d, .int .i64 (a.tmod 10), .int .i64 (b.tmod 10), .int .i64 (c.tmod 10), .int .i64 (d.tmod 10)] 51 (0, 0))) := heap_below (heap_alloc_past G3.out) hb
      have S4 : w.heap.size ≤ w4.heap.size := by have := hb.size; simp at this; omega
      have HX4 := Lib.hid X4
      have HY4 := Lib.hid Y4
      clear hb x0 x1 x2 x3 x4 HX3 B3 G3 X4 Y4
      obtain ⟨x0, x1, x2, x3, x4⟩ := HX4.out
      obtain ⟨y0, y1, y2⟩ := HY4.out
      go_wp2_with fail
      refine (meet_any R S P Q _).mono ?_
      rw [meetLo_comm P Q R S, meetHi_comm P Q R S, meetE_comm P Q R S, E1.out, E2.out, E3.out]
      rintro e w5 ⟨rfl, hb⟩
      have X5 := (HX4.out.alloc _).below hb
      have Y5 := (HY4.out.alloc _).below hb
      have Z5 := (Cell2.new w4 lo hi).below hb
      have B5 : Below w.heap.size w w5 := Below.via (B4.alloc S4 _) (by simp; omega) hb
      have G5 : Hid (w5.heap[w2.heap.size]? = some (.cells #[.int .i64 a, .int .i64 b, .int .i64 c, .int .i64 d, .int .i64 (a.tmod 10), .int .i64 (b.tmod 10), .int .i64 (c.tmod 10), .int .i64 (d.tmod 10)] 51 (0, 0))) := heap_below (heap_alloc_past G4.out) hb
      have S5 : w.heap.size ≤ w5.heap.size := by have := hb.size; simp at this; omega
      have T5 : w2.heap.size < w5.heap.size := lt_of_heap G5.out
      clear hb x0 x1 x2 x3 x4 y0 y1 y2 HX4 HY4 B4 G4
      obtain ⟨x0, x1, x2, x3, x4⟩ := X5
      obtain ⟨y0, y1, y2⟩ := Y5
      obtain ⟨u0, u1, u2⟩ := Z5
      rcases SAY.out with ⟨rfl, p1, p2, p3, p4, p5, p6⟩ | ⟨rfl, p1⟩
      · by_cases k1 : lo ≤ tt
        · by_cases k2 : tt ≤ hi
          · have j1 : P ≤ tt := by omega
            have j2 : tt ≤ Q := by omega
            have j3 : R ≤ tt := by omega
            have j4 : tt ≤ S := by omega
            clear p1 p2 p3 p4 p5 p6
            go_wp2
            go_roundw
            case rel => exact ⟨1, by omega, by first | rfl | go_num, heap_alloc_past G5.out, by simp; omega, by simp; omega, B5.alloc S5 _⟩
            case measure => simp [intOf]
          · have PP := Lib.hid p6
            clear p6
            rcases PP.out with rfl | rfl
            all_goals
              go_wp2
              all_goals go_roundw
              all_goals first | exact ⟨1, by omega, by first | rfl | go_num, heap_alloc_past G5.out, by simp; omega, by simp; omega, B5.alloc S5 _⟩ | (simp [intOf]; done)
        · have PP := Lib.hid p3
          clear p3
          rcases PP.out with rfl | rfl
          all_goals
            go_wp2
            all_goals go_roundw
            all_goals first | exact ⟨1, by omega, by first | rfl | go_num, heap_alloc_past G5.out, by simp; omega, by simp; omega, B5.alloc S5 _⟩ | (simp [intOf]; done)
      · have PP := Lib.hid p1
        clear p1
        rcases PP.out with p1 | p1 | p1 | p1
        all_goals
          go_wp2
          all_goals go_roundw
          all_goals first | exact ⟨1, by omega, by first | rfl | go_num, heap_alloc_past G5.out, by simp; omega, by simp; omega, B5.alloc S5 _⟩ | (simp [intOf]; done)
    · have f0 := cell_of_heap (i := 4) HG.out
      have f1 := cell_of_heap (i := 5) HG.out
      have f2 := cell_of_heap (i := 6) HG.out
      have f3 := cell_of_heap (i := 7) HG.out
      simp at f0 f1 f2 f3
      obtain ⟨P, hP⟩ : ∃ z, z = (a.tmod 10) := ⟨_, rfl⟩
      obtain ⟨Q, hQ⟩ : ∃ z, z = (b.tmod 10) := ⟨_, rfl⟩
      obtain ⟨R, hR⟩ : ∃ z, z = (c.tmod 10) := ⟨_, rfl⟩
      obtain ⟨S, hS⟩ : ∃ z, z = (d.tmod 10) := ⟨_, rfl⟩
      rw [← hP] at f0
      rw [← hQ] at f1
      rw [← hR] at f2
      rw [← hS] at f3
      clear hP hQ hR hS
      go_wp2_with fail
      obtain ⟨lo, hlo⟩ : ∃ z, meetLo P Q R S = z := ⟨_, rfl⟩
      obtain ⟨hi, hhi⟩ : ∃ z, meetHi P Q R S = z := ⟨_, rfl⟩
      obtain ⟨ee, hee⟩ : ∃ z, meetE P Q R S = z := ⟨_, rfl⟩
      have hsay := meet_says P Q R S
      simp only [hlo, hhi, hee] at hsay
      have SAY := Lib.hid hsay
      have E1 := Lib.hid hlo
      have E2 := Lib.hid hhi
      have E3 := Lib.hid hee
      clear hlo hhi hee hsay
      refine (meet_any P Q R S _).mono ?_
      rw [E1.out, E2.out, E3.out]
      rintro e w3 ⟨rfl, hb⟩
      have X3 := (Cell4.new wr P Q R S).below hb
      have B3 : Below w.heap.size w w3 := Below.via (hBw.alloc hsw _) (by simp; omega) hb
      have G3 : Hid (w3.heap[w2.heap.size]? = some (.cells #[.int .i64 a, .int .i64 b, .int .i64 c, .int .i64 d, .int .i64 (a.tmod 10), .int .i64 (b.tmod 10), .int .i64 (c.tmod 10), .int .i64 (d.tmod 10)] 51 (0, 0))) := heap_below (heap_alloc_past HG.out) hb
      have S3 : w.heap.size ≤ w3.heap.size := by have := hb.size; simp at this; omega
      have HX3 := Lib.hid X3
      obtain ⟨x0, x1, x2, x3, x4⟩ := X3
      clear hb f0 f1 f2 f3 HG hBw
      go_wp2_with fail
      refine (refmeet_any P Q R S _).mono ?_
      rw [E1.out, E2.out, E3.out]
      rintro e w4 ⟨rfl, hb⟩
      have X4 := (HX3.out.alloc _).below hb
      have Y4 := (Cell2.new w3 lo hi).below hb
      have B4 : Below w.heap.size w w4 := Below.via (B3.alloc S3 _) (by simp; omega) hb
      have G4 : Hid (w4.heap[w2.heap.size]? = some (.cells #[.int .i64 a, .int .i64 b, .int .i64 c, .int .i64 d, .int .i64 (a.tmod 10), .int .i64 (b.tmod 10), .int .i64 (c.tmod 10), .int .i64 (d.tmod 10)] 51 (0, 0))) := heap_below (heap_alloc_past G3.out) hb
      have S4 : w.heap.size ≤ w4.heap.size := by have := hb.size; simp at this; omega
      have HX4 := Lib.hid X4
      have HY4 := Lib.hid Y4
      clear hb x0 x1 x2 x3 x4 HX3 B3 G3 X4 Y4
      obtain ⟨x0, x1, x2, x3, x4⟩ := HX4.out
      obtain ⟨y0, y1, y2⟩ := HY4.out
      go_wp2_with fail
      refine (meet_any R S P Q _).mono ?_
      rw [meetLo_comm P Q R S, meetHi_comm P Q R S, meetE_comm P Q R S, E1.out, E2.out, E3.out]
      rintro e w5 ⟨rfl, hb⟩
      have X5 := (HX4.out.alloc _).below hb
      have Y5 := (HY4.out.alloc _).below hb
      have Z5 := (Cell2.new w4 lo hi).below hb
      have B5 : Below w.heap.size w w5 := Below.via (B4.alloc S4 _) (by simp; omega) hb
      have G5 : Hid (w5.heap[w2.heap.size]? = some (.cells #[.int .i64 a, .int .i64 b, .int .i64 c, .int .i64 d, .int .i64 (a.tmod 10), .int .i64 (b.tmod 10), .int .i64 (c.tmod 10), .int .i64 (d.tmod 10)] 51 (0, 0))) := heap_below (heap_alloc_past G4.out) hb
      have S5 : w.heap.size ≤ w5.heap.size := by have := hb.size; simp at this; omega
      have T5 : w2.heap.size < w5.heap.size := lt_of_heap G5.out
      clear hb x0 x1 x2 x3 x4 y0 y1 y2 HX4 HY4 B4 G4
      obtain ⟨x0, x1, x2, x3, x4⟩ := X5
      obtain ⟨y0, y1, y2⟩ := Y5
      obtain ⟨u0, u1, u2⟩ := Z5
      rcases SAY.out with ⟨rfl, p1, p2, p3, p4, p5, p6⟩ | ⟨rfl, p1⟩
      · by_cases k1 : lo ≤ tt
        · by_cases k2 : tt ≤ hi
          · have j1 : P ≤ tt := by omega
            have j2 : tt ≤ Q := by omega
            have j3 : R ≤ tt := by omega
            have j4 : tt ≤ S := by omega
            clear p1 p2 p3 p4 p5 p6
            go_wp2
            go_roundw
            case rel => exact ⟨2, by omega, by first | rfl | go_num, heap_alloc_past G5.out, by simp; omega, by simp; omega, B5.alloc S5 _⟩
            case measure => simp [intOf]
          · have PP := Lib.hid p6
            clear p6
            rcases PP.out with rfl | rfl
            all_goals
              go_wp2
              all_goals go_roundw
              all_goals first | exact ⟨2, by omega, by first | rfl | go_num, heap_alloc_past G5.out, by simp; omega, by simp; omega, B5.alloc S5 _⟩ | (simp [intOf]; done)
        · have PP := Lib.hid p3
          clear p3
          rcases PP.out with rfl | rfl
          all_goals
            go_wp2
            all_goals go_roundw
            all_goals first | exact ⟨2, by omega, by first | rfl | go_num, heap_alloc_past G5.out, by simp; omega, by simp; omega, B5.alloc S5 _⟩ | (simp [intOf]; done)
      · have PP := Lib.hid p1
        clear p1
        rcases PP.out with p1 | p1 | p1 | p1
        all_goals
          go_wp2
          all_goals go_roundw
          all_goals first | exact ⟨2, by omega, by first | rfl | go_num, heap_alloc_past G5.out, by simp; omega, by simp; omega, B5.alloc S5 _⟩ | (simp [intOf]; done)
    · go_wp2
      go_ret
      exact ⟨rfl, hBw⟩
end Go.Proofs.Ytdiidinbgnjjmaa
