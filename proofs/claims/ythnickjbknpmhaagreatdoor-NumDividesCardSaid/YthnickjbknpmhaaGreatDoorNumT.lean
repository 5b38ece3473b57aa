/-
  The contracts of Add, Sub and Mul.
-/
import Derived.Test.YthnickjbknpmhaaGreatDoorNumS
namespace Go.Proofs.YthnickjbknpmhaaGreatDoor
open Go.RowKit Go.Shelf

set_option maxRecDepth 100000 in
set_option maxHeartbeats 1000000 in
theorem add_any (neg neg2 : Bool) {A A2 : Option Addr} {n n2 c c2 B : Nat} {l m : List Nat} {w : World} (h : Sl w B A n c l) (h2 : Sl w B A2 n2 c2 m) (hB : B ≤ w.heap.size) :
    Calls Tryz.prog 34 #[.agg #[.bool neg, .slice A n c], .agg #[.bool neg2, .slice A2 n2 c2]] w (RetN (sumS neg l neg2 m neg2) w) := by
  have s0 := Sm.start (w := w) (neg := neg) (A := A) (n := n) (c := c) (neg2 := neg2) (A2 := A2) (n2 := n2) (c2 := c2)
  have SU := Lib.hid (fun (W : World) (hW : Below w.heap.size w W) => sum_any neg neg2 neg2 ((h.more hB).below hW) ((h2.more hB).below hW) hW.size)
  obtain ⟨r, hr⟩ : ∃ r, sumS neg l neg2 m neg2 = r := ⟨_, rfl⟩
  rw [hr] at SU ⊢
  clear h h2 hr
  go_enter Tryz.func34, Tryz.ntmps34
  go_wp2_with (go_at_call 42; refine (SU.out _ s0.below).mono ?_; rintro e w1 ⟨A4, n4, c4, rfl, hs4, hb⟩; have s1 := s0.via hb; obtain ⟨a0, a1, b0, b1, r0, r1, rf, rz⟩ := s1.facts)
  obtain ⟨q0, q1⟩ := two_set (.bool (ngO r)) (.slice A4 n4 c4) r0 r1
  refine bodyPost_ret (v := .tuple #[.agg #[.bool (ngO r), .slice A4 n4 c4], .bool (okO r)]) ?_ rfl ⟨_, _, _, rfl, ?_, ?_⟩
  · simp [results, Tryz.f34, go_sem, q0, q1]
  · exact hs4.stored r0 r1 _ _
  · exact (s1.below.setCell (by simp; omega) _).setCell (by simp; omega) _

set_option maxRecDepth 100000 in
set_option maxHeartbeats 1000000 in
theorem sub_any (neg neg2 : Bool) {A A2 : Option Addr} {n n2 c c2 B : Nat} {l m : List Nat} {w : World} (h : Sl w B A n c l) (h2 : Sl w B A2 n2 c2 m) (hB : B ≤ w.heap.size) :
    Calls Tryz.prog 16 #[.agg #[.bool neg, .slice A n c], .agg #[.bool neg2, .slice A2 n2 c2]] w (RetN (sumS neg l neg2 m (!neg2)) w) := by
  have s0 := Sm.start (w := w) (neg := neg) (A := A) (n := n) (c := c) (neg2 := neg2) (A2 := A2) (n2 := n2) (c2 := c2)
  have SU := Lib.hid (fun (W : World) (hW : Below w.heap.size w W) => sum_any neg neg2 (!neg2) ((h.more hB).below hW) ((h2.more hB).below hW) hW.size)
  obtain ⟨r, hr⟩ : ∃ r, sumS neg l neg2 m (!neg2) = r := ⟨_, rfl⟩
  rw [hr] at SU ⊢
  clear h h2 hr
  go_enter Tryz.func16, Tryz.ntmps16
  go_wp2_with (go_at_call 42; refine (SU.out _ s0.below).mono ?_; rintro e w1 ⟨A4, n4, c4, rfl, hs4, hb⟩; have s1 := s0.via hb; obtain ⟨a0, a1, b0, b1, r0, r1, rf, rz⟩ := s1.facts)
  obtain ⟨q0, q1⟩ := two_set (.bool (ngO r)) (.slice A4 n4 c4) r0 r1
  refine bodyPost_ret (v := .tuple #[.agg #[.bool (ngO r), .slice A4 n4 c4], .bool (okO r)]) ?_ rfl ⟨_, _, _, rfl, ?_, ?_⟩
  · simp [results, Tryz.f16, go_sem, q0, q1]
  · exact hs4.stored r0 r1 _ _
  · exact (s1.below.setCell (by simp; omega) _).setCell (by simp; omega) _

/-- The product. -/
def mulS (neg : Bool) (l : List Nat) (neg2 : Bool) (m : List Nat) : Option Int :=
  if rightB neg l = true ∧ rightB neg2 m = true then fitO (sgn neg (nval l) * sgn neg2 (nval m)) else none
theorem sgn_mul (a b : Bool) (x y : Nat) : sgn a x * sgn b y = sgn (!(a == b)) (x * y) := by
  cases a <;> cases b <;> simp [sgn, Int.neg_mul, Int.mul_neg]

set_option maxRecDepth 100000 in
set_option maxHeartbeats 1000000 in
theorem mul_no1 (neg neg2 : Bool) {A A2 : Option Addr} {n n2 c c2 B : Nat} {l : List Nat} {w : World} (h : Sl w B A n c l) (hB : B ≤ w.heap.size) (h1 : rightB neg l = false) :
    Calls Tryz.prog 15 #[.agg #[.bool neg, .slice A n c], .agg #[.bool neg2, .slice A2 n2 c2]] w (RetN none w) := by
  have R1 := Lib.hid (right_at neg (h.more hB) false h1)
  have s0 := Sm.start (w := w) (neg := neg) (A := A) (n := n) (c := c) (neg2 := neg2) (A2 := A2) (n2 := n2) (c2 := c2)
  clear h h1
  go_enter Tryz.func15, Tryz.ntmps15
  go_wp2_with (go_at_call 24; refine (R1.out _ s0.below).mono ?_; rintro e w1 ⟨rfl, hb⟩; have s1 := s0.via hb; obtain ⟨a0, a1, b0, b1, r0, r1, rf, rz⟩ := s1.facts)
  obtain ⟨q0, q1⟩ := two_set (.bool false) (.slice none 0 0) r0 r1
  refine bodyPost_ret (v := .tuple #[.agg #[.bool false, .slice none 0 0], .bool false]) ?_ rfl ⟨_, _, _, rfl, by rw [show digs (vO none).natAbs = [] from digs_zero]; exact Sl.none_, ?_⟩
  · simp [results, Tryz.f15, go_sem, q0, q1]
  · exact (s1.below.setCell (by simp; omega) _).setCell (by simp; omega) _

set_option maxRecDepth 100000 in
set_option maxHeartbeats 1000000 in
theorem mul_no2 (neg neg2 : Bool) {A A2 : Option Addr} {n n2 c c2 B : Nat} {l m : List Nat} {w : World} (h : Sl w B A n c l) (h2 : Sl w B A2 n2 c2 m) (hB : B ≤ w.heap.size) (h1 : rightB neg l = true) (k1 : rightB neg2 m = false) :
    Calls Tryz.prog 15 #[.agg #[.bool neg, .slice A n c], .agg #[.bool neg2, .slice A2 n2 c2]] w (RetN none w) := by
  have R1 := Lib.hid (right_at neg (h.more hB) true h1)
  have R2 := Lib.hid (right_at neg2 (h2.more hB) false k1)
  have s0 := Sm.start (w := w) (neg := neg) (A := A) (n := n) (c := c) (neg2 := neg2) (A2 := A2) (n2 := n2) (c2 := c2)
  clear h h1 h2 k1
  go_enter Tryz.func15, Tryz.ntmps15
  go_wp2_with (first
    | (go_at_call 24; (with_reducible refine (R1.out _ s0.below).mono ?_); rintro e w1 ⟨rfl, hb⟩; have s1 := s0.via hb; obtain ⟨a0, a1, b0, b1, r0, r1, rf, rz⟩ := s1.facts)
    | (go_at_call 24; (with_reducible refine (R2.out _ s1.below).mono ?_); rintro e w2 ⟨rfl, hb⟩; have s2 := s1.via hb; clear a0 a1 b0 b1 r0 r1 rf rz; obtain ⟨a0, a1, b0, b1, r0, r1, rf, rz⟩ := s2.facts)
    | fail "no arm")
  obtain ⟨q0, q1⟩ := two_set (.bool false) (.slice none 0 0) r0 r1
  refine bodyPost_ret (v := .tuple #[.agg #[.bool false, .slice none 0 0], .bool false]) ?_ rfl ⟨_, _, _, rfl, by rw [show digs (vO none).natAbs = [] from digs_zero]; exact Sl.none_, ?_⟩
  · simp [results, Tryz.f15, go_sem, q0, q1]
  · exact (s2.below.setCell (by simp; omega) _).setCell (by simp; omega) _

set_option maxRecDepth 100000 in
set_option maxHeartbeats 2000000 in
theorem mul_yes (neg neg2 : Bool) {A A2 : Option Addr} {n n2 c c2 B : Nat} {l m : List Nat} {w : World} (h : Sl w B A n c l) (h2 : Sl w B A2 n2 c2 m) (hB : B ≤ w.heap.size) (h1 : rightB neg l = true) (k1 : rightB neg2 m = true) :
    Calls Tryz.prog 15 #[.agg #[.bool neg, .slice A n c], .agg #[.bool neg2, .slice A2 n2 c2]] w (RetN (fitO (sgn neg (nval l) * sgn neg2 (nval m))) w) := by
  have R1 := Lib.hid (right_at neg (h.more hB) true h1)
  have R2 := Lib.hid (right_at neg2 (h2.more hB) true k1)
  have hn := (right_true h1 h.dig).2.1
  have hn2 := (right_true k1 h2.dig).2.1
  rw [h.len] at hn
  rw [h2.len] at hn2
  have TI := Lib.hid (fun (W : World) (hW : Below w.heap.size w W) => times_any _ _ _ _ _ _ _ _ _ W ((h.more hB).below hW) ((h2.more hB).below hW) hW.size (by omega) (by omega))
  have s0 := Sm.start (w := w) (neg := neg) (A := A) (n := n) (c := c) (neg2 := neg2) (A2 := A2) (n2 := n2) (c2 := c2)
  rw [sgn_mul]
  clear h h1 h2 k1
  go_enter Tryz.func15, Tryz.ntmps15
  go_wp2_with (first
    | (go_at_call 24; (with_reducible refine (R1.out _ s0.below).mono ?_); rintro e w1 ⟨rfl, hb⟩; have s1 := s0.via hb; obtain ⟨a0, a1, b0, b1, r0, r1, rf, rz⟩ := s1.facts)
    | (go_at_call 24; (with_reducible refine (R2.out _ s1.below).mono ?_); rintro e w2 ⟨rfl, hb⟩; have s2 := s1.via hb; clear a0 a1 b0 b1 r0 r1 rf rz; obtain ⟨a0, a1, b0, b1, r0, r1, rf, rz⟩ := s2.facts)
    | fail "no arm")
  go_region_held3 (fun W => W.cell? ⟨w.heap.size, 0, none⟩ = some (.bool neg) ∧ W.cell? ⟨w.heap.size, 1, none⟩ = some (.slice A n c) ∧ W.cell? ⟨w.heap.size + 1, 0, none⟩ = some (.bool neg2) ∧ W.cell? ⟨w.heap.size + 1, 1, none⟩ = some (.slice A2 n2 c2))
    (first | exact ⟨a0, a1, b0, b1⟩ | exact ⟨s5.facts.1, s5.facts.2.1, s5.facts.2.2.1, s5.facts.2.2.2.1⟩ | exact ⟨s6.facts.1, s6.facts.2.1, s6.facts.2.2.1, s6.facts.2.2.2.1⟩ | (simp [go_sem]; exact ⟨a0, a1, b0, b1⟩))
    (first
      | (go_at_call 41; (with_reducible refine (TI.out _ s2.drew.below).mono ?_); rintro e w4 ⟨A3, n3, c3, rfl, hs3, hb4⟩; have s5 := s2.drew.via hb4)
      | (go_at_call 28; (with_reducible refine (number_any A3 n3 c3 w4.heap.size _ (!(neg == neg2)) _ w4 hs3 (Nat.le_refl _) (nval_digs _)).mono ?_); rintro e w5 hr; obtain ⟨A4, n4, c4, rfl, hs4, hb5⟩ := retN_of hr; have s6 := s5.via hb5; clear a0 a1 b0 b1 r0 r1 rf rz; obtain ⟨a0, a1, b0, b1, r0, r1, rf, rz⟩ := s6.facts)
      | fail "no arm")
  all_goals
    go_wp2_with fail
    obtain ⟨q0, q1⟩ := two_set (.bool (ngO (fitO (sgn (!(neg == neg2)) (nval l * nval m))))) (.slice A4 n4 c4) r0 r1
    refine bodyPost_ret (v := .tuple #[.agg #[.bool (ngO (fitO (sgn (!(neg == neg2)) (nval l * nval m)))), .slice A4 n4 c4], .bool (okO (fitO (sgn (!(neg == neg2)) (nval l * nval m))))]) ?_ rfl ⟨_, _, _, rfl, ?_, ?_⟩
    · simp [results, Tryz.f15, go_sem, q0, q1]
    · exact hs4.stored r0 r1 _ _
    · exact (s6.below.setCell (by simp; omega) _).setCell (by simp; omega) _

theorem mul_any (neg neg2 : Bool) {A A2 : Option Addr} {n n2 c c2 B : Nat} {l m : List Nat} {w : World} (h : Sl w B A n c l) (h2 : Sl w B A2 n2 c2 m) (hB : B ≤ w.heap.size) :
    Calls Tryz.prog 15 #[.agg #[.bool neg, .slice A n c], .agg #[.bool neg2, .slice A2 n2 c2]] w (RetN (mulS neg l neg2 m) w) := by
  cases h1 : rightB neg l with
  | false => rw [show mulS neg l neg2 m = none by unfold mulS; rw [if_neg (by rw [h1]; simp)]]; exact mul_no1 neg neg2 h hB h1
  | true =>
    cases k1 : rightB neg2 m with
    | false => rw [show mulS neg l neg2 m = none by unfold mulS; rw [if_neg (by rw [k1]; simp)]]; exact mul_no2 neg neg2 h h2 hB h1 k1
    | true =>
      rw [show mulS neg l neg2 m = fitO (sgn neg (nval l) * sgn neg2 (nval m)) by unfold mulS; rw [if_pos ⟨h1, k1⟩]]
      exact mul_yes neg neg2 h h2 hB h1 k1
end Go.Proofs.YthnickjbknpmhaaGreatDoor
