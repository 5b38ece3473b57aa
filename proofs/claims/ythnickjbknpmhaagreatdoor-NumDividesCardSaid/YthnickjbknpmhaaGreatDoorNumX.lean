/-
  The contract of Div.
-/
import Derived.Test.YthnickjbknpmhaaGreatDoorNumW
namespace Go.Proofs.YthnickjbknpmhaaGreatDoor
open Go.RowKit Go.Shelf

/-- The memory of Div: the two numbers' boxes, the results' two; nothing older has turned. -/
def Sd (w : World) (neg : Bool) (A : Option Addr) (n c : Nat) (neg2 : Bool) (A2 : Option Addr) (n2 c2 : Nat) (W : World) : Prop :=
  Below (w.heap.size + 1 + 1 + 1 + 1) ((((w.alloc (.cells #[.bool neg, .slice A n c] 26)).alloc (.cells #[.bool neg2, .slice A2 n2 c2] 26)).alloc (.cells #[.bool false, .slice none 0 0] 26)).alloc (.cells #[.bool false, .slice none 0 0] 26)) W
section
variable {w W W1 : World} {neg neg2 : Bool} {A A2 : Option Addr} {n c n2 c2 : Nat}
theorem Sd.start : Sd w neg A n c neg2 A2 n2 c2 ((((w.alloc (.cells #[.bool neg, .slice A n c] 26)).alloc (.cells #[.bool neg2, .slice A2 n2 c2] 26)).alloc (.cells #[.bool false, .slice none 0 0] 26)).alloc (.cells #[.bool false, .slice none 0 0] 26)) := Below.refl _ _
theorem Sd.size (h : Sd w neg A n c neg2 A2 n2 c2 W) : w.heap.size + 1 + 1 + 1 + 1 ≤ W.heap.size := by have := Below.size h; simpa using this
theorem Sd.via (h : Sd w neg A n c neg2 A2 n2 c2 W) (hb : Below W.heap.size W W1) : Sd w neg A n c neg2 A2 n2 c2 W1 := Below.trans h (hb.mono h.size)
theorem Sd.drew (h : Sd w neg A n c neg2 A2 n2 c2 W) : Sd w neg A n c neg2 A2 n2 c2 W.drew := Below.drew h
theorem Sd.drewN (h : Sd w neg A n c neg2 A2 n2 c2 W) (k : Nat) : Sd w neg A n c neg2 A2 n2 c2 (W.drewN k) := below_drewN h k
theorem Sd.alloc (h : Sd w neg A n c neg2 A2 n2 c2 W) (o : Obj) : Sd w neg A n c neg2 A2 n2 c2 (W.alloc o) := h.via ((Below.refl _ _).alloc (Nat.le_refl _) o)
theorem Sd.below (h : Sd w neg A n c neg2 A2 n2 c2 W) : Below w.heap.size w W := Below.trans (by go_grown) (Below.mono h (by omega))
theorem Sd.facts (h : Sd w neg A n c neg2 A2 n2 c2 W) : W.cell? ⟨w.heap.size, 0, none⟩ = some (.bool neg) ∧ W.cell? ⟨w.heap.size, 1, none⟩ = some (.slice A n c) ∧ W.cell? ⟨w.heap.size + 1, 0, none⟩ = some (.bool neg2) ∧ W.cell? ⟨w.heap.size + 1, 1, none⟩ = some (.slice A2 n2 c2) ∧
    W.cell? ⟨w.heap.size + 1 + 1, 0, none⟩ = some (.bool false) ∧ W.cell? ⟨w.heap.size + 1 + 1, 1, none⟩ = some (.slice none 0 0) ∧ (∀ i, W.frozen? ⟨w.heap.size + 1 + 1, i, none⟩ = false) ∧
    W.cell? ⟨w.heap.size + 1 + 1 + 1, 0, none⟩ = some (.bool false) ∧ W.cell? ⟨w.heap.size + 1 + 1 + 1, 1, none⟩ = some (.slice none 0 0) ∧ (∀ i, W.frozen? ⟨w.heap.size + 1 + 1 + 1, i, none⟩ = false) ∧ w.heap.size + 1 + 1 + 1 < W.heap.size := by
  have h' : Below (w.heap.size + 1 + 1 + 1 + 1) ((((w.alloc (.cells #[.bool neg, .slice A n c] 26)).alloc (.cells #[.bool neg2, .slice A2 n2 c2] 26)).alloc (.cells #[.bool false, .slice none 0 0] 26)).alloc (.cells #[.bool false, .slice none 0 0] 26)) W := h
  have k := fun b o (hb : b < w.heap.size + 1 + 1 + 1 + 1) => h'.cell (p := ⟨b, o, none⟩) hb
  have f := fun b o (hb : b < w.heap.size + 1 + 1 + 1 + 1) => h'.frozen (p := ⟨b, o, none⟩) hb
  refine ⟨?_, ?_, ?_, ?_, ?_, ?_, fun i => ?_, ?_, ?_, fun i => ?_, by have := Sd.size h; omega⟩
  · rw [k _ _ (by omega)]; simp [go_sem]
  · rw [k _ _ (by omega)]; simp [go_sem]
  · rw [k _ _ (by omega)]; simp [go_sem]
  · rw [k _ _ (by omega)]; simp [go_sem]
  · rw [k _ _ (by omega)]; simp [go_sem]
  · rw [k _ _ (by omega)]; simp [go_sem]
  · rw [f _ _ (by omega)]; simp [go_sem]
  · rw [k _ _ (by omega)]; simp [go_sem]
  · rw [k _ _ (by omega)]; simp [go_sem]
  · rw [f _ _ (by omega)]; simp [go_sem]
end

/-- What Div returns: the quotient, the rest, and whether there are. -/
def dqO (r : Option (Int × Int)) : Int := (r.getD (0, 0)).1
def drO (r : Option (Int × Int)) : Int := (r.getD (0, 0)).2
def RetDiv (r : Option (Int × Int)) (w : World) (e : Ending) (w' : World) : Prop :=
  ∃ A n c A2 n2 c2, e = .returned (.tuple #[.agg #[.bool (decide (dqO r < 0)), .slice A n c], .agg #[.bool (decide (drO r < 0)), .slice A2 n2 c2], .bool r.isSome]) ∧
    Sl w' w'.heap.size A n c (digs (dqO r).natAbs) ∧ Sl w' w'.heap.size A2 n2 c2 (digs (drO r).natAbs) ∧ Below w.heap.size w w'
theorem four_set {w : World} {b b2 : Nat} {u0 u1 u2 u3 : Value} (v0 v1 v2 v3 : Value) (g0 : w.cell? ⟨b, 0, none⟩ = some u0) (g1 : w.cell? ⟨b, 1, none⟩ = some u1) (g2 : w.cell? ⟨b2, 0, none⟩ = some u2) (g3 : w.cell? ⟨b2, 1, none⟩ = some u3) (hne : b ≠ b2) :
    ((((w.setCell ⟨b, 0, none⟩ v0).setCell ⟨b, 1, none⟩ v1).setCell ⟨b2, 0, none⟩ v2).setCell ⟨b2, 1, none⟩ v3).cell? ⟨b, 0, none⟩ = some v0 ∧ ((((w.setCell ⟨b, 0, none⟩ v0).setCell ⟨b, 1, none⟩ v1).setCell ⟨b2, 0, none⟩ v2).setCell ⟨b2, 1, none⟩ v3).cell? ⟨b, 1, none⟩ = some v1 ∧
    ((((w.setCell ⟨b, 0, none⟩ v0).setCell ⟨b, 1, none⟩ v1).setCell ⟨b2, 0, none⟩ v2).setCell ⟨b2, 1, none⟩ v3).cell? ⟨b2, 0, none⟩ = some v2 ∧ ((((w.setCell ⟨b, 0, none⟩ v0).setCell ⟨b, 1, none⟩ v1).setCell ⟨b2, 0, none⟩ v2).setCell ⟨b2, 1, none⟩ v3).cell? ⟨b2, 1, none⟩ = some v3 := by
  obtain ⟨q0, q1⟩ := two_set v0 v1 g0 g1
  have h2 : ((w.setCell ⟨b, 0, none⟩ v0).setCell ⟨b, 1, none⟩ v1).cell? ⟨b2, 0, none⟩ = some u2 := by
    rw [World.cell?_setCell_other _ _ _ _ (by simp), World.cell?_setCell_other _ _ _ _ (by simp), g2]
  have h3 : ((w.setCell ⟨b, 0, none⟩ v0).setCell ⟨b, 1, none⟩ v1).cell? ⟨b2, 1, none⟩ = some u3 := by
    rw [World.cell?_setCell_other _ _ _ _ (by simp), World.cell?_setCell_other _ _ _ _ (by simp), g3]
  obtain ⟨p0, p1⟩ := two_set v2 v3 h2 h3
  refine ⟨?_, ?_, ?_, p1⟩
  · rw [World.cell?_setCell_other _ _ _ _ (by simp), World.cell?_setCell_other _ _ _ _ (by simp), World.cell?_setCell_other _ _ _ _ (by simp), q0]
  · rw [World.cell?_setCell_other _ _ _ _ (by simp), World.cell?_setCell_other _ _ _ _ (by simp), q1]
  · rw [World.cell?_setCell_other _ _ _ _ (by simp), p0]

set_option maxRecDepth 100000 in
set_option maxHeartbeats 1000000 in
theorem div_no1 (neg neg2 : Bool) {A A2 : Option Addr} {n n2 c c2 B : Nat} {l : List Nat} {w : World} (h : Sl w B A n c l) (hB : B ≤ w.heap.size) (h1 : rightB neg l = false) :
    Calls Tryz.prog 9 #[.agg #[.bool neg, .slice A n c], .agg #[.bool neg2, .slice A2 n2 c2]] w (RetDiv none w) := by
  have R1 := Lib.hid (right_at neg (h.more hB) false h1)
  have s0 := Sd.start (w := w) (neg := neg) (A := A) (n := n) (c := c) (neg2 := neg2) (A2 := A2) (n2 := n2) (c2 := c2)
  clear h h1
  go_enter Tryz.func9, Tryz.ntmps9
  go_wp2_with (go_at_call 24; refine (R1.out _ s0.below).mono ?_; rintro e w1 ⟨rfl, hb⟩; have s1 := s0.via hb; obtain ⟨a0, a1, b0, b1, q0, q1, qf, r0, r1, rf, rz⟩ := s1.facts)
  obtain ⟨p0, p1, p2, p3⟩ := four_set (.bool false) (.slice none 0 0) (.bool false) (.slice none 0 0) q0 q1 r0 r1 (by omega)
  refine bodyPost_ret (v := .tuple #[.agg #[.bool false, .slice none 0 0], .agg #[.bool false, .slice none 0 0], .bool false]) ?_ rfl ⟨_, _, _, _, _, _, rfl, by rw [show digs (dqO none).natAbs = [] from digs_zero]; exact Sl.none_, by rw [show digs (drO none).natAbs = [] from digs_zero]; exact Sl.none_, ?_⟩
  · simp [results, Tryz.f9, go_sem, p0, p1, p2, p3]
  · exact (((s1.below.setCell (by simp; omega) _).setCell (by simp; omega) _).setCell (by simp; omega) _).setCell (by simp; omega) _

set_option maxRecDepth 100000 in
set_option maxHeartbeats 1000000 in
theorem div_no2 (neg neg2 : Bool) {A A2 : Option Addr} {n n2 c c2 B : Nat} {l m : List Nat} {w : World} (h : Sl w B A n c l) (h2 : Sl w B A2 n2 c2 m) (hB : B ≤ w.heap.size) (h1 : rightB neg l = true) (k1 : rightB neg2 m = false) :
    Calls Tryz.prog 9 #[.agg #[.bool neg, .slice A n c], .agg #[.bool neg2, .slice A2 n2 c2]] w (RetDiv none w) := by
  have R1 := Lib.hid (right_at neg (h.more hB) true h1)
  have R2 := Lib.hid (right_at neg2 (h2.more hB) false k1)
  have s0 := Sd.start (w := w) (neg := neg) (A := A) (n := n) (c := c) (neg2 := neg2) (A2 := A2) (n2 := n2) (c2 := c2)
  clear h h1 h2 k1
  go_enter Tryz.func9, Tryz.ntmps9
  go_wp2_with (first
    | (go_at_call 24; (with_reducible refine (R1.out _ s0.below).mono ?_); rintro e w1 ⟨rfl, hb⟩; have s1 := s0.via hb; obtain ⟨a0, a1, b0, b1, q0, q1, qf, r0, r1, rf, rz⟩ := s1.facts)
    | (go_at_call 24; (with_reducible refine (R2.out _ s1.below).mono ?_); rintro e w2 ⟨rfl, hb⟩; have s2 := s1.via hb; clear a0 a1 b0 b1 q0 q1 qf r0 r1 rf rz; obtain ⟨a0, a1, b0, b1, q0, q1, qf, r0, r1, rf, rz⟩ := s2.facts)
    | fail "no arm")
  obtain ⟨p0, p1, p2, p3⟩ := four_set (.bool false) (.slice none 0 0) (.bool false) (.slice none 0 0) q0 q1 r0 r1 (by omega)
  refine bodyPost_ret (v := .tuple #[.agg #[.bool false, .slice none 0 0], .agg #[.bool false, .slice none 0 0], .bool false]) ?_ rfl ⟨_, _, _, _, _, _, rfl, by rw [show digs (dqO none).natAbs = [] from digs_zero]; exact Sl.none_, by rw [show digs (drO none).natAbs = [] from digs_zero]; exact Sl.none_, ?_⟩
  · simp [results, Tryz.f9, go_sem, p0, p1, p2, p3]
  · exact (((s2.below.setCell (by simp; omega) _).setCell (by simp; omega) _).setCell (by simp; omega) _).setCell (by simp; omega) _

set_option maxRecDepth 100000 in
set_option maxHeartbeats 1000000 in
theorem div_no3 (neg neg2 : Bool) {A A2 : Option Addr} {n n2 c c2 B : Nat} {l m : List Nat} {w : World} (h : Sl w B A n c l) (h2 : Sl w B A2 n2 c2 m) (hB : B ≤ w.heap.size) (h1 : rightB neg l = true) (k1 : rightB neg2 m = true) (k0 : m = []) :
    Calls Tryz.prog 9 #[.agg #[.bool neg, .slice A n c], .agg #[.bool neg2, .slice A2 n2 c2]] w (RetDiv none w) := by
  have hn0 : n2 = 0 := by rw [← h2.len, k0]; rfl
  subst hn0
  have R1 := Lib.hid (right_at neg (h.more hB) true h1)
  have R2 := Lib.hid (right_at neg2 (h2.more hB) true k1)
  have s0 := Sd.start (w := w) (neg := neg) (A := A) (n := n) (c := c) (neg2 := neg2) (A2 := A2) (n2 := 0) (c2 := c2)
  clear h h1 h2 k1 k0
  go_enter Tryz.func9, Tryz.ntmps9
  go_wp2_with (first
    | (go_at_call 24; (with_reducible refine (R1.out _ s0.below).mono ?_); rintro e w1 ⟨rfl, hb⟩; have s1 := s0.via hb; obtain ⟨a0, a1, b0, b1, q0, q1, qf, r0, r1, rf, rz⟩ := s1.facts)
    | (go_at_call 24; (with_reducible refine (R2.out _ s1.below).mono ?_); rintro e w2 ⟨rfl, hb⟩; have s2 := s1.via hb; clear a0 a1 b0 b1 q0 q1 qf r0 r1 rf rz; obtain ⟨a0, a1, b0, b1, q0, q1, qf, r0, r1, rf, rz⟩ := s2.facts)
    | fail "no arm")
  obtain ⟨p0, p1, p2, p3⟩ := four_set (.bool false) (.slice none 0 0) (.bool false) (.slice none 0 0) q0 q1 r0 r1 (by omega)
  refine bodyPost_ret (v := .tuple #[.agg #[.bool false, .slice none 0 0], .agg #[.bool false, .slice none 0 0], .bool false]) ?_ rfl ⟨_, _, _, _, _, _, rfl, by rw [show digs (dqO none).natAbs = [] from digs_zero]; exact Sl.none_, by rw [show digs (drO none).natAbs = [] from digs_zero]; exact Sl.none_, ?_⟩
  · simp [results, Tryz.f9, go_sem, p0, p1, p2, p3]
  · exact (((s2.below.setCell (by simp; omega) _).setCell (by simp; omega) _).setCell (by simp; omega) _).setCell (by simp; omega) _

end Go.Proofs.YthnickjbknpmhaaGreatDoor
