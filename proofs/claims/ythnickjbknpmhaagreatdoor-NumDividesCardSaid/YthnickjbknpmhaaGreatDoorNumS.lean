/-
  What the operations return, as integers that may lack; the contract of sum.
-/
import Derived.Test.YthnickjbknpmhaaGreatDoorNumQ
namespace Go.Proofs.YthnickjbknpmhaaGreatDoor
open Go.RowKit Go.Shelf

/-- A result: a number, or none; its value, sign, and whether there is one. -/
def vO (r : Option Int) : Int := r.getD 0
def ngO (r : Option Int) : Bool := decide (vO r < 0)
def okO (r : Option Int) : Bool := r.isSome
def fitO (x : Int) : Option Int := if x.natAbs < big then some x else none
def RetN (r : Option Int) (w : World) (e : Ending) (w' : World) : Prop :=
  ∃ A n c, e = .returned (.tuple #[.agg #[.bool (ngO r), .slice A n c], .bool (okO r)]) ∧ Sl w' w'.heap.size A n c (digs (vO r).natAbs) ∧ Below w.heap.size w w'
theorem fitO_v (x : Int) : vO (fitO x) = numv x := by unfold vO fitO numv; split <;> rfl
theorem fitO_ok (x : Int) : okO (fitO x) = okv x := by unfold okO fitO okv; split <;> simp [*]
theorem fitO_ng (x : Int) : ngO (fitO x) = negv x := by unfold ngO negv; rw [fitO_v]
theorem retN_of {x : Int} {w w' : World} {e : Ending} (h : RetNum x w e w') : RetN (fitO x) w e w' := by
  obtain ⟨A, n, c, he, hs, hb⟩ := h
  exact ⟨A, n, c, by rw [he, fitO_ng, fitO_ok], by rw [fitO_v]; exact hs, hb⟩
theorem none_v : vO none = 0 ∧ ngO none = false ∧ okO none = false := ⟨rfl, rfl, rfl⟩

theorem right_true {neg : Bool} {l : List Nat} (h : rightB neg l = true) (hd : Dig l) : Canon l ∧ l.length ≤ 64 ∧ (l = [] → neg = false) := by
  rcases snoc_cases l with rfl | ⟨a, d, rfl⟩
  · exact ⟨canon_nil, by simp, fun _ => by simpa [rightB] using h⟩
  · simp [rightB] at h
    exact ⟨⟨hd, by simp; exact h.2⟩, by simp; omega, fun e => by simp at e⟩

theorem two_set {w : World} {b : Nat} {u0 u1 : Value} (v0 v1 : Value) (g0 : w.cell? ⟨b, 0, none⟩ = some u0) (g1 : w.cell? ⟨b, 1, none⟩ = some u1) :
    (w.setCell ⟨b, 0, none⟩ v0).cell? ⟨b, 0, none⟩ = some v0 ∧ ((w.setCell ⟨b, 0, none⟩ v0).setCell ⟨b, 1, none⟩ v1).cell? ⟨b, 1, none⟩ = some v1 :=
  ⟨World.cell?_setCell_same' w ⟨b, 0, none⟩ v0 (by rw [g0]; rfl), World.cell?_setCell_same' (w.setCell ⟨b, 0, none⟩ v0) ⟨b, 1, none⟩ v1 (by rw [World.cell?_setCell_other _ _ _ _ (by simp), g1]; rfl)⟩

theorem Sl.other {w : World} {B n c : Nat} {A : Option Addr} {l : List Nat} (h : Sl w B A n c l) {p : Addr} {v : Value} (g : w.cell? p = some v) (hv : ∀ d : Int, v ≠ .int .u32 d) (u : Value) : Sl (w.setCell p u) B A n c l := by
  refine ⟨⟨⟨h.1.1.1, fun hn => ?_⟩, h.1.2⟩, h.2⟩
  obtain ⟨ad, e, hb, hc⟩ := h.1.1.2 hn
  refine ⟨ad, e, hb, fun j x hx => ?_⟩
  have h1 := hc j x hx
  rw [World.cell?_setCell_other w p (ad.add j) u ?_]
  · exact h1
  · intro e
    rw [← e, g] at h1
    obtain ⟨d, _, hd⟩ := List.mem_map.1 (List.mem_of_getElem? hx)
    exact hv d ((Option.some.inj h1).trans hd.symm)
/-- A Num is stored into the cells of a result. -/
theorem Sl.stored {w : World} {b n c : Nat} {A : Option Addr} {l : List Nat} {x : Bool} {A2 : Option Addr} {n2 c2 : Nat} (h : Sl w w.heap.size A n c l) (r0 : w.cell? ⟨b, 0, none⟩ = some (.bool x)) (r1 : w.cell? ⟨b, 1, none⟩ = some (.slice A2 n2 c2)) (v0 v1 : Value) :
    Sl ((w.setCell ⟨b, 0, none⟩ v0).setCell ⟨b, 1, none⟩ v1) ((w.setCell ⟨b, 0, none⟩ v0).setCell ⟨b, 1, none⟩ v1).heap.size A n c l := by
  have hz : ((w.setCell ⟨b, 0, none⟩ v0).setCell ⟨b, 1, none⟩ v1).heap.size = w.heap.size := by simp [World.setCell]
  rw [hz]
  exact (h.other r0 (fun d e => by cases e) v0).other (p := ⟨b, 1, none⟩) (v := .slice A2 n2 c2) (by rw [World.cell?_setCell_other _ _ _ _ (by simp), r1]) (fun d e => by cases e) v1

/-- The sum, the second number with another sign. -/
def sumS (neg : Bool) (l : List Nat) (neg2 : Bool) (m : List Nat) (ng : Bool) : Option Int :=
  if rightB neg l = true ∧ rightB neg2 m = true then fitO (sgn neg (nval l) + sgn ng (nval m)) else none

section
variable {w : World} {A A2 : Option Addr} {n n2 c c2 : Nat} {l m : List Nat}
theorem right_at (neg : Bool) (h : Sl w w.heap.size A n c l) (b : Bool) (hb : rightB neg l = b) (W : World) (hW : Below w.heap.size w W) :
    Calls Tryz.prog 24 #[.agg #[.bool neg, .slice A n c]] W fun e w' => e = .returned (.bool b) ∧ Below W.heap.size W w' := by
  subst hb
  exact right_any neg A n c w.heap.size l W (h.below hW).1 hW.size h.2.1
end

/-- The memory of sum: the two numbers' boxes, the result's; nothing older has turned. -/
def Sm (w : World) (neg : Bool) (A : Option Addr) (n c : Nat) (neg2 : Bool) (A2 : Option Addr) (n2 c2 : Nat) (W : World) : Prop :=
  Below (w.heap.size + 1 + 1 + 1) (((w.alloc (.cells #[.bool neg, .slice A n c] 26)).alloc (.cells #[.bool neg2, .slice A2 n2 c2] 26)).alloc (.cells #[.bool false, .slice none 0 0] 26)) W
section
variable {w W W1 : World} {neg neg2 : Bool} {A A2 : Option Addr} {n c n2 c2 : Nat}
theorem Sm.start : Sm w neg A n c neg2 A2 n2 c2 (((w.alloc (.cells #[.bool neg, .slice A n c] 26)).alloc (.cells #[.bool neg2, .slice A2 n2 c2] 26)).alloc (.cells #[.bool false, .slice none 0 0] 26)) := Below.refl _ _
theorem Sm.size (h : Sm w neg A n c neg2 A2 n2 c2 W) : w.heap.size + 1 + 1 + 1 ≤ W.heap.size := by have := Below.size h; simpa using this
theorem Sm.via (h : Sm w neg A n c neg2 A2 n2 c2 W) (hb : Below W.heap.size W W1) : Sm w neg A n c neg2 A2 n2 c2 W1 := Below.trans h (hb.mono h.size)
theorem Sm.drew (h : Sm w neg A n c neg2 A2 n2 c2 W) : Sm w neg A n c neg2 A2 n2 c2 W.drew := Below.drew h
theorem Sm.drewN (h : Sm w neg A n c neg2 A2 n2 c2 W) (k : Nat) : Sm w neg A n c neg2 A2 n2 c2 (W.drewN k) := below_drewN h k
theorem Sm.below (h : Sm w neg A n c neg2 A2 n2 c2 W) : Below w.heap.size w W := Below.trans (by go_grown) (Below.mono h (by omega))
theorem Sm.facts (h : Sm w neg A n c neg2 A2 n2 c2 W) : W.cell? ⟨w.heap.size, 0, none⟩ = some (.bool neg) ∧ W.cell? ⟨w.heap.size, 1, none⟩ = some (.slice A n c) ∧ W.cell? ⟨w.heap.size + 1, 0, none⟩ = some (.bool neg2) ∧ W.cell? ⟨w.heap.size + 1, 1, none⟩ = some (.slice A2 n2 c2) ∧
    W.cell? ⟨w.heap.size + 1 + 1, 0, none⟩ = some (.bool false) ∧ W.cell? ⟨w.heap.size + 1 + 1, 1, none⟩ = some (.slice none 0 0) ∧ (∀ i, W.frozen? ⟨w.heap.size + 1 + 1, i, none⟩ = false) ∧ w.heap.size + 1 + 1 < W.heap.size := by
  have h' : Below (w.heap.size + 1 + 1 + 1) (((w.alloc (.cells #[.bool neg, .slice A n c] 26)).alloc (.cells #[.bool neg2, .slice A2 n2 c2] 26)).alloc (.cells #[.bool false, .slice none 0 0] 26)) W := h
  have k : ∀ b o, b < w.heap.size + 1 + 1 + 1 → W.cell? ⟨b, o, none⟩ = (((w.alloc (.cells #[.bool neg, .slice A n c] 26)).alloc (.cells #[.bool neg2, .slice A2 n2 c2] 26)).alloc (.cells #[.bool false, .slice none 0 0] 26)).cell? ⟨b, o, none⟩ := fun b o hb => h'.cell (p := ⟨b, o, none⟩) hb
  have f : ∀ b o, b < w.heap.size + 1 + 1 + 1 → W.frozen? ⟨b, o, none⟩ = (((w.alloc (.cells #[.bool neg, .slice A n c] 26)).alloc (.cells #[.bool neg2, .slice A2 n2 c2] 26)).alloc (.cells #[.bool false, .slice none 0 0] 26)).frozen? ⟨b, o, none⟩ := fun b o hb => h'.frozen (p := ⟨b, o, none⟩) hb
  refine ⟨?_, ?_, ?_, ?_, ?_, ?_, fun i => ?_, by have := Sm.size h; omega⟩
  · rw [k _ _ (by omega)]; simp [go_sem]
  · rw [k _ _ (by omega)]; simp [go_sem]
  · rw [k _ _ (by omega)]; simp [go_sem]
  · rw [k _ _ (by omega)]; simp [go_sem]
  · rw [k _ _ (by omega)]; simp [go_sem]
  · rw [k _ _ (by omega)]; simp [go_sem]
  · rw [f _ _ (by omega)]; simp [go_sem]
end

set_option maxRecDepth 100000 in
set_option maxHeartbeats 1000000 in
theorem sum_no1 (neg neg2 ng : Bool) {A A2 : Option Addr} {n n2 c c2 B : Nat} {l : List Nat} {w : World} (h : Sl w B A n c l) (hB : B ≤ w.heap.size) (h1 : rightB neg l = false) :
    Calls Tryz.prog 42 #[.agg #[.bool neg, .slice A n c], .agg #[.bool neg2, .slice A2 n2 c2], .bool ng] w (RetN none w) := by
  have R1 := Lib.hid (right_at neg (h.more hB) false h1)
  have s0 := Sm.start (w := w) (neg := neg) (A := A) (n := n) (c := c) (neg2 := neg2) (A2 := A2) (n2 := n2) (c2 := c2)
  clear h h1
  go_enter Tryz.func42, Tryz.ntmps42
  go_wp2_with (go_at_call 24; refine (R1.out _ s0.below).mono ?_; rintro e w1 ⟨rfl, hb⟩; have s1 := s0.via hb; obtain ⟨a0, a1, b0, b1, r0, r1, rf, rz⟩ := s1.facts)
  obtain ⟨q0, q1⟩ := two_set (.bool false) (.slice none 0 0) r0 r1
  refine bodyPost_ret (v := .tuple #[.agg #[.bool false, .slice none 0 0], .bool false]) ?_ rfl ⟨_, _, _, rfl, by rw [show digs (vO none).natAbs = [] from digs_zero]; exact Sl.none_, ?_⟩
  · simp [results, Tryz.f42, go_sem, q0, q1]
  · exact (s1.below.setCell (by simp; omega) _).setCell (by simp; omega) _

set_option maxRecDepth 100000 in
set_option maxHeartbeats 1000000 in
theorem sum_no2 (neg neg2 ng : Bool) {A A2 : Option Addr} {n n2 c c2 B : Nat} {l m : List Nat} {w : World} (h : Sl w B A n c l) (h2 : Sl w B A2 n2 c2 m) (hB : B ≤ w.heap.size) (h1 : rightB neg l = true) (k1 : rightB neg2 m = false) :
    Calls Tryz.prog 42 #[.agg #[.bool neg, .slice A n c], .agg #[.bool neg2, .slice A2 n2 c2], .bool ng] w (RetN none w) := by
  have R1 := Lib.hid (right_at neg (h.more hB) true h1)
  have R2 := Lib.hid (right_at neg2 (h2.more hB) false k1)
  have s0 := Sm.start (w := w) (neg := neg) (A := A) (n := n) (c := c) (neg2 := neg2) (A2 := A2) (n2 := n2) (c2 := c2)
  clear h h1 h2 k1
  go_enter Tryz.func42, Tryz.ntmps42
  go_wp2_with (first
    | (go_at_call 24; (with_reducible refine (R1.out _ s0.below).mono ?_); rintro e w1 ⟨rfl, hb⟩; have s1 := s0.via hb; obtain ⟨a0, a1, b0, b1, r0, r1, rf, rz⟩ := s1.facts)
    | (go_at_call 24; (with_reducible refine (R2.out _ s1.below).mono ?_); rintro e w2 ⟨rfl, hb⟩; have s2 := s1.via hb; clear a0 a1 b0 b1 r0 r1 rf rz; obtain ⟨a0, a1, b0, b1, r0, r1, rf, rz⟩ := s2.facts)
    | fail "no arm")
  obtain ⟨q0, q1⟩ := two_set (.bool false) (.slice none 0 0) r0 r1
  refine bodyPost_ret (v := .tuple #[.agg #[.bool false, .slice none 0 0], .bool false]) ?_ rfl ⟨_, _, _, rfl, by rw [show digs (vO none).natAbs = [] from digs_zero]; exact Sl.none_, ?_⟩
  · simp [results, Tryz.f42, go_sem, q0, q1]
  · exact (s2.below.setCell (by simp; omega) _).setCell (by simp; omega) _

theorem sgn_add (b : Bool) (x y : Nat) : sgn b x + sgn b y = sgn b (x + y) := by
  cases b <;> simp [sgn]; omega
theorem sgn_sub (b : Bool) {x y : Nat} (h : y ≤ x) : sgn b x + sgn (!b) y = sgn b (x - y) := by
  cases b <;> simp [sgn] <;> omega
theorem sgn_sub' (b : Bool) {x y : Nat} (h : x ≤ y) : sgn (!b) x + sgn b y = sgn b (y - x) := by
  cases b <;> simp [sgn] <;> omega

set_option maxRecDepth 100000 in
set_option maxHeartbeats 2000000 in
theorem sum_same (neg2 ng : Bool) {A A2 : Option Addr} {n n2 c c2 B : Nat} {l m : List Nat} {w : World} (h : Sl w B A n c l) (h2 : Sl w B A2 n2 c2 m) (hB : B ≤ w.heap.size) (h1 : rightB ng l = true) (k1 : rightB neg2 m = true) :
    Calls Tryz.prog 42 #[.agg #[.bool ng, .slice A n c], .agg #[.bool neg2, .slice A2 n2 c2], .bool ng] w (RetN (fitO (sgn ng (nval l) + sgn ng (nval m))) w) := by
  have R1 := Lib.hid (right_at ng (h.more hB) true h1)
  have R2 := Lib.hid (right_at neg2 (h2.more hB) true k1)
  have hn := (right_true h1 h.dig).2.1
  have hn2 := (right_true k1 h2.dig).2.1
  rw [h.len] at hn
  rw [h2.len] at hn2
  have PL := Lib.hid (fun (W : World) (hW : Below w.heap.size w W) => plus_any ((h.more hB).below hW) ((h2.more hB).below hW) hW.size (by omega) (by omega))
  have s0 := Sm.start (w := w) (neg := ng) (A := A) (n := n) (c := c) (neg2 := neg2) (A2 := A2) (n2 := n2) (c2 := c2)
  rw [sgn_add]
  clear h h1 h2 k1
  go_enter Tryz.func42, Tryz.ntmps42
  go_wp2_with (first
    | (go_at_call 24; (with_reducible refine (R1.out _ s0.below).mono ?_); rintro e w1 ⟨rfl, hb⟩; have s1 := s0.via hb; obtain ⟨a0, a1, b0, b1, r0, r1, rf, rz⟩ := s1.facts)
    | (go_at_call 24; (with_reducible refine (R2.out _ s1.below).mono ?_); rintro e w2 ⟨rfl, hb⟩; have s2 := s1.via hb; clear a0 a1 b0 b1 r0 r1 rf rz; obtain ⟨a0, a1, b0, b1, r0, r1, rf, rz⟩ := s2.facts)
    | fail "no arm")
  go_quiet (fail)
  have s3 := s2.drewN nq
  go_wp2_with (first
    | (go_at_call 26; (with_reducible refine (PL.out _ s3.below).mono ?_); rintro e w3 ⟨A3, n3, c3, rfl, hs3, hb3⟩; have s4 := s3.via hb3)
    | (go_at_call 28; (with_reducible refine (number_any A3 n3 c3 w3.heap.size _ ng _ w3 hs3 (Nat.le_refl _) (nval_digs _)).mono ?_); rintro e w4 hr; obtain ⟨A4, n4, c4, rfl, hs4, hb4⟩ := retN_of hr; have s5 := s4.via hb4; clear a0 a1 b0 b1 r0 r1 rf rz; obtain ⟨a0, a1, b0, b1, r0, r1, rf, rz⟩ := s5.facts)
    | fail "no arm")
  obtain ⟨q0, q1⟩ := two_set (.bool (ngO (fitO (sgn ng (nval l + nval m))))) (.slice A4 n4 c4) r0 r1
  refine bodyPost_ret (v := .tuple #[.agg #[.bool (ngO (fitO (sgn ng (nval l + nval m)))), .slice A4 n4 c4], .bool (okO (fitO (sgn ng (nval l + nval m))))]) ?_ rfl ⟨_, _, _, rfl, ?_, ?_⟩
  · simp [results, Tryz.f42, go_sem, q0, q1]
  · exact hs4.stored r0 r1 _ _
  · exact (s5.below.setCell (by simp; omega) _).setCell (by simp; omega) _

set_option maxRecDepth 100000 in
set_option maxHeartbeats 2000000 in
theorem sum_diff1 (neg2 ng : Bool) {A A2 : Option Addr} {n n2 c c2 B : Nat} {l m : List Nat} {w : World} (h : Sl w B A n c l) (h2 : Sl w B A2 n2 c2 m) (hB : B ≤ w.heap.size) (h1 : rightB (!ng) l = true) (k1 : rightB neg2 m = true) (hlt : nval l < nval m) :
    Calls Tryz.prog 42 #[.agg #[.bool (!ng), .slice A n c], .agg #[.bool neg2, .slice A2 n2 c2], .bool ng] w (RetN (fitO (sgn (!ng) (nval l) + sgn ng (nval m))) w) := by
  have R1 := Lib.hid (right_at (!ng) (h.more hB) true h1)
  have R2 := Lib.hid (right_at neg2 (h2.more hB) true k1)
  have hl := right_true h1 h.dig
  have hm := right_true k1 h2.dig
  have hn2 := hm.2.1
  rw [h2.len] at hn2
  have hnn : n ≤ n2 := by have := canon_len_le hl.1 hm.1.1 (Nat.le_of_lt hlt); rwa [h.len, h2.len] at this
  have hq : (Value.bool ((!ng) == ng)) = .bool false := by cases ng <;> rfl
  have hq2 : ((!ng) == ng) = false := by cases ng <;> rfl
  have hc := cmpv_lt hlt
  have CP := Lib.hid (fun (W : World) (hW : Below w.heap.size w W) => compare_any ((h.more hB).below hW) ((h2.more hB).below hW) hW.size hl.1 hm.1)
  have MI := Lib.hid (fun (W : World) (hW : Below w.heap.size w W) => minus_any _ _ _ _ _ _ _ _ _ W ((h2.more hB).below hW) ((h.more hB).below hW) hW.size (by omega) hnn (Nat.le_of_lt hlt))
  have s0 := Sm.start (w := w) (neg := !ng) (A := A) (n := n) (c := c) (neg2 := neg2) (A2 := A2) (n2 := n2) (c2 := c2)
  rw [sgn_sub' ng (Nat.le_of_lt hlt)]
  rw [hc] at CP
  clear h h1 h2 k1 hl hm hlt hc
  go_enter Tryz.func42, Tryz.ntmps42
  go_wp2_with (first
    | (go_at_call 24; (with_reducible refine (R1.out _ s0.below).mono ?_); rintro e w1 ⟨rfl, hb⟩; have s1 := s0.via hb; obtain ⟨a0, a1, b0, b1, r0, r1, rf, rz⟩ := s1.facts)
    | (go_at_call 24; (with_reducible refine (R2.out _ s1.below).mono ?_); rintro e w2 ⟨rfl, hb⟩; have s2 := s1.via hb; clear a0 a1 b0 b1 r0 r1 rf rz; obtain ⟨a0, a1, b0, b1, r0, r1, rf, rz⟩ := s2.facts)
    | fail "no arm")
  go_quiet (fail)
  have s3 := s2.drewN nq
  go_wp2_with (first
    | (go_at_call 49; (with_reducible refine (CP.out _ s3.below).mono ?_); rintro e w3 ⟨rfl, hb3⟩; have s4 := s3.via hb3; clear a0 a1 b0 b1 r0 r1 rf rz; obtain ⟨a0, a1, b0, b1, r0, r1, rf, rz⟩ := s4.facts)
    | (go_at_call 27; (with_reducible refine (MI.out _ s4.below).mono ?_); rintro e w4 ⟨A3, n3, c3, rfl, hs3, hb4⟩; have s5 := s4.via hb4)
    | (go_at_call 28; (with_reducible refine (number_any A3 n3 c3 w4.heap.size _ ng _ w4 hs3 (Nat.le_refl _) (nval_digs _)).mono ?_); rintro e w5 hr; obtain ⟨A4, n4, c4, rfl, hs4, hb5⟩ := retN_of hr; have s6 := s5.via hb5; clear a0 a1 b0 b1 r0 r1 rf rz; obtain ⟨a0, a1, b0, b1, r0, r1, rf, rz⟩ := s6.facts)
    | fail "no arm")
  obtain ⟨q0, q1⟩ := two_set (.bool (ngO (fitO (sgn ng (nval m - nval l))))) (.slice A4 n4 c4) r0 r1
  refine bodyPost_ret (v := .tuple #[.agg #[.bool (ngO (fitO (sgn ng (nval m - nval l)))), .slice A4 n4 c4], .bool (okO (fitO (sgn ng (nval m - nval l))))]) ?_ rfl ⟨_, _, _, rfl, ?_, ?_⟩
  · simp [results, Tryz.f42, go_sem, q0, q1]
  · exact hs4.stored r0 r1 _ _
  · exact (s6.below.setCell (by simp; omega) _).setCell (by simp; omega) _

set_option maxRecDepth 100000 in
set_option maxHeartbeats 2000000 in
theorem sum_diff2 (neg2 ng : Bool) {A A2 : Option Addr} {n n2 c c2 B : Nat} {l m : List Nat} {w : World} (h : Sl w B A n c l) (h2 : Sl w B A2 n2 c2 m) (hB : B ≤ w.heap.size) (h1 : rightB (!ng) l = true) (k1 : rightB neg2 m = true) (hge : nval m ≤ nval l) :
    Calls Tryz.prog 42 #[.agg #[.bool (!ng), .slice A n c], .agg #[.bool neg2, .slice A2 n2 c2], .bool ng] w (RetN (fitO (sgn (!ng) (nval l) + sgn ng (nval m))) w) := by
  have R1 := Lib.hid (right_at (!ng) (h.more hB) true h1)
  have R2 := Lib.hid (right_at neg2 (h2.more hB) true k1)
  have hl := right_true h1 h.dig
  have hm := right_true k1 h2.dig
  have hn := hl.2.1
  rw [h.len] at hn
  have hnn : n2 ≤ n := by have := canon_len_le hm.1 hl.1.1 hge; rwa [h.len, h2.len] at this
  have hq2 : ((!ng) == ng) = false := by cases ng <;> rfl
  have hc := cmpv_nn hge
  have CP := Lib.hid (fun (W : World) (hW : Below w.heap.size w W) => compare_any ((h.more hB).below hW) ((h2.more hB).below hW) hW.size hl.1 hm.1)
  have MI := Lib.hid (fun (W : World) (hW : Below w.heap.size w W) => minus_any _ _ _ _ _ _ _ _ _ W ((h.more hB).below hW) ((h2.more hB).below hW) hW.size (by omega) hnn hge)
  have s0 := Sm.start (w := w) (neg := !ng) (A := A) (n := n) (c := c) (neg2 := neg2) (A2 := A2) (n2 := n2) (c2 := c2)
  have eg := sgn_sub (!ng) hge
  rw [Bool.not_not] at eg
  rw [eg]
  clear h h1 h2 k1 hl hm hge eg
  go_enter Tryz.func42, Tryz.ntmps42
  go_wp2_with (first
    | (go_at_call 24; (with_reducible refine (R1.out _ s0.below).mono ?_); rintro e w1 ⟨rfl, hb⟩; have s1 := s0.via hb; obtain ⟨a0, a1, b0, b1, r0, r1, rf, rz⟩ := s1.facts)
    | (go_at_call 24; (with_reducible refine (R2.out _ s1.below).mono ?_); rintro e w2 ⟨rfl, hb⟩; have s2 := s1.via hb; clear a0 a1 b0 b1 r0 r1 rf rz; obtain ⟨a0, a1, b0, b1, r0, r1, rf, rz⟩ := s2.facts)
    | fail "no arm")
  go_quiet (fail)
  have s3 := s2.drewN nq
  go_wp2_with (first
    | (go_at_call 49; (with_reducible refine (CP.out _ s3.below).mono ?_); rintro e w3 ⟨rfl, hb3⟩; have s4 := s3.via hb3; clear a0 a1 b0 b1 r0 r1 rf rz; obtain ⟨a0, a1, b0, b1, r0, r1, rf, rz⟩ := s4.facts)
    | fail "no arm")
  go_region_held3 (fun W => W.cell? ⟨w.heap.size, 0, none⟩ = some (.bool (!ng)))
    (first | exact a0 | exact s5.facts.1 | exact s6.facts.1 | (simp [go_sem]; exact a0))
    (first
      | (go_at_call 27; (with_reducible refine (MI.out _ s4.drew.below).mono ?_); rintro e w4 ⟨A3, n3, c3, rfl, hs3, hb4⟩; have s5 := s4.drew.via hb4)
      | (go_at_call 28; (with_reducible refine (number_any A3 n3 c3 w4.heap.size _ (!ng) _ w4 hs3 (Nat.le_refl _) (nval_digs _)).mono ?_); rintro e w5 hr; obtain ⟨A4, n4, c4, rfl, hs4, hb5⟩ := retN_of hr; have s6 := s5.via hb5; clear a0 a1 b0 b1 r0 r1 rf rz; obtain ⟨a0, a1, b0, b1, r0, r1, rf, rz⟩ := s6.facts)
      | fail "no arm")
  all_goals
    go_wp2_with fail
    obtain ⟨q0, q1⟩ := two_set (.bool (ngO (fitO (sgn (!ng) (nval l - nval m))))) (.slice A4 n4 c4) r0 r1
    refine bodyPost_ret (v := .tuple #[.agg #[.bool (ngO (fitO (sgn (!ng) (nval l - nval m)))), .slice A4 n4 c4], .bool (okO (fitO (sgn (!ng) (nval l - nval m))))]) ?_ rfl ⟨_, _, _, rfl, ?_, ?_⟩
    · simp [results, Tryz.f42, go_sem, q0, q1]
    · exact hs4.stored r0 r1 _ _
    · exact (s6.below.setCell (by simp; omega) _).setCell (by simp; omega) _

theorem sum_any (neg neg2 ng : Bool) {A A2 : Option Addr} {n n2 c c2 B : Nat} {l m : List Nat} {w : World} (h : Sl w B A n c l) (h2 : Sl w B A2 n2 c2 m) (hB : B ≤ w.heap.size) :
    Calls Tryz.prog 42 #[.agg #[.bool neg, .slice A n c], .agg #[.bool neg2, .slice A2 n2 c2], .bool ng] w (RetN (sumS neg l neg2 m ng) w) := by
  cases h1 : rightB neg l with
  | false => rw [show sumS neg l neg2 m ng = none by unfold sumS; rw [if_neg (by rw [h1]; simp)]]; exact sum_no1 neg neg2 ng h hB h1
  | true =>
    cases k1 : rightB neg2 m with
    | false => rw [show sumS neg l neg2 m ng = none by unfold sumS; rw [if_neg (by rw [k1]; simp)]]; exact sum_no2 neg neg2 ng h h2 hB h1 k1
    | true =>
      rw [show sumS neg l neg2 m ng = fitO (sgn neg (nval l) + sgn ng (nval m)) by unfold sumS; rw [if_pos ⟨h1, k1⟩]]
      by_cases hq : neg = ng
      · subst hq; exact sum_same neg2 neg h h2 hB h1 k1
      · obtain rfl : neg = !ng := by revert hq; cases neg <;> cases ng <;> simp
        rcases Nat.lt_or_ge (nval l) (nval m) with hv | hv
        · exact sum_diff1 neg2 ng h h2 hB h1 k1 hv
        · exact sum_diff2 neg2 ng h h2 hB h1 k1 hv
end Go.Proofs.YthnickjbknpmhaaGreatDoor
