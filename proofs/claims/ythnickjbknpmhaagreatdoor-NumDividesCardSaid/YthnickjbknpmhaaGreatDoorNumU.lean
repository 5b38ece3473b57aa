/-
  The contract of Cmp.
-/
import Derived.Test.YthnickjbknpmhaaGreatDoorNumT
namespace Go.Proofs.YthnickjbknpmhaaGreatDoor
open Go.RowKit Go.Shelf

/-- The memory of Cmp: the two numbers' boxes; nothing older has turned. -/
def S2 (w : World) (neg : Bool) (A : Option Addr) (n c : Nat) (neg2 : Bool) (A2 : Option Addr) (n2 c2 : Nat) (W : World) : Prop :=
  Below (w.heap.size + 1 + 1) ((w.alloc (.cells #[.bool neg, .slice A n c] 26)).alloc (.cells #[.bool neg2, .slice A2 n2 c2] 26)) W
section
variable {w W W1 : World} {neg neg2 : Bool} {A A2 : Option Addr} {n c n2 c2 : Nat}
theorem S2.start : S2 w neg A n c neg2 A2 n2 c2 ((w.alloc (.cells #[.bool neg, .slice A n c] 26)).alloc (.cells #[.bool neg2, .slice A2 n2 c2] 26)) := Below.refl _ _
theorem S2.size (h : S2 w neg A n c neg2 A2 n2 c2 W) : w.heap.size + 1 + 1 ≤ W.heap.size := by have := Below.size h; simpa using this
theorem S2.via (h : S2 w neg A n c neg2 A2 n2 c2 W) (hb : Below W.heap.size W W1) : S2 w neg A n c neg2 A2 n2 c2 W1 := Below.trans h (hb.mono h.size)
theorem S2.below (h : S2 w neg A n c neg2 A2 n2 c2 W) : Below w.heap.size w W := Below.trans (by go_grown) (Below.mono h (by omega))
theorem S2.facts (h : S2 w neg A n c neg2 A2 n2 c2 W) : W.cell? ⟨w.heap.size, 0, none⟩ = some (.bool neg) ∧ W.cell? ⟨w.heap.size, 1, none⟩ = some (.slice A n c) ∧ W.cell? ⟨w.heap.size + 1, 0, none⟩ = some (.bool neg2) ∧ W.cell? ⟨w.heap.size + 1, 1, none⟩ = some (.slice A2 n2 c2) := by
  have h' : Below (w.heap.size + 1 + 1) ((w.alloc (.cells #[.bool neg, .slice A n c] 26)).alloc (.cells #[.bool neg2, .slice A2 n2 c2] 26)) W := h
  have k : ∀ b o, b < w.heap.size + 1 + 1 → W.cell? ⟨b, o, none⟩ = ((w.alloc (.cells #[.bool neg, .slice A n c] 26)).alloc (.cells #[.bool neg2, .slice A2 n2 c2] 26)).cell? ⟨b, o, none⟩ := fun b o hb => h'.cell (p := ⟨b, o, none⟩) hb
  refine ⟨?_, ?_, ?_, ?_⟩
  · rw [k _ _ (by omega)]; simp [go_sem]
  · rw [k _ _ (by omega)]; simp [go_sem]
  · rw [k _ _ (by omega)]; simp [go_sem]
  · rw [k _ _ (by omega)]; simp [go_sem]
end

/-- The order of two integers. -/
def cmpI (x y : Int) : Int := if x < y then -1 else if y < x then 1 else 0
def cmpS (neg : Bool) (l : List Nat) (neg2 : Bool) (m : List Nat) : Int :=
  if rightB neg l = true ∧ rightB neg2 m = true then cmpI (sgn neg (nval l)) (sgn neg2 (nval m)) else 0
/-- What the switch makes of the order of the digits. -/
def cmpB (neg neg2 : Bool) (o : Int) : Int := if neg && neg2 then -o else if neg then -1 else if neg2 then 1 else o
theorem cmpB_eq {neg neg2 : Bool} {a b : Nat} (ha : neg = true → 0 < a) (hb : neg2 = true → 0 < b) : cmpB neg neg2 (cmpv a b) = cmpI (sgn neg a) (sgn neg2 b) := by
  cases neg <;> cases neg2 <;> simp [cmpB, sgn, cmpI, cmpv] at * <;> (repeat' split) <;> omega
theorem cmpv_b (a b : Nat) : -1 ≤ cmpv a b ∧ cmpv a b ≤ 1 := by unfold cmpv; split <;> (try split) <;> omega

set_option maxRecDepth 100000 in
set_option maxHeartbeats 1000000 in
theorem cmp_no1 (neg neg2 : Bool) {A A2 : Option Addr} {n n2 c c2 B : Nat} {l : List Nat} {w : World} (h : Sl w B A n c l) (hB : B ≤ w.heap.size) (h1 : rightB neg l = false) :
    Calls Tryz.prog 39 #[.agg #[.bool neg, .slice A n c], .agg #[.bool neg2, .slice A2 n2 c2]] w fun e w' => e = .returned (.int .i64 0) ∧ Below w.heap.size w w' := by
  have R1 := Lib.hid (right_at neg (h.more hB) false h1)
  have s0 := S2.start (w := w) (neg := neg) (A := A) (n := n) (c := c) (neg2 := neg2) (A2 := A2) (n2 := n2) (c2 := c2)
  clear h h1
  go_enter Tryz.func39, Tryz.ntmps39
  go_wp2_with (go_at_call 24; refine (R1.out _ s0.below).mono ?_; rintro e w1 ⟨rfl, hb⟩; have s1 := s0.via hb; obtain ⟨a0, a1, b0, b1⟩ := s1.facts)
  go_ret
  exact ⟨rfl, s1.below⟩
set_option maxRecDepth 100000 in
set_option maxHeartbeats 1000000 in
theorem cmp_no2 (neg neg2 : Bool) {A A2 : Option Addr} {n n2 c c2 B : Nat} {l m : List Nat} {w : World} (h : Sl w B A n c l) (h2 : Sl w B A2 n2 c2 m) (hB : B ≤ w.heap.size) (h1 : rightB neg l = true) (k1 : rightB neg2 m = false) :
    Calls Tryz.prog 39 #[.agg #[.bool neg, .slice A n c], .agg #[.bool neg2, .slice A2 n2 c2]] w fun e w' => e = .returned (.int .i64 0) ∧ Below w.heap.size w w' := by
  have R1 := Lib.hid (right_at neg (h.more hB) true h1)
  have R2 := Lib.hid (right_at neg2 (h2.more hB) false k1)
  have s0 := S2.start (w := w) (neg := neg) (A := A) (n := n) (c := c) (neg2 := neg2) (A2 := A2) (n2 := n2) (c2 := c2)
  clear h h1 h2 k1
  go_enter Tryz.func39, Tryz.ntmps39
  go_wp2_with (first
    | (go_at_call 24; (with_reducible refine (R1.out _ s0.below).mono ?_); rintro e w1 ⟨rfl, hb⟩; have s1 := s0.via hb; obtain ⟨a0, a1, b0, b1⟩ := s1.facts)
    | (go_at_call 24; (with_reducible refine (R2.out _ s1.below).mono ?_); rintro e w2 ⟨rfl, hb⟩; have s2 := s1.via hb; clear a0 a1 b0 b1; obtain ⟨a0, a1, b0, b1⟩ := s2.facts)
    | fail "no arm")
  go_ret
  exact ⟨rfl, s2.below⟩
set_option maxRecDepth 100000 in
set_option maxHeartbeats 2000000 in
theorem cmp_yes (neg neg2 : Bool) {A A2 : Option Addr} {n n2 c c2 B : Nat} {l m : List Nat} {w : World} (h : Sl w B A n c l) (h2 : Sl w B A2 n2 c2 m) (hB : B ≤ w.heap.size) (h1 : rightB neg l = true) (k1 : rightB neg2 m = true) :
    Calls Tryz.prog 39 #[.agg #[.bool neg, .slice A n c], .agg #[.bool neg2, .slice A2 n2 c2]] w fun e w' => e = .returned (.int .i64 (cmpB neg neg2 (cmpv (nval l) (nval m)))) ∧ Below w.heap.size w w' := by
  have R1 := Lib.hid (right_at neg (h.more hB) true h1)
  have R2 := Lib.hid (right_at neg2 (h2.more hB) true k1)
  have hl := right_true h1 h.dig
  have hm := right_true k1 h2.dig
  have CP := Lib.hid (fun (W : World) (hW : Below w.heap.size w W) => compare_any ((h.more hB).below hW) ((h2.more hB).below hW) hW.size hl.1 hm.1)
  have s0 := S2.start (w := w) (neg := neg) (A := A) (n := n) (c := c) (neg2 := neg2) (A2 := A2) (n2 := n2) (c2 := c2)
  obtain ⟨o, ho⟩ : ∃ o, cmpv (nval l) (nval m) = o := ⟨_, rfl⟩
  obtain ⟨o1, o2⟩ := cmpv_b (nval l) (nval m)
  rw [ho] at CP o1 o2 ⊢
  have hw : IntKind.i64.wrap (-o) = -o := by rw [IntKind.wrap_i64]; omega
  clear h h1 h2 k1 hl hm ho
  cases neg <;> cases neg2
  all_goals
    go_enter Tryz.func39, Tryz.ntmps39
    go_wp2_with (first
      | (go_at_call 24; (with_reducible refine (R1.out _ s0.below).mono ?_); rintro e w1 ⟨rfl, hb⟩; have s1 := s0.via hb; obtain ⟨a0, a1, b0, b1⟩ := s1.facts)
      | (go_at_call 24; (with_reducible refine (R2.out _ s1.below).mono ?_); rintro e w2 ⟨rfl, hb⟩; have s2 := s1.via hb; clear a0 a1 b0 b1; obtain ⟨a0, a1, b0, b1⟩ := s2.facts)
      | (go_at_call 49; (with_reducible refine (CP.out _ s2.below).mono ?_); rintro e w3 ⟨rfl, hb⟩; have s3 := s2.via hb; clear a0 a1 b0 b1; obtain ⟨a0, a1, b0, b1⟩ := s3.facts)
      | fail "no arm")
    go_ret
    exact ⟨by simp [cmpB], s3.below⟩

theorem cmp_any (neg neg2 : Bool) {A A2 : Option Addr} {n n2 c c2 B : Nat} {l m : List Nat} {w : World} (h : Sl w B A n c l) (h2 : Sl w B A2 n2 c2 m) (hB : B ≤ w.heap.size) :
    Calls Tryz.prog 39 #[.agg #[.bool neg, .slice A n c], .agg #[.bool neg2, .slice A2 n2 c2]] w fun e w' => e = .returned (.int .i64 (cmpS neg l neg2 m)) ∧ Below w.heap.size w w' := by
  cases h1 : rightB neg l with
  | false => rw [show cmpS neg l neg2 m = 0 by unfold cmpS; rw [if_neg (by rw [h1]; simp)]]; exact cmp_no1 neg neg2 h hB h1
  | true =>
    cases k1 : rightB neg2 m with
    | false => rw [show cmpS neg l neg2 m = 0 by unfold cmpS; rw [if_neg (by rw [k1]; simp)]]; exact cmp_no2 neg neg2 h h2 hB h1 k1
    | true =>
      have hp : ∀ {b : Bool} {k : List Nat}, rightB b k = true → Dig k → b = true → 0 < nval k := fun {b k} hr hd hb => by
        rcases Nat.eq_zero_or_pos (nval k) with h0 | h0
        · have := (right_true hr hd).2.2 (canon_zero (right_true hr hd).1 h0); rw [hb] at this; cases this
        · exact h0
      rw [show cmpS neg l neg2 m = cmpB neg neg2 (cmpv (nval l) (nval m)) by unfold cmpS; rw [if_pos ⟨h1, k1⟩, cmpB_eq (hp h1 h.dig) (hp k1 h2.dig)]]
      exact cmp_yes neg neg2 h h2 hB h1 k1
end Go.Proofs.YthnickjbknpmhaaGreatDoor
