/-
  The contracts of Int and Of.
-/
import Derived.Test.YthnickjbknpmhaaGreatDoorNumU
namespace Go.Proofs.YthnickjbknpmhaaGreatDoor
open Go.RowKit Go.Shelf

/-- The memory of Int: the number's box; nothing older has turned. -/
def S1 (w : World) (neg : Bool) (A : Option Addr) (n c : Nat) (W : World) : Prop :=
  Below (w.heap.size + 1) (w.alloc (.cells #[.bool neg, .slice A n c] 26)) W
section
variable {w W W1 : World} {neg : Bool} {A : Option Addr} {n c : Nat}
theorem S1.start : S1 w neg A n c (w.alloc (.cells #[.bool neg, .slice A n c] 26)) := Below.refl _ _
theorem S1.size (h : S1 w neg A n c W) : w.heap.size + 1 ≤ W.heap.size := by have := Below.size h; simpa using this
theorem S1.via (h : S1 w neg A n c W) (hb : Below W.heap.size W W1) : S1 w neg A n c W1 := Below.trans h (hb.mono h.size)
theorem S1.drew (h : S1 w neg A n c W) : S1 w neg A n c W.drew := Below.drew h
theorem S1.drewN (h : S1 w neg A n c W) (k : Nat) : S1 w neg A n c (W.drewN k) := below_drewN h k
theorem S1.below (h : S1 w neg A n c W) : Below w.heap.size w W := Below.trans (by go_grown) (Below.mono h (by omega))
theorem S1.facts (h : S1 w neg A n c W) : W.cell? ⟨w.heap.size, 0, none⟩ = some (.bool neg) ∧ W.cell? ⟨w.heap.size, 1, none⟩ = some (.slice A n c) := by
  have h' : Below (w.heap.size + 1) (w.alloc (.cells #[.bool neg, .slice A n c] 26)) W := h
  have k : ∀ b o, b < w.heap.size + 1 → W.cell? ⟨b, o, none⟩ = (w.alloc (.cells #[.bool neg, .slice A n c] 26)).cell? ⟨b, o, none⟩ := fun b o hb => h'.cell (p := ⟨b, o, none⟩) hb
  refine ⟨?_, ?_⟩
  · rw [k _ _ (by omega)]; simp [go_sem]
  · rw [k _ _ (by omega)]; simp [go_sem]
end

/-- An integer of 64 bits, if it fits. -/
def fit64 (x : Int) : Option Int := if -9223372036854775808 ≤ x ∧ x < 9223372036854775808 then some x else none
def intS (neg : Bool) (l : List Nat) : Option Int := if rightB neg l = true ∧ l.length ≤ 2 then fit64 (sgn neg (nval l)) else none
/-- What Int returns. -/
def RetI (r : Option Int) (w : World) (e : Ending) (w' : World) : Prop := e = .returned (.tuple #[.int .i64 (vO r), .bool (okO r)]) ∧ Below w.heap.size w w'

set_option maxRecDepth 100000 in
set_option maxHeartbeats 1000000 in
theorem int_no1 (neg : Bool) {A : Option Addr} {n c B : Nat} {l : List Nat} {w : World} (h : Sl w B A n c l) (hB : B ≤ w.heap.size) (h1 : rightB neg l = false) :
    Calls Tryz.prog 21 #[.agg #[.bool neg, .slice A n c]] w (RetI none w) := by
  have R1 := Lib.hid (right_at neg (h.more hB) false h1)
  have s0 := S1.start (w := w) (neg := neg) (A := A) (n := n) (c := c)
  clear h h1
  go_enter Tryz.func21, Tryz.ntmps21
  go_wp2_with (go_at_call 24; refine (R1.out _ s0.below).mono ?_; rintro e w1 ⟨rfl, hb⟩; have s1 := s0.via hb; obtain ⟨a0, a1⟩ := s1.facts)
  go_ret2
  exact ⟨rfl, s1.below⟩

set_option maxRecDepth 100000 in
set_option maxHeartbeats 1000000 in
theorem int_no2 (neg : Bool) {A : Option Addr} {n c B : Nat} {l : List Nat} {w : World} (h : Sl w B A n c l) (hB : B ≤ w.heap.size) (h1 : rightB neg l = true) (hn : 2 < n) :
    Calls Tryz.prog 21 #[.agg #[.bool neg, .slice A n c]] w (RetI none w) := by
  have R1 := Lib.hid (right_at neg (h.more hB) true h1)
  have s0 := S1.start (w := w) (neg := neg) (A := A) (n := n) (c := c)
  have hn2 : (2 : Int) < (n : Int) := by omega
  clear h h1
  go_enter Tryz.func21, Tryz.ntmps21
  go_wp2_with (go_at_call 24; refine (R1.out _ s0.below).mono ?_; rintro e w1 ⟨rfl, hb⟩; have s1 := s0.via hb; obtain ⟨a0, a1⟩ := s1.facts)
  go_ret2
  exact ⟨rfl, s1.below⟩

theorem neg_u64 {v : Int} (h0 : 0 < v) (h : v ≤ 9223372036854775808) : IntKind.i64.wrap (IntKind.u64.wrap (-v)) = -v := by
  rw [IntKind.wrap_u64, IntKind.wrap_i64]; omega
theorem pos_i64 {v : Int} (h0 : 0 ≤ v) (h : v < 9223372036854775808) : IntKind.i64.wrap v = v := by rw [IntKind.wrap_i64]; omega

set_option maxRecDepth 100000 in
set_option maxHeartbeats 2000000 in
theorem int_yes (neg : Bool) {A : Option Addr} {n c B : Nat} {l : List Nat} {w : World} (h : Sl w B A n c l) (hB : B ≤ w.heap.size) (h1 : rightB neg l = true) (hn : n ≤ 2) :
    Calls Tryz.prog 21 #[.agg #[.bool neg, .slice A n c]] w (RetI (fit64 (sgn neg (nval l))) w) := by
  have R1 := Lib.hid (right_at neg (h.more hB) true h1)
  have hl := right_true h1 h.dig
  have hp : neg = true → 0 < nval l := fun e => by
    rcases Nat.eq_zero_or_pos (nval l) with h0 | h0
    · have := hl.2.2 (canon_zero hl.1 h0); rw [e] at this; cases this
    · exact h0
  have WO := Lib.hid (fun (W : World) (hW : Below w.heap.size w W) => word_any A n c w.heap.size l W ((h.more hB).below hW) hW.size hn)
  obtain ⟨v, hv⟩ : ∃ v, nval l = v := ⟨_, rfl⟩
  rw [hv] at WO hp ⊢
  have s0 := S1.start (w := w) (neg := neg) (A := A) (n := n) (c := c)
  have hn2 : ¬ (2 : Int) < (n : Int) := by omega
  clear h h1 hl hv hn
  obtain ⟨x, hx⟩ : ∃ x : Int, (v : Int) = x := ⟨_, rfl⟩
  have hx0 : 0 ≤ x := by omega
  have hxp : neg = true → 0 < x := fun e => by have := hp e; omega
  have hsg : sgn neg v = if neg then -x else x := by unfold sgn; rw [hx]
  rw [hx] at WO
  rw [hsg]
  clear hp hsg hx
  cases neg
  · rcases Int.lt_or_le x 9223372036854775808 with h5 | h5
    · have e1 := pos_i64 hx0 h5
      have e2 : x < 9223372036854775808 := by omega
      rw [show fit64 (if false = true then -x else x) = some x by unfold fit64; rw [if_pos (by simp; omega)]; rfl]
      clear h5 hxp
      go_enter Tryz.func21, Tryz.ntmps21
      go_wp2_with (first
        | (go_at_call 24; (with_reducible refine (R1.out _ s0.below).mono ?_); rintro e w1 ⟨rfl, hb⟩; have s1 := s0.via hb; obtain ⟨a0, a1⟩ := s1.facts)
        | (go_at_call 33; (with_reducible refine (WO.out _ s1.below).mono ?_); rintro e w2 ⟨rfl, hb⟩; have s2 := s1.via hb; clear a0 a1; obtain ⟨a0, a1⟩ := s2.facts)
        | fail "no arm")
      go_ret2
      exact ⟨rfl, s2.below⟩
    · have e2 : ¬ x < 9223372036854775808 := by omega
      rw [show fit64 (if false = true then -x else x) = none by unfold fit64; rw [if_neg (by simp; omega)]]
      clear h5 hxp
      go_enter Tryz.func21, Tryz.ntmps21
      go_wp2_with (first
        | (go_at_call 24; (with_reducible refine (R1.out _ s0.below).mono ?_); rintro e w1 ⟨rfl, hb⟩; have s1 := s0.via hb; obtain ⟨a0, a1⟩ := s1.facts)
        | (go_at_call 33; (with_reducible refine (WO.out _ s1.below).mono ?_); rintro e w2 ⟨rfl, hb⟩; have s2 := s1.via hb; clear a0 a1; obtain ⟨a0, a1⟩ := s2.facts)
        | fail "no arm")
      go_ret2
      exact ⟨rfl, s2.below⟩
  · have hp0 := hxp rfl
    rcases Int.lt_or_le 9223372036854775808 x with h5 | h5
    · have e2 : ¬ x ≤ 9223372036854775808 := by omega
      rw [show fit64 (if true = true then -x else x) = none by unfold fit64; rw [if_neg (by simp; omega)]]
      go_enter Tryz.func21, Tryz.ntmps21
      go_wp2_with (first
        | (go_at_call 24; (with_reducible refine (R1.out _ s0.below).mono ?_); rintro e w1 ⟨rfl, hb⟩; have s1 := s0.via hb; obtain ⟨a0, a1⟩ := s1.facts)
        | (go_at_call 33; (with_reducible refine (WO.out _ s1.below).mono ?_); rintro e w2 ⟨rfl, hb⟩; have s2 := s1.via hb; clear a0 a1; obtain ⟨a0, a1⟩ := s2.facts)
        | fail "no arm")
      go_ret2
      exact ⟨rfl, s2.below⟩
    · have e2 : x ≤ 9223372036854775808 := by omega
      have e1 := neg_u64 hp0 h5
      rw [show fit64 (if true = true then -x else x) = some (-x) by unfold fit64; rw [if_pos (by simp; omega)]; rfl]
      go_enter Tryz.func21, Tryz.ntmps21
      go_wp2_with (first
        | (go_at_call 24; (with_reducible refine (R1.out _ s0.below).mono ?_); rintro e w1 ⟨rfl, hb⟩; have s1 := s0.via hb; obtain ⟨a0, a1⟩ := s1.facts)
        | (go_at_call 33; (with_reducible refine (WO.out _ s1.below).mono ?_); rintro e w2 ⟨rfl, hb⟩; have s2 := s1.via hb; clear a0 a1; obtain ⟨a0, a1⟩ := s2.facts)
        | fail "no arm")
      go_ret2
      exact ⟨rfl, s2.below⟩

theorem int_any (neg : Bool) {A : Option Addr} {n c B : Nat} {l : List Nat} {w : World} (h : Sl w B A n c l) (hB : B ≤ w.heap.size) :
    Calls Tryz.prog 21 #[.agg #[.bool neg, .slice A n c]] w (RetI (intS neg l) w) := by
  cases h1 : rightB neg l with
  | false => rw [show intS neg l = none by unfold intS; rw [if_neg (by rw [h1]; simp)]]; exact int_no1 neg h hB h1
  | true =>
    rcases Nat.lt_or_ge 2 n with hn | hn
    · rw [show intS neg l = none by unfold intS; rw [if_neg (by rw [h.len]; omega)]]; exact int_no2 neg h hB h1 hn
    · rw [show intS neg l = fit64 (sgn neg (nval l)) by unfold intS; rw [if_pos ⟨h1, by rw [h.len]; exact hn⟩]]; exact int_yes neg h hB h1 hn
end Go.Proofs.YthnickjbknpmhaaGreatDoor
