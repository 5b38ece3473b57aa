/-
  The contract of Div, all cases: the quotient and the rest of integers.
-/
import Derived.Test.YthnickjbknpmhaaGreatDoorNumZ
namespace Go.Proofs.YthnickjbknpmhaaGreatDoor
open Go.RowKit Go.Shelf

/-- Quotient and rest, if there are. -/
def divS (neg : Bool) (l : List Nat) (neg2 : Bool) (m : List Nat) : Option (Int × Int) :=
  if rightB neg l = true ∧ rightB neg2 m = true ∧ m ≠ [] then some (sgn neg (nval l) / sgn neg2 (nval m), sgn neg (nval l) % sgn neg2 (nval m)) else none

theorem ediv_nat (L V : Nat) : (L : Int) / (V : Int) = ((L / V : Nat) : Int) ∧ (L : Int) % (V : Int) = ((L % V : Nat) : Int) := ⟨rfl, rfl⟩
theorem ediv_zero {L V : Nat} (hV : 0 < V) (h : L % V = 0) : (-(L : Int)) / (V : Int) = -((L / V : Nat) : Int) ∧ (-(L : Int)) % (V : Int) = 0 := by
  refine (Int.ediv_emod_unique (by omega)).2 ⟨?_, by omega, by omega⟩
  have h1 : V * (L / V) = L := by have := Nat.div_add_mod L V; omega
  have h2 := congrArg (fun n : Nat => (n : Int)) h1
  simp only [Int.natCast_mul] at h2
  rw [Int.mul_neg, h2]; omega
theorem ediv_up {L V : Nat} (hV : 0 < V) (h : 0 < L % V) : (-(L : Int)) / (V : Int) = -((L / V + 1 : Nat) : Int) ∧ (-(L : Int)) % (V : Int) = ((V - L % V : Nat) : Int) := by
  have h0 := Nat.mod_lt L hV
  refine (Int.ediv_emod_unique (by omega)).2 ⟨?_, by omega, by omega⟩
  have h2 := congrArg (fun n : Nat => (n : Int)) (Nat.div_add_mod L V)
  simp only [Int.natCast_mul, Int.natCast_add] at h2
  rw [Int.mul_neg, Int.natCast_add, Int.mul_add]
  omega
theorem div_signs {L V : Nat} (hV : 0 < V) (neg neg2 : Bool) (hz : neg = false ∨ L % V = 0) : (sgn (!(neg == neg2)) (L / V), sgn false (L % V)) = (sgn neg L / sgn neg2 V, sgn neg L % sgn neg2 V) := by
  have e1 := ediv_nat L V
  cases neg with
  | false =>
    cases neg2 with
    | false => show (((L / V : Nat) : Int), ((L % V : Nat) : Int)) = ((L : Int) / (V : Int), (L : Int) % (V : Int)); rw [e1.1, e1.2]
    | true => show (-((L / V : Nat) : Int), ((L % V : Nat) : Int)) = ((L : Int) / -(V : Int), (L : Int) % -(V : Int)); rw [Int.ediv_neg, Int.emod_neg, e1.1, e1.2]
  | true =>
    have hz2 : L % V = 0 := by
      rcases hz with h | h
      · cases h
      · exact h
    have e2 := ediv_zero hV hz2
    cases neg2 with
    | false => show (-((L / V : Nat) : Int), ((L % V : Nat) : Int)) = (-(L : Int) / (V : Int), -(L : Int) % (V : Int)); rw [e2.1, e2.2, hz2]; rfl
    | true => show (((L / V : Nat) : Int), ((L % V : Nat) : Int)) = (-(L : Int) / -(V : Int), -(L : Int) % -(V : Int)); rw [Int.ediv_neg, Int.emod_neg, e2.1, e2.2, hz2, Int.neg_neg]; rfl
theorem div_signs_up {L V : Nat} (hV : 0 < V) (neg2 : Bool) (hz : 0 < L % V) : (sgn (!neg2) (L / V + 1), sgn false (V - L % V)) = (sgn true L / sgn neg2 V, sgn true L % sgn neg2 V) := by
  have e2 := ediv_up hV hz
  cases neg2 with
  | false => show (-((L / V + 1 : Nat) : Int), ((V - L % V : Nat) : Int)) = (-(L : Int) / (V : Int), -(L : Int) % (V : Int)); rw [e2.1, e2.2]
  | true => show (((L / V + 1 : Nat) : Int), ((V - L % V : Nat) : Int)) = (-(L : Int) / -(V : Int), -(L : Int) % -(V : Int)); rw [Int.ediv_neg, Int.emod_neg, e2.1, e2.2, Int.neg_neg]

theorem div_any (neg neg2 : Bool) {A A2 : Option Addr} {n n2 c c2 B : Nat} {l m : List Nat} {w : World} (h : Sl w B A n c l) (h2 : Sl w B A2 n2 c2 m) (hB : B ≤ w.heap.size) :
    Calls Tryz.prog 9 #[.agg #[.bool neg, .slice A n c], .agg #[.bool neg2, .slice A2 n2 c2]] w (RetDiv (divS neg l neg2 m) w) := by
  cases h1 : rightB neg l with
  | false => rw [show divS neg l neg2 m = none by unfold divS; rw [if_neg (by rw [h1]; simp)]]; exact div_no1 neg neg2 h hB h1
  | true =>
    cases k1 : rightB neg2 m with
    | false => rw [show divS neg l neg2 m = none by unfold divS; rw [if_neg (by rw [k1]; simp)]]; exact div_no2 neg neg2 h h2 hB h1 k1
    | true =>
      by_cases k0 : m = []
      · rw [show divS neg l neg2 m = none by unfold divS; rw [if_neg (by simp [k0])]]; exact div_no3 neg neg2 h h2 hB h1 k1 k0
      · rw [show divS neg l neg2 m = some (sgn neg (nval l) / sgn neg2 (nval m), sgn neg (nval l) % sgn neg2 (nval m)) by unfold divS; rw [if_pos ⟨h1, k1, k0⟩]]
        have hn2 : 0 < n2 := by
          rw [← h2.len]; exact List.length_pos_iff.2 k0
        have hm := right_true k1 h2.dig
        have hV0 : 0 < nval m := by
          rcases Nat.eq_zero_or_pos (nval m) with h0 | h0
          · exact absurd (canon_zero hm.1 h0) k0
          · exact h0
        by_cases hz : neg = false ∨ nval l % nval m = 0
        · have := div_plain neg neg2 h h2 hB h1 k1 hn2 hz
          rwa [div_signs hV0 neg neg2 hz] at this
        · have hz1 : neg = true := by cases neg <;> simp_all
          subst hz1
          have hz2 : 0 < nval l % nval m := by
            rcases Nat.eq_zero_or_pos (nval l % nval m) with h0 | h0
            · exact absurd (Or.inr h0) hz
            · exact h0
          have := div_up neg2 h h2 hB h1 k1 hn2 hz2
          rwa [div_signs_up hV0 neg2 hz2] at this
end Go.Proofs.YthnickjbknpmhaaGreatDoor
