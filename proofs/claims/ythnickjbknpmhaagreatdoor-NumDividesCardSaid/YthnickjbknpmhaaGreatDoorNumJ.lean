/-
  The contract of step: one digit of a quotient.
-/
import Derived.Test.YthnickjbknpmhaaGreatDoorNumI
import Derived.Deep.DeepCutAuto
namespace Go.Proofs.YthnickjbknpmhaaGreatDoor
open Go.RowKit Go.Shelf

/-- The low digit and the carry of a product that is taken away. -/
def msL (cy g d : Nat) : Nat := (cy + g * d) % 4294967296
def msH (cy g d : Nat) : Nat := (cy + g * d) / 4294967296
theorem ms_spec {cy g d : Nat} (h1 : cy < 4294967296) (hx : g < 4294967296) (hy : d < 4294967296) : msL cy g d + 4294967296 * msH cy g d = cy + g * d ∧ msL cy g d < 4294967296 ∧ msH cy g d < 4294967296 := by
  have := mul_lt32 hx hy
  unfold msL msH
  omega
theorem band64_low (c : Nat) (hc : c < 18446744073709551616) : bits .and .u64 (c : Int) 4294967295 = ((c % 4294967296 : Nat) : Int) := by
  have hx : c &&& 4294967295 < 2 ^ 64 := Nat.and_lt_two_pow _ (by omega)
  show IntKind.u64.wrap ((BitVec.ofInt 64 (c : Int) &&& BitVec.ofInt 64 ((4294967295 : Nat) : Int)).toNat : Int) = _
  rw [BitVec.toNat_and, ofInt64 c hc, ofInt64 4294967295 (by omega), IntKind.wrap_u64]
  have := Nat.and_two_pow_sub_one_eq_mod c 32
  simp only [Nat.reducePow, Nat.reduceSub] at this
  rw [this]
  omega
theorem sub64 {a y b : Nat} (ha : a < 4294967296) (hy : y < 4294967296) (hb : b ≤ 1) :
    IntKind.u64.wrap (IntKind.u64.wrap ((a : Int) - y) - b) % 4294967296 = ((sbD a y b : Nat) : Int) ∧ IntKind.u64.wrap (IntKind.u64.wrap ((a : Int) - y) - b) / 9223372036854775808 = ((sbB a y b : Nat) : Int) := by
  rw [IntKind.wrap_u64, IntKind.wrap_u64]
  unfold sbD sbB
  split <;> omega
theorem ms_int {cy g d a b : Nat} (h1 : cy < 4294967296) (hx : g < 4294967296) (hy : d < 4294967296) (ha : a < 4294967296) (hb : b ≤ 1) :
    IntKind.u64.wrap (IntKind.u64.wrap ((a : Int) - bits .and .u64 (IntKind.u64.wrap (↑cy + IntKind.u64.wrap (↑g * ↑d))) 4294967295) - b) % 4294967296 = ((sbD a (msL cy g d) b : Nat) : Int) ∧
      IntKind.u64.wrap (IntKind.u64.wrap ((a : Int) - bits .and .u64 (IntKind.u64.wrap (↑cy + IntKind.u64.wrap (↑g * ↑d))) 4294967295) - b) / 9223372036854775808 = ((sbB a (msL cy g d) b : Nat) : Int) ∧
      IntKind.u64.wrap (↑cy + IntKind.u64.wrap (↑g * ↑d)) / 4294967296 = ((msH cy g d : Nat) : Int) := by
  have h := mul_lt32 hx hy
  have e : IntKind.u64.wrap (↑cy + IntKind.u64.wrap (↑g * ↑d)) = ((cy + g * d : Nat) : Int) := by
    have e : (g : Int) * d = ((g * d : Nat) : Int) := by simp
    rw [e, IntKind.wrap_u64, IntKind.wrap_u64]
    generalize g * d = z at *
    omega
  rw [e, band64_low _ (by omega)]
  have s := ms_spec h1 hx hy
  have t := sub64 ha s.2.1 hb
  refine ⟨t.1, t.2, ?_⟩
  unfold msH
  omega

theorem mulsub_step {L R c b P P' a d g m cl ch bo : Nat} (hp : P' = P * 4294967296) (h : L + P * (c + b) = R + g * m) (h1 : cl + 4294967296 * ch = c + g * d) {x : Nat} (h2 : x + cl + b = a + 4294967296 * bo) :
    (L + P * a) + P' * (ch + bo) = (R + P * x) + g * (m + P * d) := by
  have e1 : P * (cl + 4294967296 * ch) = P * (c + g * d) := by rw [h1]
  have e2 : P * (x + cl + b) = P * (a + 4294967296 * bo) := by rw [h2]
  have e3 : g * (P * d) = P * (g * d) := Nat.mul_left_comm _ _ _
  simp only [Nat.mul_add, ← Nat.mul_assoc] at e1 e2 e3 h ⊢
  subst hp
  omega

/-- The first guess is not too small. -/
theorem guess_ok {n g : Nat} {u v : List Nat} (hu : u.length = n + 2) (hv : v.length = n + 1) (du : Dig u)
    (h : (dg u (n + 1) * 4294967296 + dg u n) + 1 ≤ (g + 1) * dg v n) : nval u < (g + 1) * nval v := by
  have e1 := nval_take_dg u (n + 1)
  have e2 := nval_take_dg u n
  rw [List.take_of_length_le (by omega)] at e1
  have e3 := nval_take_dg v n
  rw [List.take_of_length_le (by omega)] at e3
  have e4 := nval_lt (dig_take du n)
  rw [List.length_take, Nat.min_eq_left (by omega)] at e4
  have h2 : 4294967296 ^ n * ((dg u (n + 1) * 4294967296 + dg u n) + 1) ≤ 4294967296 ^ n * ((g + 1) * dg v n) := Nat.mul_le_mul_left _ h
  rw [e1, e2, e3, Nat.pow_succ]
  have e5 : 4294967296 ^ n * ((g + 1) * dg v n) = (g + 1) * (4294967296 ^ n * dg v n) := Nat.mul_left_comm _ _ _
  rw [e5] at h2
  have e6 : 4294967296 ^ n * ((dg u (n + 1) * 4294967296 + dg u n) + 1) = 4294967296 ^ n * dg u n + 4294967296 ^ n * 4294967296 * dg u (n + 1) + 4294967296 ^ n := by
    rw [Nat.mul_add, Nat.mul_add, Nat.mul_one, Nat.mul_assoc, Nat.mul_comm (dg u (n + 1))]; omega
  rw [e6] at h2
  rw [Nat.mul_add (g + 1)]
  omega
end Go.Proofs.YthnickjbknpmhaaGreatDoor
