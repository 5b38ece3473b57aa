/-
  The contracts of bits.Add32 and bits.Sub32.
-/
import Derived.Test.YthnickjbknpmhaaGreatDoorNumB
namespace Go.Proofs.YthnickjbknpmhaaGreatDoor
open Go.RowKit

theorem ofInt32 (a : Nat) (ha : a < 4294967296) : (BitVec.ofInt 32 (a : Int)).toNat = a := by
  rw [BitVec.ofInt_natCast, BitVec.toNat_ofNat]; exact Nat.mod_eq_of_lt (by omega)
theorem band32 (a b : Nat) (ha : a < 4294967296) (hb : b < 4294967296) : bits .and .u32 (a : Int) (b : Int) = ((a &&& b : Nat) : Int) := by
  have hx : a &&& b < 2 ^ 32 := Nat.and_lt_two_pow _ (by omega)
  show IntKind.u32.wrap ((BitVec.ofInt 32 (a : Int) &&& BitVec.ofInt 32 (b : Int)).toNat : Int) = _
  rw [BitVec.toNat_and, ofInt32 a ha, ofInt32 b hb, IntKind.wrap_u32]
  omega
theorem bor32 (a b : Nat) (ha : a < 4294967296) (hb : b < 4294967296) : bits .or .u32 (a : Int) (b : Int) = ((a ||| b : Nat) : Int) := by
  have hx : a ||| b < 2 ^ 32 := Nat.or_lt_two_pow (by omega) (by omega)
  show IntKind.u32.wrap ((BitVec.ofInt 32 (a : Int) ||| BitVec.ofInt 32 (b : Int)).toNat : Int) = _
  rw [BitVec.toNat_or, ofInt32 a ha, ofInt32 b hb, IntKind.wrap_u32]
  omega
theorem bxor32 (a b : Nat) (ha : a < 4294967296) (hb : b < 4294967296) : bits .xor .u32 (a : Int) (b : Int) = ((a ^^^ b : Nat) : Int) := by
  have hx : a ^^^ b < 2 ^ 32 := Nat.xor_lt_two_pow (by omega) (by omega)
  show IntKind.u32.wrap ((BitVec.ofInt 32 (a : Int) ^^^ BitVec.ofInt 32 (b : Int)).toNat : Int) = _
  rw [BitVec.toNat_xor, ofInt32 a ha, ofInt32 b hb, IntKind.wrap_u32]
  omega
theorem top32 (v : Nat) (hv : v < 4294967296) : v / 2147483648 = (v.testBit 31).toNat := by
  rw [Nat.testBit_eq_decide_div_mod_eq]
  have : v / 2147483648 < 2 := by omega
  by_cases h : v / 2147483648 = 0
  · simp [h]
  · have h1 : v / 2147483648 = 1 := by omega
    simp [h1]
theorem bit32 (v : Nat) (hv : v < 4294967296) : v.testBit 31 = decide (2147483648 ≤ v) := by
  rw [Nat.testBit_eq_decide_div_mod_eq]
  by_cases h : 2147483648 ≤ v <;> simp [h] <;> omega
theorem borrow_top (x y c : Nat) (hx : x < 4294967296) (hy : y < 4294967296) (hc : c ≤ 1) :
    (((4294967295 ^^^ x) &&& y) ||| ((4294967295 ^^^ (x ^^^ y)) &&& ((x + 4294967296 - y - c) % 4294967296))) / 2147483648 = if x < y + c then 1 else 0 := by
  have h1 : (4294967295 ^^^ x) &&& y < 2 ^ 32 := Nat.and_lt_two_pow _ (by omega)
  have h2 : (4294967295 ^^^ (x ^^^ y)) &&& ((x + 4294967296 - y - c) % 4294967296) < 2 ^ 32 := Nat.and_lt_two_pow _ (by omega)
  have h3 := Nat.or_lt_two_pow h1 h2
  rw [top32 _ (by omega), Nat.testBit_or, Nat.testBit_and, Nat.testBit_and, Nat.testBit_xor, Nat.testBit_xor, Nat.testBit_xor, bit32 x hx, bit32 y hy, bit32 4294967295 (by omega), bit32 ((x + 4294967296 - y - c) % 4294967296) (by omega)]
  by_cases hb : x < y + c <;> by_cases h4 : 2147483648 ≤ x <;> by_cases h5 : 2147483648 ≤ y <;> simp [hb, h4, h5] <;> omega
theorem borrow_int (x y c : Nat) (hx : x < 4294967296) (hy : y < 4294967296) (hc : c ≤ 1) :
    bits BinOp.or IntKind.u32 (bits BinOp.and IntKind.u32 (bits BinOp.xor IntKind.u32 IntKind.u32.max x) y) (bits BinOp.and IntKind.u32 (bits BinOp.xor IntKind.u32 IntKind.u32.max (bits BinOp.xor IntKind.u32 x y)) (((x : Int) - y - c) % 4294967296)) / 2147483648 = (if x < y + c then 1 else 0 : Nat) := by
  have e : ((x : Int) - y - c) % 4294967296 = (((x + 4294967296 - y - c) % 4294967296 : Nat) : Int) := by omega
  have m : IntKind.u32.max = ((4294967295 : Nat) : Int) := rfl
  have h0 : x ^^^ y < 2 ^ 32 := Nat.xor_lt_two_pow (by omega) (by omega)
  have h1 : 4294967295 ^^^ x < 2 ^ 32 := Nat.xor_lt_two_pow (by omega) (by omega)
  have h2 : 4294967295 ^^^ (x ^^^ y) < 2 ^ 32 := Nat.xor_lt_two_pow (by omega) h0
  have h3 : (4294967295 ^^^ x) &&& y < 2 ^ 32 := Nat.and_lt_two_pow _ (by omega)
  have h4 : (4294967295 ^^^ (x ^^^ y)) &&& ((x + 4294967296 - y - c) % 4294967296) < 2 ^ 32 := Nat.and_lt_two_pow _ (by omega)
  rw [e, m, bxor32 x y hx hy, bxor32 _ x (by omega) hx, bxor32 _ _ (by omega) (by omega), band32 _ _ (by omega) hy, band32 _ _ (by omega) (by omega), bor32 _ _ (by omega) (by omega), ← borrow_top x y c hx hy hc]
  omega

set_option maxHeartbeats 400000 in
theorem add32_any (x y c : Nat) (w : World) (hx : x < 4294967296) (hy : y < 4294967296) (hc : c ≤ 1) :
    Calls Tryz.prog 55 #[.int .u32 x, .int .u32 y, .int .u32 c] w fun e w' => e = .returned (.tuple #[.int .u32 (((x + y + c) % 4294967296 : Nat) : Int), .int .u32 (((x + y + c) / 4294967296 : Nat) : Int)]) ∧ w = w' := by
  go_enter Tryz.func55, Tryz.ntmps55
  go_wp2
  exact bodyPost_ret (v := .tuple #[.int .u32 (((x : Int) + y + c) % 4294967296), .int .u32 (((x : Int) + y + c) / 4294967296)]) (by simp [results, Tryz.results55, go_sem]) rfl ⟨by simp, rfl⟩

set_option maxHeartbeats 400000 in
theorem sub32_any (x y c : Nat) (w : World) (hx : x < 4294967296) (hy : y < 4294967296) (hc : c ≤ 1) :
    Calls Tryz.prog 56 #[.int .u32 x, .int .u32 y, .int .u32 c] w fun e w' => e = .returned (.tuple #[.int .u32 (((x + 4294967296 - y - c) % 4294967296 : Nat) : Int), .int .u32 ((if x < y + c then 1 else 0 : Nat) : Int)]) ∧ w = w' := by
  rw [← borrow_int x y c hx hy hc, show (((x + 4294967296 - y - c) % 4294967296 : Nat) : Int) = ((x : Int) - y - c) % 4294967296 by omega]
  go_enter Tryz.func56, Tryz.ntmps56
  go_wp2
  exact bodyPost_ret (v := .tuple #[.int .u32 (((x : Int) - y - c) % 4294967296), .int .u32 (bits BinOp.or IntKind.u32 (bits BinOp.and IntKind.u32 (bits BinOp.xor IntKind.u32 IntKind.u32.max x) y) (bits BinOp.and IntKind.u32 (bits BinOp.xor IntKind.u32 IntKind.u32.max (bits BinOp.xor IntKind.u32 x y)) (((x : Int) - y - c) % 4294967296)) / 2147483648)]) (by simp [results, Tryz.results56, go_sem]) rfl ⟨rfl, rfl⟩

/-- The digit and the carry of a sum, the digit and the borrow of a difference. -/
def adD (x y c : Nat) : Nat := (x + y + c) % 4294967296
def adC (x y c : Nat) : Nat := (x + y + c) / 4294967296
def sbD (x y c : Nat) : Nat := (x + 4294967296 - y - c) % 4294967296
def sbB (x y c : Nat) : Nat := if x < y + c then 1 else 0
theorem ad_spec {x y c : Nat} (hx : x < 4294967296) (hy : y < 4294967296) (hc : c ≤ 1) : adD x y c + 4294967296 * adC x y c = x + y + c ∧ adD x y c < 4294967296 ∧ adC x y c ≤ 1 := by
  unfold adD adC; omega
theorem sb_spec {x y c : Nat} (hx : x < 4294967296) (hy : y < 4294967296) (hc : c ≤ 1) : sbD x y c + y + c = x + 4294967296 * sbB x y c ∧ sbD x y c < 4294967296 ∧ sbB x y c ≤ 1 := by
  unfold sbD sbB; split <;> omega
theorem add32_to (x y c : Nat) (w : World) (hx : x < 4294967296) (hy : y < 4294967296) (hc : c ≤ 1) :
    Calls Tryz.prog 55 #[.int .u32 x, .int .u32 y, .int .u32 c] w fun e w' => e = .returned (.tuple #[.int .u32 (adD x y c : Nat), .int .u32 (adC x y c : Nat)]) ∧ w = w' := add32_any x y c w hx hy hc
theorem sub32_to (x y c : Nat) (w : World) (hx : x < 4294967296) (hy : y < 4294967296) (hc : c ≤ 1) :
    Calls Tryz.prog 56 #[.int .u32 x, .int .u32 y, .int .u32 c] w fun e w' => e = .returned (.tuple #[.int .u32 (sbD x y c : Nat), .int .u32 (sbB x y c : Nat)]) ∧ w = w' := sub32_any x y c w hx hy hc
end Go.Proofs.YthnickjbknpmhaaGreatDoor
