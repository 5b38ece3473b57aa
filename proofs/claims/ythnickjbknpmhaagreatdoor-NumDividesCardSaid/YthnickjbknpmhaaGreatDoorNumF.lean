/-
  The contract of times.
-/
import Derived.Test.YthnickjbknpmhaaGreatDoorNumE
namespace Go.Proofs.YthnickjbknpmhaaGreatDoor
open Go.RowKit

theorem nval_set (o : List Nat) (p d : Nat) (h : p < o.length) : nval (o.set p d) + 4294967296 ^ p * dg o p = nval o + 4294967296 ^ p * d := by
  induction o generalizing p with
  | nil => simp at h
  | cons x o ih =>
    cases p with
    | zero => simp [nval, dg]; omega
    | succ p =>
      have := ih p (by simpa using h)
      have e : dg (x :: o) (p + 1) = dg o p := by simp [dg]
      rw [List.set_cons_succ, nval, nval, e, Nat.pow_succ]
      have h2 : 4294967296 * (nval (o.set p d) + 4294967296 ^ p * dg o p) = 4294967296 * (nval o + 4294967296 ^ p * d) := by rw [this]
      simp only [Nat.mul_add, ← Nat.mul_assoc] at h2
      rw [Nat.mul_comm (4294967296 ^ p) 4294967296]
      omega
theorem dg_set_ne {o : List Nat} {p q d : Nat} (h : p ≠ q) : dg (o.set p d) q = dg o q := by
  unfold dg; simp [List.getD_eq_getElem?_getD, List.getElem?_set_ne h]

/-- The digit and the carry of a product's step. -/
def mcD (cy d x y : Nat) : Nat := (cy + (d + x * y)) % 4294967296
def mcC (cy d x y : Nat) : Nat := (cy + (d + x * y)) / 4294967296
theorem mul_lt32 {x y : Nat} (hx : x < 4294967296) (hy : y < 4294967296) : x * y ≤ 18446744065119617025 := by
  have := Nat.mul_le_mul (show x ≤ 4294967295 by omega) (show y ≤ 4294967295 by omega)
  omega
theorem mc_spec {cy d x y : Nat} (h1 : cy < 4294967296) (h2 : d < 4294967296) (hx : x < 4294967296) (hy : y < 4294967296) : mcD cy d x y + 4294967296 * mcC cy d x y = cy + (d + x * y) ∧ mcD cy d x y < 4294967296 ∧ mcC cy d x y < 4294967296 := by
  have := mul_lt32 hx hy
  unfold mcD mcC
  omega
theorem mc_int {cy d x y : Nat} (h1 : cy < 4294967296) (h2 : d < 4294967296) (hx : x < 4294967296) (hy : y < 4294967296) :
    IntKind.u64.wrap (↑cy + IntKind.u64.wrap (↑d + IntKind.u64.wrap (↑x * ↑y))) / 4294967296 = ((mcC cy d x y : Nat) : Int) ∧ IntKind.u64.wrap (↑cy + IntKind.u64.wrap (↑d + IntKind.u64.wrap (↑x * ↑y))) % 4294967296 = ((mcD cy d x y : Nat) : Int) := by
  have h := mul_lt32 hx hy
  have e : (x : Int) * y = ((x * y : Nat) : Int) := by simp
  rw [e]
  unfold mcD mcC
  generalize x * y = z at *
  rw [IntKind.wrap_u64, IntKind.wrap_u64, IntKind.wrap_u64]
  omega
theorem times_step {V T P P' Q' O' cy cy' d d' x y M : Nat} (hq : Q' = P' * 4294967296) (hd : d' + 4294967296 * cy' = cy + (d + x * y)) (ho : O' + P' * d = V + P' * d') (hp : P' * (x * y) = P * x * M) (h : V + P' * cy = T) :
    O' + Q' * cy' = T + P * x * M := by
  have : P' * (d' + 4294967296 * cy') = P' * (cy + (d + x * y)) := by rw [hd]
  simp only [Nat.mul_add, ← Nat.mul_assoc] at this hp
  subst hq
  omega

set_option maxHeartbeats 400000 in
theorem times_any (A A2 : Option Addr) (n c n2 c2 B : Nat) (l m : List Nat) (w : World) (h : Sl w B A n c l) (h2 : Sl w B A2 n2 c2 m) (hB : B ≤ w.heap.size) (hn : n ≤ 1000) (hn2 : n2 ≤ 1000) :
    Calls Tryz.prog 41 #[.slice A n c, .slice A2 n2 c2] w (RetD (nval l * nval m) w) := by
  have HL := Lib.hid h.len
  have HL2 := Lib.hid h2.len
  have H := Lib.hid h
  have H2 := Lib.hid h2
  clear h h2
  have hmk := run_make_mag (n + n2) (by omega)
  have ec : ((n + n2 : Nat) : Int) = (n : Int) + n2 := by omega
  rw [ec] at hmk
  clear ec
  go_enter Tryz.func41, Tryz.ntmps41
  go_wp2
  clear hmk
  go_loopw [19] (fun k wr => ∃ (i : Nat) (o : List Nat), i ≤ n ∧ k = .int .i64 i ∧ DBk wr w.heap.size 40 o ∧ Hid (o.length = n + n2 ∧ Dig o ∧ nval o = nval (l.take i) * nval m ∧ ∀ p, i + n2 ≤ p → dg o p = 0) ∧ Below w.heap.size w wr) (fun k _ => n - (intOf k).toNat)
  case atStart => exact ⟨0, List.replicate (n + n2) 0, by omega, rfl, DBk.new w _ (n + n2), by unfold Hid; exact ⟨by simp, dig_zeros _, by simp [nval, nval_zeros], fun p _ => by unfold dg; simp [List.getD_eq_getElem?_getD, List.getElem?_replicate]; split <;> rfl⟩, by go_grown⟩
  case round =>
    obtain ⟨i, o, hi, rfl, hO, hI, hBw⟩ := hrel
    by_cases hlt : i < n
    · obtain ⟨ad, rfl, hb, hc⟩ := (H.out.below (hBw.mono hB)).at_ (k := i) hlt
      have hd1 := dg_lt H.out.dig i
      have hz := hO.lt
      obtain ⟨x, hx⟩ : ∃ x, dg l i = x := ⟨_, rfl⟩
      rw [hx] at hc hd1
      have HX := Lib.hid hx
      clear hx
      go_wp2
      clear hc
      obtain ⟨wo, hwo⟩ : ∃ wo : World, wo = wr := ⟨_, rfl⟩
      subst hwo
      go_loopw [8, 26] (fun b k wr => ∃ (j cy : Nat) (o : List Nat), j ≤ n2 ∧ cy < 4294967296 ∧ k = .int .i64 j ∧ b = .int .u64 cy ∧ DBk wr w.heap.size 40 o ∧ Hid (o.length = n + n2 ∧ Dig o ∧ nval o + 4294967296 ^ (i + j) * cy = nval (l.take i) * nval m + 4294967296 ^ i * x * nval (m.take j) ∧ ∀ p, i + n2 ≤ p → dg o p = 0) ∧ Below w.heap.size w wr) (fun _ k _ => n2 - (intOf k).toNat)
      case atStart => exact ⟨0, 0, o, by omega, by omega, rfl, rfl, hO, by obtain ⟨i1, i2, i3, i4⟩ := hI.out; unfold Hid; exact ⟨i1, i2, by simp [nval, i3], i4⟩, hBw⟩
      case round =>
        obtain ⟨j, cy, o, hj, hcy, rfl, rfl, hO, hI, hBw⟩ := hrel
        by_cases hlt2 : j < n2
        · obtain ⟨ad2, rfl, hb2, hc2⟩ := (H2.out.below (hBw.mono hB)).at_ (k := j) hlt2
          have hd2 := dg_lt H2.out.dig j
          have hcg := hO.cell (k := i + j) (by rw [hI.out.1]; omega)
          have hfg := hO.frozen (i + j)
          have hd3 := dg_lt hI.out.2.1 (i + j)
          have hz2 := hO.lt
          obtain ⟨d, hd⟩ : ∃ d, dg o (i + j) = d := ⟨_, rfl⟩
          obtain ⟨y, hy⟩ : ∃ y, dg m j = y := ⟨_, rfl⟩
          rw [hd] at hcg hd3
          rw [hy] at hc2 hd2
          have hs := mc_spec hcy hd3 hd1 hd2
          have hN : Hid ((o.set (i + j) (mcD cy d x y)).length = n + n2 ∧ Dig (o.set (i + j) (mcD cy d x y)) ∧ nval (o.set (i + j) (mcD cy d x y)) + 4294967296 ^ (i + (j + 1)) * mcC cy d x y = nval (l.take i) * nval m + 4294967296 ^ i * x * nval (m.take (j + 1)) ∧ ∀ p, i + n2 ≤ p → dg (o.set (i + j) (mcD cy d x y)) p = 0) := by
            obtain ⟨i1, i2, i3, i4⟩ := hI.out
            refine ⟨by simpa using i1, dig_set i2 hs.2.1, ?_, fun p hp => by rw [dg_set_ne (by omega)]; exact i4 p hp⟩
            have hset := nval_set o (i + j) (mcD cy d x y) (by omega)
            rw [hd] at hset
            rw [nval_take_dg m, hy, Nat.mul_add (4294967296 ^ i * x), ← Nat.add_assoc (nval (l.take i) * nval m)]
            refine times_step (P := 4294967296 ^ i) (Nat.pow_succ (n := 4294967296) (m := i + j)) hs.1 hset ?_ i3
            rw [Nat.pow_add, Nat.mul_assoc (4294967296 ^ i) (4294967296 ^ j), Nat.mul_assoc (4294967296 ^ i) x, Nat.mul_left_comm (4294967296 ^ j) x y]
          have hO2 := hO.set (i + j) (mcD cy d x y)
          have E := Lib.hid (mc_int hcy hd3 hd1 hd2)
          have hcy2 := hs.2.2
          clear hO hI hd hy hs
          go_wp2
          rw [E.out.1, E.out.2]
          clear E
          go_roundw
          case rel => exact ⟨j + 1, _, _, by omega, hcy2, by go_num, rfl, hO2, hN, by go_grown⟩
          case measure => simp [intOf]; omega
        · have hjn : j = n2 := by omega
          have hz2 := hO.lt
          have hN : Hid ((o.set (i + n2) cy).length = n + n2 ∧ Dig (o.set (i + n2) cy) ∧ nval (o.set (i + n2) cy) = nval (l.take (i + 1)) * nval m ∧ ∀ p, (i + 1) + n2 ≤ p → dg (o.set (i + n2) cy) p = 0) := by
            obtain ⟨i1, i2, i3, i4⟩ := hI.out
            refine ⟨by simpa using i1, dig_set i2 hcy, ?_, fun p hp => by rw [dg_set_ne (by omega)]; exact i4 p (by omega)⟩
            have hset := nval_set o (i + n2) cy (by omega)
            rw [i4 _ (Nat.le_refl _), Nat.mul_zero, Nat.add_zero] at hset
            rw [hset, nval_take_dg l, HX.out, Nat.add_mul, ← hjn, i3]
            rw [List.take_of_length_le (l := m) (by have := HL2.out; omega)]
          have hO2 := hO.set (i + n2) cy
          have hcg := hO.cell (k := i + n2) (by rw [hI.out.1]; omega)
          have hfg := hO.frozen (i + n2)
          have ecy : IntKind.u64.wrap (cy : Int) = cy := by rw [IntKind.wrap_u64]; omega
          have ecy2 : (cy : Int) % 4294967296 = cy := by omega
          clear hO hI hjn
          go_wp2
          go_roundw
          case rel => exact ⟨i + 1, _, by omega, by go_num, hO2, hN, by go_grown⟩
          case measure => simp [intOf]; omega
    · have hin : i = n := by omega
      have hv : Hid (nval o = nval l * nval m) := by
        obtain ⟨i1, i2, i3, i4⟩ := hI.out
        rw [List.take_of_length_le (l := l) (by have := HL.out; omega)] at i3
        exact i3
      have hsl : Sl wr (w.heap.size + 1) (some ⟨w.heap.size, 0, none⟩) (n + n2) (n + n2) o := by
        obtain ⟨i1, i2, i3, i4⟩ := hI.out
        have := hO.sl i2 (B := w.heap.size + 1) (by omega) (by omega)
        rwa [i1] at this
      have hz := hO.lt
      clear hin hO hI
      go_wp2_with (go_at_call 50; refine (trim_val hsl hv.out).mono ?_; rintro e w' ⟨n', rfl, hs', rfl⟩)
      go_ret
      exact ⟨_, _, _, rfl, hs'.more (by omega), hBw⟩
end Go.Proofs.YthnickjbknpmhaaGreatDoor
