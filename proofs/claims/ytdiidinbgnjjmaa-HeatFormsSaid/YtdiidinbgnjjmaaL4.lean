/-
  HeatSteps: the walk of the law over the contracts.
-/
import Derived.Test.YtdiidinbgnjjmaaL3
namespace Go.Proofs.Ytdiidinbgnjjmaa
open Go.RowKit

/-- A temperature in block b. -/
def Cell2 (b : Nat) (x y : Int) (W : World) : Prop := W.cell? ⟨b, 0, none⟩ = some (.int .i64 x) ∧ W.cell? ⟨b, 1, none⟩ = some (.int .i64 y) ∧ b < W.heap.size
theorem Cell2.below {b : Nat} {x y : Int} {W W1 : World} (h : Cell2 b x y W) (hb : Below W.heap.size W W1) : Cell2 b x y W1 :=
  ⟨(hb.cell (p := ⟨b, 0, none⟩) h.2.2).trans h.1, (hb.cell (p := ⟨b, 1, none⟩) h.2.2).trans h.2.1, Nat.lt_of_lt_of_le h.2.2 hb.size⟩
theorem Cell2.alloc {b : Nat} {x y : Int} {W : World} (h : Cell2 b x y W) (o : Obj) : Cell2 b x y (W.alloc o) := h.below ((Below.refl _ _).alloc (Nat.le_refl _) o)
theorem Cell2.new (W : World) (x y : Int) : Cell2 W.heap.size x y (W.alloc (.cells #[.int .i64 x, .int .i64 y] 29)) := ⟨by simp [go_sem], by simp [go_sem], by simp⟩

set_option maxRecDepth 100000 in
set_option maxHeartbeats 4000000 in
theorem heatSteps_true (A : Option Addr) (n c : Nat) (zs : List Int) (lo0 more0 lo more na nb : Int) (w : World) (hr : Reads w w.heap.size 1 A n (zs.map (Value.int .i64))) (hn : n ≤ c) (hm : c ≤ 9223372036854775807) (na0 : 0 ≤ na) (na1 : na < 256) (nb0 : 0 ≤ nb) (nb1 : nb < 256) :
    Calls Try.prog 6 #[.agg #[.slice A n c, .int .i64 lo0, .int .i64 more0], .int .i64 lo, .int .i64 more, .int .u8 na, .int .u8 nb, .bool true] w fun e w' => e = .returned (.bool true) ∧ Below w.heap.size w w' := by
  have HR := Lib.hid hr
  clear hr
  go_enter Try.func6, Try.ntmps6
  go_wp2_with fail
  refine (sanity_any _).mono ?_
  rintro e w1 ⟨rfl, hb⟩
  obtain ⟨hc, hf⟩ := bcell hb
  have hbl : Below w.heap.size w w1 := Below.via (by go_grown) (by go_size) hb
  have hz : w.heap.size < w1.heap.size := by have := hb.size; simp at this; omega
  have HR1 := Lib.hid (HR.out.below hbl)
  go_wp2_with fail
  refine (case_any A n c zs lo0 more0 w1 (HR1.out.more (by omega)) hn hm).mono ?_
  rintro e w2 ⟨r, f, t, g, p, x, y, rfl, hv, hw, hb2⟩
  have hbl2 : Below w.heap.size w w2 := Below.via hbl (by omega) hb2
  have hz2 : w.heap.size ≤ w2.heap.size := Nat.le_trans (by omega) hb2.size
  have HM2 := Lib.hid (Mem2.new hbl2 hz2 r f t g p x y)
  obtain ⟨ka, hka, ka0, ka1⟩ : ∃ k : Int, na % 200 = k ∧ 0 ≤ k ∧ k < 200 := ⟨na % 200, rfl, by omega, by omega⟩
  obtain ⟨kb, hkb, kb0, kb1⟩ : ∃ k : Int, nb % 200 = k ∧ 0 ≤ k ∧ k < 200 := ⟨nb % 200, rfl, by omega, by omega⟩
  have hr0 : 0 ≤ r := by omega
  have hf0 : 0 ≤ f := by omega
  have ht0 : 0 ≤ t := by omega
  have ht1 : t ≤ 20 := by omega
  obtain ⟨x0, xy, yt⟩ := hw
  have s1 : 0 ≤ ka * r := Int.mul_nonneg ka0 hr0
  have s2 : 0 ≤ kb * r := Int.mul_nonneg kb0 hr0
  have s3 : 0 ≤ ka * f := Int.mul_nonneg ka0 hf0
  have s4 : 0 ≤ kb * f := Int.mul_nonneg kb0 hf0
  have s7 : ka * 1 ≤ ka * r := Int.mul_le_mul_of_nonneg_left (by omega) ka0
  have s5 : (ka + kb) * r = ka * r + kb * r := Int.add_mul _ _ _
  have s6 : (ka + kb) * f = ka * f + kb * f := Int.add_mul _ _ _
  have HS5 := Lib.hid s5
  have HS6 := Lib.hid s6
  obtain ⟨X1, hX1⟩ : ∃ z, z = min (x + ka) t := ⟨_, rfl⟩
  obtain ⟨X2, hX2⟩ : ∃ z, z = min (y + ka * r) t := ⟨_, rfl⟩
  obtain ⟨Y1, hY1⟩ : ∃ z, z = min (X1 + kb) t := ⟨_, rfl⟩
  obtain ⟨Y2, hY2⟩ : ∃ z, z = min (X2 + kb * r) t := ⟨_, rfl⟩
  have K1 := okAll_made hv ⟨x0, xy, yt⟩ ka (by omega) (by omega)
  have K2 := okAll_made (x := X1) (y := X2) hv (by omega) kb (by omega) (by omega)
  have K3 := okAll_made hv ⟨x0, xy, yt⟩ (ka + kb) (by omega) (by omega)
  have q1 := Lib.hid ((runLo_ok K1).trans hX1.symm)
  have q2 := Lib.hid ((runHi_ok K1).trans hX2.symm)
  have q3 := Lib.hid (chk2_yes K1)
  have q4 := Lib.hid ((runLo_ok K2).trans hY1.symm)
  have q5 := Lib.hid ((runHi_ok K2).trans hY2.symm)
  have q6 := Lib.hid (chk2_yes K2)
  have q7 := Lib.hid ((runLo_ok K3).trans (show min (x + (ka + kb)) t = Y1 by omega))
  have q8 := Lib.hid ((runHi_ok K3).trans (show min (y + (ka + kb) * r) t = Y2 by rw [s5]; omega))
  have q9 := Lib.hid (chk2_yes K3)
  have HX1 := Lib.hid hX1
  have HX2 := Lib.hid hX2
  have HV := Lib.hid hv
  clear hc hf hb hbl hz HR HR1 hb2 hv hbl2 hz2 K1 K2 K3 hX1 hX2 hY1 hY2 s5 s6 s7 s1 s2 s3 s4
  have M := HM2.out
  generalize hW : ((w2.alloc (.cells #[.int .i64 r, .int .i64 f, .int .i64 t, .int .i64 g, .int .i64 p] 27)).alloc (.cells #[.int .i64 x, .int .i64 y] 29)) = w3 at M
  obtain ⟨c0, c1, c2, c3, c4, c5, c6, z1, z2, z3, B3⟩ := M
  clear hW
  go_wp2_with fail
  refine (run_any _ _ _ _ _ _ _ _ _).mono ?_
  rw [q1.out, q2.out, q3.out]
  rintro e w4 ⟨rfl, hb⟩
  have HM4 := Lib.hid (HM2.out.below hb)
  clear hb c0 c1 c2 c3 c4 c5 c6 z1 z2 z3 B3
  obtain ⟨c0, c1, c2, c3, c4, c5, c6, z1, z2, z3, B3⟩ := HM4.out
  go_wp2_with fail
  refine (run_any _ _ _ _ _ _ _ _ _).mono ?_
  rw [q4.out, q5.out, q6.out]
  rintro e w5 ⟨rfl, hb⟩
  have HM5 := Lib.hid ((HM4.out.alloc _).below hb)
  have PX5 := Lib.hid ((Cell2.new w4 X1 X2).below hb)
  clear hb c0 c1 c2 c3 c4 c5 c6 z1 z2 z3 B3
  obtain ⟨c0, c1, c2, c3, c4, c5, c6, z1, z2, z3, B3⟩ := HM5.out
  obtain ⟨rX0, rX1, rX2⟩ := PX5.out
  go_wp2_with fail
  refine (run_any _ _ _ _ _ _ _ _ _).mono ?_
  rw [q7.out, q8.out, q9.out]
  rintro e w6 ⟨rfl, hb⟩
  have HM6 := Lib.hid ((HM5.out.alloc _).below hb)
  have PX6 := Lib.hid ((PX5.out.alloc _).below hb)
  have PY6 := Lib.hid ((Cell2.new w5 Y1 Y2).below hb)
  clear hb c0 c1 c2 c3 c4 c5 c6 z1 z2 z3 B3 rX0 rX1 rX2
  obtain ⟨c0, c1, c2, c3, c4, c5, c6, z1, z2, z3, B3⟩ := HM6.out
  obtain ⟨rX0, rX1, rX2⟩ := PX6.out
  obtain ⟨rY0, rY1, rY2⟩ := PY6.out
  go_wp2_with fail
  refine (Warm_any _ _ _ _ _ _ _ _ ht0 (by omega)).mono ?_
  rintro e w7 ⟨O1, O2, rfl, o0, o1, o2, hb⟩
  have HM7 := Lib.hid ((HM6.out.alloc _).below hb)
  have PX7 := Lib.hid ((PX6.out.alloc _).below hb)
  have PY7 := Lib.hid ((PY6.out.alloc _).below hb)
  have PZ7 := Lib.hid ((Cell2.new w6 Y1 Y2).below hb)
  clear hb c0 c1 c2 c3 c4 c5 c6 z1 z2 z3 B3 rX0 rX1 rX2 rY0 rY1 rY2
  obtain ⟨c0, c1, c2, c3, c4, c5, c6, z1, z2, z3, B3⟩ := HM7.out
  obtain ⟨rX0, rX1, rX2⟩ := PX7.out
  obtain ⟨rY0, rY1, rY2⟩ := PY7.out
  obtain ⟨rZ0, rZ1, rZ2⟩ := PZ7.out
  have s1 : 0 ≤ ka * r := Int.mul_nonneg ka0 hr0
  have s3 : 0 ≤ ka * f := Int.mul_nonneg ka0 hf0
  obtain ⟨U1, hU1⟩ : ∃ z, z = min (O1 + ka) t := ⟨_, rfl⟩
  obtain ⟨U2, hU2⟩ : ∃ z, z = min (O2 + ka * r) t := ⟨_, rfl⟩
  have K4 := okAll_made (x := O1) (y := O2) HV.out ⟨o0, o1, o2⟩ ka (by omega) (by omega)
  have q10 := Lib.hid ((runLo_ok K4).trans hU1.symm)
  have q11 := Lib.hid ((runHi_ok K4).trans hU2.symm)
  have q12 := Lib.hid (chk2_yes K4)
  have m1 : x ≤ O1 → X1 ≤ U1 := by have := HX1.out; omega
  have m2 : O2 ≤ y → U2 ≤ X2 := by have := HX2.out; omega
  have HM1 := Lib.hid m1
  have HM2' := Lib.hid m2
  clear K4 hU1 hU2 s1 s3 m1 m2
  go_wp2_with fail
  refine (run_any _ _ _ _ _ _ _ _ _).mono ?_
  rw [q10.out, q11.out, q12.out]
  rintro e w8 ⟨rfl, hb⟩
  have HM8 := Lib.hid ((HM7.out.alloc _).below hb)
  have PX8 := Lib.hid ((PX7.out.alloc _).below hb)
  have PY8 := Lib.hid ((PY7.out.alloc _).below hb)
  have PZ8 := Lib.hid ((PZ7.out.alloc _).below hb)
  have PO8 := Lib.hid ((Cell2.new w7 O1 O2).below hb)
  clear hb c0 c1 c2 c3 c4 c5 c6 z1 z2 z3 B3 rX0 rX1 rX2 rY0 rY1 rY2 rZ0 rZ1 rZ2
  obtain ⟨c0, c1, c2, c3, c4, c5, c6, z1, z2, z3, B3⟩ := HM8.out
  obtain ⟨rX0, rX1, rX2⟩ := PX8.out
  obtain ⟨rY0, rY1, rY2⟩ := PY8.out
  obtain ⟨rZ0, rZ1, rZ2⟩ := PZ8.out
  obtain ⟨rO0, rO1, rO2⟩ := PO8.out
  by_cases h1 : x ≤ O1
  · have d1 := HM1.out h1
    by_cases h2 : O2 ≤ y
    · have d2 := HM2'.out h2
      go_wp2
      go_ret
      exact ⟨rfl, B3.alloc z3 _⟩
    · go_wp2
      go_ret
      exact ⟨rfl, B3.alloc z3 _⟩
  · go_wp2
    go_ret
    exact ⟨rfl, B3.alloc z3 _⟩

set_option maxRecDepth 100000 in
set_option maxHeartbeats 4000000 in
theorem heatSteps_false (A : Option Addr) (n c : Nat) (zs : List Int) (lo0 more0 lo more na nb : Int) (w : World) (hr : Reads w w.heap.size 1 A n (zs.map (Value.int .i64))) (hn : n ≤ c) (hm : c ≤ 9223372036854775807) (na0 : 0 ≤ na) (na1 : na < 256) (nb0 : 0 ≤ nb) (nb1 : nb < 256) :
    Calls Try.prog 6 #[.agg #[.slice A n c, .int .i64 lo0, .int .i64 more0], .int .i64 lo, .int .i64 more, .int .u8 na, .int .u8 nb, .bool false] w fun e w' => e = .returned (.bool true) ∧ Below w.heap.size w w' := by
  have HR := Lib.hid hr
  clear hr
  go_enter Try.func6, Try.ntmps6
  go_wp2_with fail
  refine (sanity_any _).mono ?_
  rintro e w1 ⟨rfl, hb⟩
  obtain ⟨hc, hf⟩ := bcell hb
  have hbl : Below w.heap.size w w1 := Below.via (by go_grown) (by go_size) hb
  have hz : w.heap.size < w1.heap.size := by have := hb.size; simp at this; omega
  have HR1 := Lib.hid (HR.out.below hbl)
  go_wp2_with fail
  refine (case_any A n c zs lo0 more0 w1 (HR1.out.more (by omega)) hn hm).mono ?_
  rintro e w2 ⟨r, f, t, g, p, x, y, rfl, hv, hw, hb2⟩
  have hbl2 : Below w.heap.size w w2 := Below.via hbl (by omega) hb2
  have hz2 : w.heap.size ≤ w2.heap.size := Nat.le_trans (by omega) hb2.size
  have HM2 := Lib.hid (Mem2.new hbl2 hz2 r f t g p x y)
  obtain ⟨ka, hka, ka0, ka1⟩ : ∃ k : Int, na % 200 = k ∧ 0 ≤ k ∧ k < 200 := ⟨na % 200, rfl, by omega, by omega⟩
  obtain ⟨kb, hkb, kb0, kb1⟩ : ∃ k : Int, nb % 200 = k ∧ 0 ≤ k ∧ k < 200 := ⟨nb % 200, rfl, by omega, by omega⟩
  have hr0 : 0 ≤ r := by omega
  have hf0 : 0 ≤ f := by omega
  have ht0 : 0 ≤ t := by omega
  have ht1 : t ≤ 20 := by omega
  obtain ⟨x0, xy, yt⟩ := hw
  have s1 : 0 ≤ ka * r := Int.mul_nonneg ka0 hr0
  have s2 : 0 ≤ kb * r := Int.mul_nonneg kb0 hr0
  have s3 : 0 ≤ ka * f := Int.mul_nonneg ka0 hf0
  have s4 : 0 ≤ kb * f := Int.mul_nonneg kb0 hf0
  have s7 : ka * 1 ≤ ka * r := Int.mul_le_mul_of_nonneg_left (by omega) ka0
  have s5 : (ka + kb) * r = ka * r + kb * r := Int.add_mul _ _ _
  have s6 : (ka + kb) * f = ka * f + kb * f := Int.add_mul _ _ _
  have HS5 := Lib.hid s5
  have HS6 := Lib.hid s6
  obtain ⟨X1, hX1⟩ : ∃ z, z = max (x - ka * f) 0 := ⟨_, rfl⟩
  obtain ⟨X2, hX2⟩ : ∃ z, z = y := ⟨_, rfl⟩
  obtain ⟨Y1, hY1⟩ : ∃ z, z = max (X1 - kb * f) 0 := ⟨_, rfl⟩
  obtain ⟨Y2, hY2⟩ : ∃ z, z = X2 := ⟨_, rfl⟩
  have K1 := okAll_made hv ⟨x0, xy, yt⟩ ka (by omega) (by omega)
  have K2 := okAll_made (x := X1) (y := X2) hv (by omega) kb (by omega) (by omega)
  have K3 := okAll_made hv ⟨x0, xy, yt⟩ (ka + kb) (by omega) (by omega)
  have q1 := Lib.hid ((restLo_ok K1).trans hX1.symm)
  have q2 := Lib.hid ((restHi_ok K1).trans hX2.symm)
  have q3 := Lib.hid (chk2_yes K1)
  have q4 := Lib.hid ((restLo_ok K2).trans hY1.symm)
  have q5 := Lib.hid ((restHi_ok K2).trans hY2.symm)
  have q6 := Lib.hid (chk2_yes K2)
  have q7 := Lib.hid ((restLo_ok K3).trans (show max (x - (ka + kb) * f) 0 = Y1 by rw [s6]; omega))
  have q8 := Lib.hid ((restHi_ok K3).trans (show y = Y2 by omega))
  have q9 := Lib.hid (chk2_yes K3)
  have HX1 := Lib.hid hX1
  have HX2 := Lib.hid hX2
  have HV := Lib.hid hv
  clear hc hf hb hbl hz HR HR1 hb2 hv hbl2 hz2 K1 K2 K3 hX1 hX2 hY1 hY2 s5 s6 s7 s1 s2 s3 s4
  have M := HM2.out
  generalize hW : ((w2.alloc (.cells #[.int .i64 r, .int .i64 f, .int .i64 t, .int .i64 g, .int .i64 p] 27)).alloc (.cells #[.int .i64 x, .int .i64 y] 29)) = w3 at M
  obtain ⟨c0, c1, c2, c3, c4, c5, c6, z1, z2, z3, B3⟩ := M
  clear hW
  go_wp2_with fail
  refine (rest_any _ _ _ _ _ _ _ _ _).mono ?_
  rw [q1.out, q2.out, q3.out]
  rintro e w4 ⟨rfl, hb⟩
  have HM4 := Lib.hid (HM2.out.below hb)
  clear hb c0 c1 c2 c3 c4 c5 c6 z1 z2 z3 B3
  obtain ⟨c0, c1, c2, c3, c4, c5, c6, z1, z2, z3, B3⟩ := HM4.out
  go_wp2_with fail
  refine (rest_any _ _ _ _ _ _ _ _ _).mono ?_
  rw [q4.out, q5.out, q6.out]
  rintro e w5 ⟨rfl, hb⟩
  have HM5 := Lib.hid ((HM4.out.alloc _).below hb)
  have PX5 := Lib.hid ((Cell2.new w4 X1 X2).below hb)
  clear hb c0 c1 c2 c3 c4 c5 c6 z1 z2 z3 B3
  obtain ⟨c0, c1, c2, c3, c4, c5, c6, z1, z2, z3, B3⟩ := HM5.out
  obtain ⟨rX0, rX1, rX2⟩ := PX5.out
  go_wp2_with fail
  refine (rest_any _ _ _ _ _ _ _ _ _).mono ?_
  rw [q7.out, q8.out, q9.out]
  rintro e w6 ⟨rfl, hb⟩
  have HM6 := Lib.hid ((HM5.out.alloc _).below hb)
  have PX6 := Lib.hid ((PX5.out.alloc _).below hb)
  have PY6 := Lib.hid ((Cell2.new w5 Y1 Y2).below hb)
  clear hb c0 c1 c2 c3 c4 c5 c6 z1 z2 z3 B3 rX0 rX1 rX2
  obtain ⟨c0, c1, c2, c3, c4, c5, c6, z1, z2, z3, B3⟩ := HM6.out
  obtain ⟨rX0, rX1, rX2⟩ := PX6.out
  obtain ⟨rY0, rY1, rY2⟩ := PY6.out
  go_wp2_with fail
  refine (Warm_any _ _ _ _ _ _ _ _ ht0 (by omega)).mono ?_
  rintro e w7 ⟨O1, O2, rfl, o0, o1, o2, hb⟩
  have HM7 := Lib.hid ((HM6.out.alloc _).below hb)
  have PX7 := Lib.hid ((PX6.out.alloc _).below hb)
  have PY7 := Lib.hid ((PY6.out.alloc _).below hb)
  have PZ7 := Lib.hid ((Cell2.new w6 Y1 Y2).below hb)
  clear hb c0 c1 c2 c3 c4 c5 c6 z1 z2 z3 B3 rX0 rX1 rX2 rY0 rY1 rY2
  obtain ⟨c0, c1, c2, c3, c4, c5, c6, z1, z2, z3, B3⟩ := HM7.out
  obtain ⟨rX0, rX1, rX2⟩ := PX7.out
  obtain ⟨rY0, rY1, rY2⟩ := PY7.out
  obtain ⟨rZ0, rZ1, rZ2⟩ := PZ7.out
  have s1 : 0 ≤ ka * r := Int.mul_nonneg ka0 hr0
  have s3 : 0 ≤ ka * f := Int.mul_nonneg ka0 hf0
  obtain ⟨U1, hU1⟩ : ∃ z, z = max (O1 - ka * f) 0 := ⟨_, rfl⟩
  obtain ⟨U2, hU2⟩ : ∃ z, z = O2 := ⟨_, rfl⟩
  have K4 := okAll_made (x := O1) (y := O2) HV.out ⟨o0, o1, o2⟩ ka (by omega) (by omega)
  have q10 := Lib.hid ((restLo_ok K4).trans hU1.symm)
  have q11 := Lib.hid ((restHi_ok K4).trans hU2.symm)
  have q12 := Lib.hid (chk2_yes K4)
  have m1 : x ≤ O1 → X1 ≤ U1 := by have := HX1.out; omega
  have m2 : O2 ≤ y → U2 ≤ X2 := by have := HX2.out; omega
  have HM1 := Lib.hid m1
  have HM2' := Lib.hid m2
  clear K4 hU1 hU2 s1 s3 m1 m2
  go_wp2_with fail
  refine (rest_any _ _ _ _ _ _ _ _ _).mono ?_
  rw [q10.out, q11.out, q12.out]
  rintro e w8 ⟨rfl, hb⟩
  have HM8 := Lib.hid ((HM7.out.alloc _).below hb)
  have PX8 := Lib.hid ((PX7.out.alloc _).below hb)
  have PY8 := Lib.hid ((PY7.out.alloc _).below hb)
  have PZ8 := Lib.hid ((PZ7.out.alloc _).below hb)
  have PO8 := Lib.hid ((Cell2.new w7 O1 O2).below hb)
  clear hb c0 c1 c2 c3 c4 c5 c6 z1 z2 z3 B3 rX0 rX1 rX2 rY0 rY1 rY2 rZ0 rZ1 rZ2
  obtain ⟨c0, c1, c2, c3, c4, c5, c6, z1, z2, z3, B3⟩ := HM8.out
  obtain ⟨rX0, rX1, rX2⟩ := PX8.out
  obtain ⟨rY0, rY1, rY2⟩ := PY8.out
  obtain ⟨rZ0, rZ1, rZ2⟩ := PZ8.out
  obtain ⟨rO0, rO1, rO2⟩ := PO8.out
  by_cases h1 : x ≤ O1
  · have d1 := HM1.out h1
    by_cases h2 : O2 ≤ y
    · have d2 := HM2'.out h2
      go_wp2
      go_ret
      exact ⟨rfl, B3.alloc z3 _⟩
    · go_wp2
      go_ret
      exact ⟨rfl, B3.alloc z3 _⟩
  · go_wp2
    go_ret
    exact ⟨rfl, B3.alloc z3 _⟩

theorem heatSteps_walk (A : Option Addr) (n c : Nat) (zs : List Int) (lo0 more0 lo more na nb : Int) (b : Bool) (w : World) (hr : Reads w w.heap.size 1 A n (zs.map (Value.int .i64))) (hn : n ≤ c) (hm : c ≤ 9223372036854775807) (na0 : 0 ≤ na) (na1 : na < 256) (nb0 : 0 ≤ nb) (nb1 : nb < 256) :
    Calls Try.prog 6 #[.agg #[.slice A n c, .int .i64 lo0, .int .i64 more0], .int .i64 lo, .int .i64 more, .int .u8 na, .int .u8 nb, .bool b] w fun e w' => e = .returned (.bool true) ∧ Below w.heap.size w w' := by
  cases b
  · exact heatSteps_false A n c zs lo0 more0 lo more na nb w hr hn hm na0 na1 nb0 nb1
  · exact heatSteps_true A n c zs lo0 more0 lo more na nb w hr hn hm na0 na1 nb0 nb1
end Go.Proofs.Ytdiidinbgnjjmaa
