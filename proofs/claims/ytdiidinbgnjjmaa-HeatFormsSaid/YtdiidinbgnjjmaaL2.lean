/-
  HeatTight: the walk of the law over the contracts.
-/
import Derived.Test.YtdiidinbgnjjmaaL1
namespace Go.Proofs.Ytdiidinbgnjjmaa
open Go.RowKit

theorem Mem2.drewN {w W : World} {b : Nat} {r f t g p x y : Int} (h : Mem2 w b r f t g p x y W) (n : Nat) : Mem2 w b r f t g p x y (W.drewN n) := by
  obtain ⟨h0, h1, h2, h3, h4, h5, h6, hg, hg1, hz, hB⟩ := h
  exact ⟨h0, h1, h2, h3, h4, h5, h6, hg, hg1, hz, below_drewN hB n⟩
theorem runLo_ok {r f t g p x y n : Int} (h : okAll r f t g p x y n = true) : runLo r f t g p x y n = min (x + n) t := by unfold runLo; rw [if_pos h]
theorem runHi_ok {r f t g p x y n : Int} (h : okAll r f t g p x y n = true) : runHi r f t g p x y n = min (y + n * r) t := by unfold runHi; rw [if_pos h]
theorem restLo_ok {r f t g p x y n : Int} (h : okAll r f t g p x y n = true) : restLo r f t g p x y n = max (x - n * f) 0 := by unfold restLo; rw [if_pos h]
theorem restHi_ok {r f t g p x y n : Int} (h : okAll r f t g p x y n = true) : restHi r f t g p x y n = y := by unfold restHi; rw [if_pos h]

set_option maxRecDepth 100000 in
set_option maxHeartbeats 2000000 in
theorem heatTight_true (A : Option Addr) (n c : Nat) (zs : List Int) (lo0 more0 tk : Int) (w : World) (hr : Reads w w.heap.size 1 A n (zs.map (Value.int .i64))) (hn : n ≤ c) (hm : c ≤ 9223372036854775807) (tk0 : 0 ≤ tk) (tk1 : tk < 256) :
    Calls Try.prog 5 #[.agg #[.slice A n c, .int .i64 lo0, .int .i64 more0], .int .u8 tk, .bool true] w fun e w' => e = .returned (.bool true) ∧ Below w.heap.size w w' := by
  have HR := Lib.hid hr
  clear hr
  go_enter Try.func5, Try.ntmps5
  go_wp2_with fail
  refine (sanity_any _).mono ?_
  rintro e w1 ⟨rfl, hb⟩
  obtain ⟨hc, hf⟩ := bcell hb
  have hbl : Below w.heap.size w w1 := Below.via (by go_grown) (by go_size) hb
  have hz : w.heap.size < w1.heap.size := by have := hb.size; simp at this; omega
  have HR1 := Lib.hid (HR.out.below hbl)
  go_wp2_with fail
  refine (case_any A n c zs lo0 more0 w1 (HR1.out.more (by omega)) hn hm).mono ?_
  rintro e w2 ⟨r, f, t, g, p, x, y, rfl, hv, hw, hb2⟩
  have hbl2 : Below w.heap.size w w2 := Below.via hbl (by omega) hb2
  have hz2 : w.heap.size ≤ w2.heap.size := Nat.le_trans (by omega) hb2.size
  have M := Mem2.new hbl2 hz2 r f t g p x y
  obtain ⟨m, hm0⟩ : ∃ m : Nat, tk % 30 = m := ⟨(tk % 30).toNat, by omega⟩
  have m1 : m < 30 := by omega
  have HM := Lib.hid hm0
  have K1 := okAll_made hv hw m (by omega) (by omega)
  have v1 : 1 ≤ r := by omega
  have v2 : r ≤ 4 := by omega
  have v3 : 0 ≤ f := by omega
  have v4 : f ≤ 3 := by omega
  have v5 : 0 ≤ t := by omega
  have v6 : t ≤ 20 := by omega
  obtain ⟨x0, xy, yt⟩ := hw
  clear hc hf hb hbl hz HR HR1 hb2 hv hm0
  have ec := Lib.hid (chk2_yes K1)
  have e1 := Lib.hid (runLo_ok K1)
  have e2 := Lib.hid (runHi_ok K1)
  have e3 := Lib.hid (restLo_ok K1)
  have e4 := Lib.hid (restHi_ok K1)
  clear K1 hbl2
  generalize hW : ((w2.alloc (.cells #[.int .i64 r, .int .i64 f, .int .i64 t, .int .i64 g, .int .i64 p] 27)).alloc (.cells #[.int .i64 x, .int .i64 y] 29)) = w3 at M
  go_wp2
  try rw [hW]
  clear hW
  obtain ⟨c0, c1, c2, c3, c4, c5, c6, z1, z2, z3, B3⟩ := M
  go_quiet (fail)
  go_wp2

  have M3 := Mem2.drewN ⟨c0, c1, c2, c3, c4, c5, c6, z1, z2, z3, B3⟩ nq
  clear c0 c1 c2 c3 c4 c5 c6 z1 z2 z3 B3
  have hm2 : (tk % 30 : Int) = m := HM.out
  rw [hm2]
  clear hm2
  go_loopw [11, 12, 13] (fun X Y K wr => ∃ (k : Nat) (u v : Int), k ≤ m ∧ K = .int .i64 k ∧ X = .int .i64 u ∧ Y = .int .i64 v ∧ Hid (u = min (x + k) t ∧ v = min (y + k * r) t) ∧ 0 ≤ u ∧ u ≤ t ∧ 0 ≤ v ∧ v ≤ t ∧ Mem2 w w2.heap.size r f t g p x y wr) (fun _ _ K _ => m - (intOf K).toNat)
  case atStart => exact ⟨0, x, y, by omega, rfl, rfl, rfl, by unfold Hid; simp; omega, by omega, by omega, by omega, by omega, M3⟩
  case round =>
    clear M3
    obtain ⟨k, u, v, hk, rfl, rfl, rfl, hR, u0, u1, v0, v1, M4⟩ := hrel
    have HM4 := Lib.hid M4
    obtain ⟨c0, c1, c2, c3, c4, c5, c6, z1, z2, z3, B3⟩ := M4
    by_cases hlt : k < m
    · go_wp2
      have hw1 : IntKind.i64.wrap (u + 1) = u + 1 := IntWalk.i64_in _ (by omega)
      have hw2 : IntKind.i64.wrap (v + r) = v + r := IntWalk.i64_in _ (by omega)
      go_quiet (fail)
      go_wp2
      go_roundw
      case rel =>
        refine ⟨k + 1, min (u + 1) t, min (v + r) t, by omega, by go_num, ?_, ?_, ?_, by omega, by omega, by omega, by omega, HM4.out.drewN _⟩
        · simp; omega
        · simp; omega
        · unfold Hid; have := hR.out; rw [succ_mul_int]; omega
      case measure => simp [intOf]; omega
    · have hkm : k = m := by omega
      subst hkm
      go_wp2_with fail
      refine (rest_any _ _ _ _ _ _ _ _ _).mono ?_
      rw [e3.out, e4.out, ec.out]
      rintro e w5 ⟨rfl, hb5⟩
      have M5 := HM4.out.below hb5
      clear c0 c1 c2 c3 c4 c5 c6 z1 z2 z3 B3 hb5
      obtain ⟨c0, c1, c2, c3, c4, c5, c6, z1, z2, z3, B5⟩ := M5
      obtain ⟨hu, hv⟩ := hR.out
      have HU := Lib.hid hu
      have HV := Lib.hid hv
      clear hu hv
      go_wp2_with fail
      refine (run_any _ _ _ _ _ _ _ _ _).mono ?_
      rw [e1.out, e2.out, ec.out, ← HU.out, ← HV.out]
      rintro e w6 ⟨rfl, hb6⟩
      have L0 : w6.cell? ⟨w5.heap.size, 0, none⟩ = some (.int .i64 (max (x - k * f) 0)) := (hb6.cell (p := ⟨w5.heap.size, 0, none⟩) (by simp)).trans (by simp [go_sem])
      have L1 : w6.cell? ⟨w5.heap.size, 1, none⟩ = some (.int .i64 y) := (hb6.cell (p := ⟨w5.heap.size, 1, none⟩) (by simp)).trans (by simp [go_sem])
      have F0 : w6.frozen? ⟨w5.heap.size, 0, none⟩ = false := (hb6.frozen (p := ⟨w5.heap.size, 0, none⟩) (by simp)).trans (by simp [go_sem])
      have F1 : w6.frozen? ⟨w5.heap.size, 1, none⟩ = false := (hb6.frozen (p := ⟨w5.heap.size, 1, none⟩) (by simp)).trans (by simp [go_sem])
      have B6 : Below w.heap.size w w6 := Below.via (B5.alloc z3 _) (by simp; omega) hb6
      have Z6 : w5.heap.size < w6.heap.size := by have := hb6.size; simp at this; omega
      clear hb6
      go_wp2
      have L0' : ((w6.setCell ⟨w5.heap.size, 0, none⟩ (.int .i64 u)).setCell ⟨w5.heap.size, 1, none⟩ (.int .i64 v)).cell? ⟨w5.heap.size, 0, none⟩ = some (.int .i64 u) := by simp [go_sem, L0]
      have L1' : ((w6.setCell ⟨w5.heap.size, 0, none⟩ (.int .i64 u)).setCell ⟨w5.heap.size, 1, none⟩ (.int .i64 v)).cell? ⟨w5.heap.size, 1, none⟩ = some (.int .i64 v) := by simp [go_sem, L1]
      have BB : Below w.heap.size w ((w6.setCell ⟨w5.heap.size, 0, none⟩ (.int .i64 u)).setCell ⟨w5.heap.size, 1, none⟩ (.int .i64 v)) := (B6.setCell (by simpa using z3) _).setCell (by simpa using z3) _
      have ZY : w5.heap.size < ((w6.setCell ⟨w5.heap.size, 0, none⟩ (.int .i64 u)).setCell ⟨w5.heap.size, 1, none⟩ (.int .i64 v)).heap.size := by simp [World.setCell]; exact Z6
      have ZZ : w.heap.size ≤ ((w6.setCell ⟨w5.heap.size, 0, none⟩ (.int .i64 u)).setCell ⟨w5.heap.size, 1, none⟩ (.int .i64 v)).heap.size := by omega
      generalize ((w6.setCell ⟨w5.heap.size, 0, none⟩ (.int .i64 u)).setCell ⟨w5.heap.size, 1, none⟩ (.int .i64 v)) = w7 at L0' L1' BB ZZ ZY ⊢
      go_region_held3 (fun W => W.cell? ⟨w5.heap.size, 0, none⟩ = some (.int .i64 u) ∧ W.cell? ⟨w5.heap.size, 1, none⟩ = some (.int .i64 v))
        (first | exact ⟨K0, K1⟩ | go_keep)
        (first | (go_at_call 21; refine (warm_any _ _ _).mono ?_; rintro e w8 ⟨rfl, hb8⟩; have K0 := (hb8.cell (p := ⟨w5.heap.size, 0, none⟩) ZY).trans L0'; have K1 := (hb8.cell (p := ⟨w5.heap.size, 1, none⟩) ZY).trans L1'))
      have B8 : Below w.heap.size w w8 := Below.via BB.drew ZZ hb8
      go_wp2
      go_ret
      exact ⟨rfl, B8⟩

set_option maxRecDepth 100000 in
set_option maxHeartbeats 2000000 in
theorem heatTight_false (A : Option Addr) (n c : Nat) (zs : List Int) (lo0 more0 tk : Int) (w : World) (hr : Reads w w.heap.size 1 A n (zs.map (Value.int .i64))) (hn : n ≤ c) (hm : c ≤ 9223372036854775807) (tk0 : 0 ≤ tk) (tk1 : tk < 256) :
    Calls Try.prog 5 #[.agg #[.slice A n c, .int .i64 lo0, .int .i64 more0], .int .u8 tk, .bool false] w fun e w' => e = .returned (.bool true) ∧ Below w.heap.size w w' := by
  have HR := Lib.hid hr
  clear hr
  go_enter Try.func5, Try.ntmps5
  go_wp2_with fail
  refine (sanity_any _).mono ?_
  rintro e w1 ⟨rfl, hb⟩
  obtain ⟨hc, hf⟩ := bcell hb
  have hbl : Below w.heap.size w w1 := Below.via (by go_grown) (by go_size) hb
  have hz : w.heap.size < w1.heap.size := by have := hb.size; simp at this; omega
  have HR1 := Lib.hid (HR.out.below hbl)
  go_wp2_with fail
  refine (case_any A n c zs lo0 more0 w1 (HR1.out.more (by omega)) hn hm).mono ?_
  rintro e w2 ⟨r, f, t, g, p, x, y, rfl, hv, hw, hb2⟩
  have hbl2 : Below w.heap.size w w2 := Below.via hbl (by omega) hb2
  have hz2 : w.heap.size ≤ w2.heap.size := Nat.le_trans (by omega) hb2.size
  have M := Mem2.new hbl2 hz2 r f t g p x y
  obtain ⟨m, hm0⟩ : ∃ m : Nat, tk % 30 = m := ⟨(tk % 30).toNat, by omega⟩
  have m1 : m < 30 := by omega
  have HM := Lib.hid hm0
  have K1 := okAll_made hv hw m (by omega) (by omega)
  have v1 : 1 ≤ r := by omega
  have v2 : r ≤ 4 := by omega
  have v3 : 0 ≤ f := by omega
  have v4 : f ≤ 3 := by omega
  have v5 : 0 ≤ t := by omega
  have v6 : t ≤ 20 := by omega
  obtain ⟨x0, xy, yt⟩ := hw
  clear hc hf hb hbl hz HR HR1 hb2 hv hm0
  have ec := Lib.hid (chk2_yes K1)
  have e1 := Lib.hid (runLo_ok K1)
  have e2 := Lib.hid (runHi_ok K1)
  have e3 := Lib.hid (restLo_ok K1)
  have e4 := Lib.hid (restHi_ok K1)
  clear K1 hbl2
  generalize hW : ((w2.alloc (.cells #[.int .i64 r, .int .i64 f, .int .i64 t, .int .i64 g, .int .i64 p] 27)).alloc (.cells #[.int .i64 x, .int .i64 y] 29)) = w3 at M
  go_wp2
  try rw [hW]
  clear hW
  obtain ⟨c0, c1, c2, c3, c4, c5, c6, z1, z2, z3, B3⟩ := M
  go_quiet (fail)
  go_wp2

  have M3 := Mem2.drewN ⟨c0, c1, c2, c3, c4, c5, c6, z1, z2, z3, B3⟩ nq
  clear c0 c1 c2 c3 c4 c5 c6 z1 z2 z3 B3
  have hm2 : (tk % 30 : Int) = m := HM.out
  rw [hm2]
  clear hm2
  go_loopw [11, 12, 13] (fun X Y K wr => ∃ (k : Nat) (u v : Int), k ≤ m ∧ K = .int .i64 k ∧ X = .int .i64 u ∧ Y = .int .i64 v ∧ Hid (u = max (x - k * f) 0 ∧ v = y) ∧ 0 ≤ u ∧ u ≤ t ∧ 0 ≤ v ∧ v ≤ t ∧ Mem2 w w2.heap.size r f t g p x y wr) (fun _ _ K _ => m - (intOf K).toNat)
  case atStart => exact ⟨0, x, y, by omega, rfl, rfl, rfl, by unfold Hid; simp; omega, by omega, by omega, by omega, by omega, M3⟩
  case round =>
    clear M3
    obtain ⟨k, u, v, hk, rfl, rfl, rfl, hR, u0, u1, v0, v1, M4⟩ := hrel
    have HM4 := Lib.hid M4
    obtain ⟨c0, c1, c2, c3, c4, c5, c6, z1, z2, z3, B3⟩ := M4
    by_cases hlt : k < m
    · go_wp2
      go_roundw
      case rel =>
        refine ⟨k + 1, max (u - f) 0, v, by omega, by go_num, ?_, ?_, ?_, by omega, by omega, by omega, by omega, HM4.out⟩
        · simp; omega
        · simp
        · unfold Hid; have := hR.out; rw [succ_mul_int]; omega
      case measure => simp [intOf]; omega
    · have hkm : k = m := by omega
      subst hkm
      go_wp2_with fail
      refine (rest_any _ _ _ _ _ _ _ _ _).mono ?_
      rw [e3.out, e4.out, ec.out]
      rintro e w5 ⟨rfl, hb5⟩
      have M5 := HM4.out.below hb5
      clear c0 c1 c2 c3 c4 c5 c6 z1 z2 z3 B3 hb5
      obtain ⟨c0, c1, c2, c3, c4, c5, c6, z1, z2, z3, B5⟩ := M5
      obtain ⟨hu, hv⟩ := hR.out
      have hv' := hv.symm
      subst hv'
      clear hv
      have HU := Lib.hid hu
      clear hu
      rw [← HU.out]
      go_wp2
      have L0 : (w5.alloc (.cells #[.int .i64 u, .int .i64 y] 29)).cell? ⟨w5.heap.size, 0, none⟩ = some (.int .i64 u) := by simp [go_sem]
      have L1 : (w5.alloc (.cells #[.int .i64 u, .int .i64 y] 29)).cell? ⟨w5.heap.size, 1, none⟩ = some (.int .i64 y) := by simp [go_sem]
      have BB : Below w.heap.size w (w5.alloc (.cells #[.int .i64 u, .int .i64 y] 29)) := B5.alloc z3 _
      have ZZ : w.heap.size ≤ (w5.alloc (.cells #[.int .i64 u, .int .i64 y] 29)).heap.size := by simp; omega
      have ZY : w5.heap.size < (w5.alloc (.cells #[.int .i64 u, .int .i64 y] 29)).heap.size := by simp
      generalize (w5.alloc (.cells #[.int .i64 u, .int .i64 y] 29)) = w7 at L0 L1 BB ZZ ZY ⊢
      go_region_held3 (fun W => W.cell? ⟨w5.heap.size, 0, none⟩ = some (.int .i64 u) ∧ W.cell? ⟨w5.heap.size, 1, none⟩ = some (.int .i64 y))
        (first | exact ⟨K0, K1⟩ | go_keep)
        (first | (go_at_call 21; refine (warm_any _ _ _).mono ?_; rintro e w8 ⟨rfl, hb8⟩; have K0 := (hb8.cell (p := ⟨w5.heap.size, 0, none⟩) ZY).trans L0; have K1 := (hb8.cell (p := ⟨w5.heap.size, 1, none⟩) ZY).trans L1))
      have B8 : Below w.heap.size w w8 := Below.via BB.drew ZZ hb8
      go_wp2
      go_ret
      exact ⟨rfl, B8⟩

theorem heatTight_walk (A : Option Addr) (n c : Nat) (zs : List Int) (lo0 more0 tk : Int) (b : Bool) (w : World) (hr : Reads w w.heap.size 1 A n (zs.map (Value.int .i64))) (hn : n ≤ c) (hm : c ≤ 9223372036854775807) (tk0 : 0 ≤ tk) (tk1 : tk < 256) :
    Calls Try.prog 5 #[.agg #[.slice A n c, .int .i64 lo0, .int .i64 more0], .int .u8 tk, .bool b] w fun e w' => e = .returned (.bool true) ∧ Below w.heap.size w w' := by
  cases b
  · exact heatTight_false A n c zs lo0 more0 tk w hr hn hm tk0 tk1
  · exact heatTight_true A n c zs lo0 more0 tk w hr hn hm tk0 tk1
end Go.Proofs.Ytdiidinbgnjjmaa
