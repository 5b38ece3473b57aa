/-
  HeatTrue: the walk of the law over the contracts.
-/
import Derived.Test.YtdiidinbgnjjmaaL2
namespace Go.Proofs.Ytdiidinbgnjjmaa
open Go.RowKit

theorem okAll_one {r f t g p x y : Int} (a1 : 1 ≤ r) (a2 : r ≤ 4) (a3 : 0 ≤ f) (a4 : f ≤ 3) (a5 : 0 ≤ t) (a6 : t ≤ 20) (a7 : 0 ≤ g) (a8 : g ≤ 3) (a9 : 1 ≤ p) (a10 : p ≤ 8) (k : 0 ≤ x ∧ x ≤ y ∧ y ≤ t) (n : Int) (h0 : 0 ≤ n) (h1 : n ≤ 10000) : okAll r f t g p x y n = true := by
  rw [okAll_iff, okH_iff]; omega

/-- The two cells of the temperature may be written. -/
def Fr2 (b : Nat) (W : World) : Prop := W.frozen? ⟨b + 1, 0, none⟩ = false ∧ W.frozen? ⟨b + 1, 1, none⟩ = false
theorem Fr2.below {b : Nat} {W W1 : World} (h : Fr2 b W) (hb : Below W.heap.size W W1) (hz : b + 1 < W.heap.size) : Fr2 b W1 :=
  ⟨(hb.frozen (p := ⟨b + 1, 0, none⟩) hz).trans h.1, (hb.frozen (p := ⟨b + 1, 1, none⟩) hz).trans h.2⟩
theorem Fr2.set {b : Nat} {W : World} (h : Fr2 b W) (u v : Value) : Fr2 b ((W.setCell ⟨b + 1, 0, none⟩ u).setCell ⟨b + 1, 1, none⟩ v) := by
  obtain ⟨h0, h1⟩ := h
  exact ⟨by simp [go_sem, h0], by simp [go_sem, h1]⟩
theorem Mem2.set {w W : World} {b : Nat} {r f t g p x y : Int} (h : Mem2 w b r f t g p x y W) (hb : w.heap.size ≤ b + 1) (u v : Int) :
    Mem2 w b r f t g p u v ((W.setCell ⟨b + 1, 0, none⟩ (.int .i64 u)).setCell ⟨b + 1, 1, none⟩ (.int .i64 v)) := by
  obtain ⟨h0, h1, h2, h3, h4, h5, h6, hg, hg1, hz, hB⟩ := h
  refine ⟨?_, ?_, ?_, ?_, ?_, ?_, ?_, ?_, ?_, ?_, ?_⟩
  · simp [go_sem, h0]
  · simp [go_sem, h1]
  · simp [go_sem, h2]
  · simp [go_sem, h3]
  · simp [go_sem, h4]
  · simp [go_sem, h5]
  · simp [go_sem, h6]
  · simp [World.setCell]; exact hg
  · simp [World.setCell]; exact hg1
  · simp [World.setCell]; exact hz
  · exact (hB.setCell hb _).setCell hb _

theorem below_of_drew {W W1 : World} {k : Nat} (h : Below (W.drewN k).heap.size (W.drewN k) W1) : Below W.heap.size W W1 := ⟨h.os, h.tape, h.output, h.size, h.block⟩
theorem tmod_nonneg_eq (a m : Int) (h : 0 ≤ a) : a.tmod m = a % m := Int.tmod_eq_emod_of_nonneg h

set_option maxRecDepth 100000 in
set_option maxHeartbeats 4000000 in
theorem heatTrue_walk (A : Option Addr) (n c : Nat) (zs : List Int) (lo0 more0 att : Int) (L : Option Addr) (m c2 : Nat) (bs : List Int) (w : World) (hr : Reads w w.heap.size 1 A n (zs.map (Value.int .i64))) (hn : n ≤ c) (hm : c ≤ 9223372036854775807)
    (at0 : 0 ≤ att) (at1 : att < 256) (hl : Reads w w.heap.size 1 L m (bs.map (Value.int .u8))) (hbs : ∀ z ∈ bs, 0 ≤ z ∧ z < 256) (hm2 : m ≤ 9223372036854775807) :
    Calls Try.prog 4 #[.agg #[.slice A n c, .int .i64 lo0, .int .i64 more0], .int .u8 att, .slice L m c2] w fun e w' => e = .returned (.bool true) ∧ Below w.heap.size w w' := by
  have HR := Lib.hid hr
  have HL := Lib.hid hl
  have HBS := Lib.hid hbs
  clear hr hl hbs
  go_enter Try.func4, Try.ntmps4
  go_wp2_with fail
  refine (sanity_any _).mono ?_
  rintro e w1 ⟨rfl, hb⟩
  obtain ⟨hc, hf⟩ := bcell hb
  have hbl : Below w.heap.size w w1 := Below.via (by go_grown) (by go_size) hb
  have hz : w.heap.size < w1.heap.size := by have := hb.size; simp at this; omega
  have HR1 := Lib.hid (HR.out.below hbl)
  go_wp2_with fail
  refine (case_any A n c zs lo0 more0 w1 (HR1.out.more (by omega)) hn hm).mono ?_
  rintro e w2 ⟨r, f, t, g, p, x, y, rfl, hv, hw, hb2⟩
  have hbl2 : Below w.heap.size w w2 := Below.via hbl (by omega) hb2
  have hz2 : w.heap.size ≤ w2.heap.size := Nat.le_trans (by omega) hb2.size
  have M := Mem2.new hbl2 hz2 r f t g p x y
  have F : Fr2 w2.heap.size ((w2.alloc (.cells #[.int .i64 r, .int .i64 f, .int .i64 t, .int .i64 g, .int .i64 p] 27)).alloc (.cells #[.int .i64 x, .int .i64 y] 29)) := ⟨by simp [go_sem], by simp [go_sem]⟩
  have v1 : 1 ≤ r := by omega
  have v2 : r ≤ 4 := by omega
  have v3 : 0 ≤ f := by omega
  have v4 : f ≤ 3 := by omega
  have v5 : 0 ≤ t := by omega
  have v6 : t ≤ 20 := by omega
  have v7 : 0 ≤ g := by omega
  have v8 : g ≤ 3 := by omega
  have v9 : 1 ≤ p := by omega
  have v10 : p ≤ 8 := by omega
  obtain ⟨x0, xy, yt⟩ := hw
  clear hc hf hb hbl hz HR HR1 hb2 hv
  clear hbl2
  generalize hW : ((w2.alloc (.cells #[.int .i64 r, .int .i64 f, .int .i64 t, .int .i64 g, .int .i64 p] 27)).alloc (.cells #[.int .i64 x, .int .i64 y] 29)) = w3 at M F
  go_wp2
  try rw [hW]
  clear hW
  have HM := Lib.hid M
  obtain ⟨c0, c1, c2', c3, c4, c5, c6, z1, z2, z3, B3⟩ := M
  obtain ⟨tau, htau, tau0, tau1⟩ : ∃ tau : Int, att.tmod (y - x + 1) = tau ∧ 0 ≤ tau ∧ tau ≤ y - x :=
    ⟨att % (y - x + 1), tmod_nonneg_eq _ _ at0, (emod_bd att (y - x + 1) (by omega)).1, by have := (emod_bd att (y - x + 1) (by omega)).2; omega⟩
  have hq1 : IntKind.i64.wrap (y - x) = y - x := IntWalk.i64_in _ (by omega)
  have hq2 : IntKind.i64.wrap (y - x + 1) = y - x + 1 := IntWalk.i64_in _ (by omega)
  have hq3 : IntKind.i64.wrap (x + tau) = x + tau := IntWalk.i64_in _ (by omega)
  have hq4 : (y - x + 1 == 0) = false := by simp; omega
  have hq5 : ¬ y - x + 1 = 0 := by omega
  go_quiet (fail)
  go_wp2
  clear htau hq1 hq2 hq3 hq4 hq5 c0 c1 c2' c3 c4 c5 c6
  have HF := Lib.hid F
  clear F
  go_loopw [10, 11] (fun T K wr => ∃ (k : Nat) (ta X Y : Int), k ≤ m ∧ k ≤ 40 ∧ K = .int .i64 k ∧ T = .int .i64 ta ∧ 0 ≤ X ∧ X ≤ ta ∧ ta ≤ Y ∧ Y ≤ t ∧ Fr2 w2.heap.size wr ∧ Mem2 w w2.heap.size r f t g p X Y wr) (fun _ K _ => m - (intOf K).toNat)
  case atStart => exact ⟨0, x + tau, x, y, by omega, by omega, rfl, rfl, by omega, by omega, by omega, by omega, HF.out, HM.out.drewN _⟩
  case round =>
    clear HM HF z1 z2 z3 B3 tau0 tau1 x0 xy yt
    obtain ⟨k, ta, X, Y, hk, hk40, rfl, rfl, x0, xt, ty, yt, F4, M4⟩ := hrel
    have HM4 := Lib.hid M4
    have HF4 := Lib.hid F4
    obtain ⟨c0, c1, c2', c3, c4, c5, c6, z1, z2, z3, B3⟩ := M4
    have F4a := F4.1
    have F4b := F4.2
    clear F4
    by_cases hlt : k < m ∧ k < 40
    · obtain ⟨hlt, h40⟩ := hlt
      obtain ⟨ad, u, rfl, hbl, hu, hcl⟩ := (HL.out.below B3).at_ hlt
      have hlen : bs.length = m := by have := HL.out.1; simpa using this
      have hk' : k < bs.length := by omega
      obtain rfl : u = .int .u8 bs[k] := by
        rw [List.getElem?_map, List.getElem?_eq_getElem hk'] at hu
        simpa using hu.symm
      have hz := HBS.out bs[k] (List.getElem_mem hk')
      obtain ⟨z, hzz⟩ : ∃ z, z = bs[k] := ⟨_, rfl⟩
      rw [← hzz] at hcl hz
      obtain ⟨zz0, zz1⟩ := hz
      obtain ⟨nn, hnn, nn0, nn1⟩ : ∃ nn : Int, z / 2 = nn ∧ 0 ≤ nn ∧ nn < 128 := ⟨z / 2, rfl, by omega, by omega⟩
      have K1 := okAll_one v1 v2 v3 v4 v5 v6 v7 v8 v9 v10 ⟨x0, by omega, yt⟩ 1 (by omega) (by omega)
      have ec := Lib.hid (chk2_yes K1)
      clear hu hzz hlen hk' z3
      by_cases hev : z % 2 = 0
      · obtain ⟨rho, hrho, rho0, rho1⟩ : ∃ rho : Int, nn.tmod r = rho ∧ 0 ≤ rho ∧ rho < r := ⟨nn % r, tmod_nonneg_eq _ _ nn0, (emod_bd nn r v1).1, (emod_bd nn r v1).2⟩
        have hq1 : IntKind.i64.wrap (ta + 1) = ta + 1 := IntWalk.i64_in _ (by omega)
        have hq2 : IntKind.i64.wrap (ta + 1 + rho) = ta + 1 + rho := IntWalk.i64_in _ (by omega)
        have hq3 : (r == 0) = false := by simp; omega
        have hq4 : ¬ r = 0 := by omega
        have hev' : (z % 2 == 0) = true := by simp; omega
        have HE := Lib.hid hev
        clear hev
        obtain ⟨U, hU⟩ : ∃ U, U = min (X + 1) t := ⟨_, rfl⟩
        obtain ⟨V, hV⟩ : ∃ V, V = min (Y + 1 * r) t := ⟨_, rfl⟩
        have e1 := Lib.hid ((runLo_ok K1).trans hU.symm)
        have e2 := Lib.hid ((runHi_ok K1).trans hV.symm)
        have U0 : 0 ≤ U := by omega
        have Vt : V ≤ t := by omega
        by_cases hmin : t < ta + 1 + rho
        · have UT : U ≤ t := by omega
          have TV : t ≤ V := by omega
          clear hU hV K1
          have HE1 := Lib.hid e1
          go_wp2
          go_quiet (fail)
          go_wp2_with fail
          refine (run_any _ _ _ _ _ _ _ _ _).mono ?_
          rw [e1.out, e2.out, ec.out]
          rintro e w5 ⟨rfl, hb5⟩
          have M5 := (HM4.out.drewN _).below hb5
          have F5 : Fr2 w2.heap.size w5 := HF4.out.below (below_of_drew hb5) (by simpa using z2)
          have F5a := F5.1
          have F5b := F5.2
          have HM5 := Lib.hid M5
          have HF5 := Lib.hid F5
          clear c0 c1 c2' c3 c4 c5 c6 z1 z2 B3 hb5 F4a F4b F5
          obtain ⟨c0, c1, c2', c3, c4, c5, c6, z1, z2, z3, B5⟩ := M5
          go_wp2_with fail
          have M6 := HM5.out.set (by omega) U V
          have F6 := HF5.out.set (.int .i64 U) (.int .i64 V)
          generalize hW6 : ((w5.setCell ⟨w2.heap.size + 1, 0, none⟩ (.int .i64 U)).setCell ⟨w2.heap.size + 1, 1, none⟩ (.int .i64 V)) = w6 at M6 F6 ⊢
          clear hW6 c0 c1 c2' c3 c4 c5 c6 z1 z2 z3 B5 F5a F5b
          have K2 := okAll_one v1 v2 v3 v4 v5 v6 v7 v8 v9 v10 ⟨U0, by omega, Vt⟩ 0 (by omega) (by omega)
          have ec2 := Lib.hid (chk2_yes K2)
          obtain ⟨g1, -, -, g4, g5, -, -, g8, g9, g10, g11⟩ := growth_exact K2
          obtain ⟨ga, hga⟩ : ∃ q, growLo r f t g p U V = q := ⟨_, rfl⟩
          obtain ⟨gb, hgb⟩ : ∃ q, growHi r f t g p U V = q := ⟨_, rfl⟩
          simp only [hga, hgb] at g1 g4 g5 g8 g9 g10 g11
          have Ga := Lib.hid hga
          have Gb := Lib.hid hgb
          clear hga hgb K2
          refine (growth_any _ _ _ _ _ _ _ _).mono ?_
          rw [Ga.out, Gb.out, ec2.out]
          rintro e w7 ⟨rfl, hb7⟩
          have M7 := M6.below hb7
          have F7 := F6.below hb7 M6.2.2.2.2.2.2.2.2.1
          have HM7 := Lib.hid M7
          have HF7 := Lib.hid F7
          clear M6 F6 hb7 F7
          obtain ⟨c0, c1, c2', c3, c4, c5, c6, z1, z2, z3, B7⟩ := M7
          have p1 : g * U ≤ g * t := Int.mul_le_mul_of_nonneg_left UT v7
          have p2 : g * t ≤ g * V := Int.mul_le_mul_of_nonneg_left TV v7
          obtain ⟨p3, p4⟩ := mul_bounds (a := g) (b := t) (m := 3) v7 v8 (by omega) (by omega)
          obtain ⟨p5, p6⟩ := mul_bounds (a := g) (b := V) (m := 3) v7 v8 (by omega) (by omega)
          go_wp2
          go_roundw
          case rel => exact ⟨k + 1, t, U, V, by omega, by omega, by go_num, rfl, U0, UT, TV, Vt, HF7.out, HM7.out⟩
          case measure => simp [intOf]; omega
        · have UT : U ≤ ta + 1 + rho := by omega
          have TV : ta + 1 + rho ≤ V := by omega
          clear hU hV K1
          have HE1 := Lib.hid e1
          go_wp2
          go_quiet (fail)
          go_wp2_with fail
          refine (run_any _ _ _ _ _ _ _ _ _).mono ?_
          rw [e1.out, e2.out, ec.out]
          rintro e w5 ⟨rfl, hb5⟩
          have M5 := (HM4.out.drewN _).below hb5
          have F5 : Fr2 w2.heap.size w5 := HF4.out.below (below_of_drew hb5) (by simpa using z2)
          have F5a := F5.1
          have F5b := F5.2
          have HM5 := Lib.hid M5
          have HF5 := Lib.hid F5
          clear c0 c1 c2' c3 c4 c5 c6 z1 z2 B3 hb5 F4a F4b F5
          obtain ⟨c0, c1, c2', c3, c4, c5, c6, z1, z2, z3, B5⟩ := M5
          go_wp2_with fail
          have M6 := HM5.out.set (by omega) U V
          have F6 := HF5.out.set (.int .i64 U) (.int .i64 V)
          generalize hW6 : ((w5.setCell ⟨w2.heap.size + 1, 0, none⟩ (.int .i64 U)).setCell ⟨w2.heap.size + 1, 1, none⟩ (.int .i64 V)) = w6 at M6 F6 ⊢
          clear hW6 c0 c1 c2' c3 c4 c5 c6 z1 z2 z3 B5 F5a F5b
          have K2 := okAll_one v1 v2 v3 v4 v5 v6 v7 v8 v9 v10 ⟨U0, by omega, Vt⟩ 0 (by omega) (by omega)
          have ec2 := Lib.hid (chk2_yes K2)
          obtain ⟨g1, -, -, g4, g5, -, -, g8, g9, g10, g11⟩ := growth_exact K2
          obtain ⟨ga, hga⟩ : ∃ q, growLo r f t g p U V = q := ⟨_, rfl⟩
          obtain ⟨gb, hgb⟩ : ∃ q, growHi r f t g p U V = q := ⟨_, rfl⟩
          simp only [hga, hgb] at g1 g4 g5 g8 g9 g10 g11
          have Ga := Lib.hid hga
          have Gb := Lib.hid hgb
          clear hga hgb K2
          refine (growth_any _ _ _ _ _ _ _ _).mono ?_
          rw [Ga.out, Gb.out, ec2.out]
          rintro e w7 ⟨rfl, hb7⟩
          have M7 := M6.below hb7
          have F7 := F6.below hb7 M6.2.2.2.2.2.2.2.2.1
          have HM7 := Lib.hid M7
          have HF7 := Lib.hid F7
          clear M6 F6 hb7 F7
          obtain ⟨c0, c1, c2', c3, c4, c5, c6, z1, z2, z3, B7⟩ := M7
          have p1 : g * U ≤ g * (ta + 1 + rho) := Int.mul_le_mul_of_nonneg_left UT v7
          have p2 : g * (ta + 1 + rho) ≤ g * V := Int.mul_le_mul_of_nonneg_left TV v7
          obtain ⟨p3, p4⟩ := mul_bounds (a := g) (b := (ta + 1 + rho)) (m := 3) v7 v8 (by omega) (by omega)
          obtain ⟨p5, p6⟩ := mul_bounds (a := g) (b := V) (m := 3) v7 v8 (by omega) (by omega)
          go_wp2
          go_roundw
          case rel => exact ⟨k + 1, (ta + 1 + rho), U, V, by omega, by omega, by go_num, rfl, U0, UT, TV, Vt, HF7.out, HM7.out⟩
          case measure => simp [intOf]; omega
      · obtain ⟨rho, hrho, rho0, rho1⟩ : ∃ rho : Int, nn.tmod (f + 1) = rho ∧ 0 ≤ rho ∧ rho < f + 1 := ⟨nn % (f + 1), tmod_nonneg_eq _ _ nn0, (emod_bd nn (f + 1) (by omega)).1, (emod_bd nn (f + 1) (by omega)).2⟩
        have hrho' : nn % (f + 1) = rho := by rw [← tmod_nonneg_eq _ _ nn0]; exact hrho
        have hev' : (z % 2 == 0) = false := by simp; omega
        have hq3 : (f + 1 == 0) = false := by simp; omega
        have HE := Lib.hid hev
        clear hev
        obtain ⟨U, hU⟩ : ∃ U, U = max (X - 1 * f) 0 := ⟨_, rfl⟩
        obtain ⟨V, hV⟩ : ∃ V, V = Y := ⟨_, rfl⟩
        have e1 := Lib.hid ((restLo_ok K1).trans hU.symm)
        have e2 := Lib.hid ((restHi_ok K1).trans hV.symm)
        have U0 : 0 ≤ U := by omega
        have Vt : V ≤ t := by omega
        by_cases hmax : ta - rho < 0
        · have UT : U ≤ 0 := by omega
          have TV : 0 ≤ V := by omega
          clear hU hV K1
          have HE1 := Lib.hid e1
          go_wp2_with fail
          refine (rest_any _ _ _ _ _ _ _ _ _).mono ?_
          rw [e1.out, e2.out, ec.out]
          rintro e w5 ⟨rfl, hb5⟩
          have M5 := HM4.out.below hb5
          have F5 : Fr2 w2.heap.size w5 := HF4.out.below hb5 (by simpa using z2)
          have F5a := F5.1
          have F5b := F5.2
          have HM5 := Lib.hid M5
          have HF5 := Lib.hid F5
          clear c0 c1 c2' c3 c4 c5 c6 z1 z2 B3 hb5 F4a F4b F5
          obtain ⟨c0, c1, c2', c3, c4, c5, c6, z1, z2, z3, B5⟩ := M5
          go_wp2_with fail
          have M6 := HM5.out.set (by omega) U V
          have F6 := HF5.out.set (.int .i64 U) (.int .i64 V)
          generalize hW6 : ((w5.setCell ⟨w2.heap.size + 1, 0, none⟩ (.int .i64 U)).setCell ⟨w2.heap.size + 1, 1, none⟩ (.int .i64 V)) = w6 at M6 F6 ⊢
          clear hW6 c0 c1 c2' c3 c4 c5 c6 z1 z2 z3 B5 F5a F5b
          have K2 := okAll_one v1 v2 v3 v4 v5 v6 v7 v8 v9 v10 ⟨U0, by omega, Vt⟩ 0 (by omega) (by omega)
          have ec2 := Lib.hid (chk2_yes K2)
          obtain ⟨g1, -, -, g4, g5, -, -, g8, g9, g10, g11⟩ := growth_exact K2
          obtain ⟨ga, hga⟩ : ∃ q, growLo r f t g p U V = q := ⟨_, rfl⟩
          obtain ⟨gb, hgb⟩ : ∃ q, growHi r f t g p U V = q := ⟨_, rfl⟩
          simp only [hga, hgb] at g1 g4 g5 g8 g9 g10 g11
          have Ga := Lib.hid hga
          have Gb := Lib.hid hgb
          clear hga hgb K2
          refine (growth_any _ _ _ _ _ _ _ _).mono ?_
          rw [Ga.out, Gb.out, ec2.out]
          rintro e w7 ⟨rfl, hb7⟩
          have M7 := M6.below hb7
          have F7 := F6.below hb7 M6.2.2.2.2.2.2.2.2.1
          have HM7 := Lib.hid M7
          have HF7 := Lib.hid F7
          clear M6 F6 hb7 F7
          obtain ⟨c0, c1, c2', c3, c4, c5, c6, z1, z2, z3, B7⟩ := M7
          have p1 : g * U ≤ g * 0 := Int.mul_le_mul_of_nonneg_left UT v7
          have p2 : g * 0 ≤ g * V := Int.mul_le_mul_of_nonneg_left TV v7
          obtain ⟨p3, p4⟩ := mul_bounds (a := g) (b := 0) (m := 3) v7 v8 (by omega) (by omega)
          obtain ⟨p5, p6⟩ := mul_bounds (a := g) (b := V) (m := 3) v7 v8 (by omega) (by omega)
          go_wp2
          go_roundw
          case rel => exact ⟨k + 1, 0, U, V, by omega, by omega, by go_num, rfl, U0, UT, TV, Vt, HF7.out, HM7.out⟩
          case measure => simp [intOf]; omega
        · have UT : U ≤ ta - rho := by omega
          have TV : ta - rho ≤ V := by omega
          clear hU hV K1
          have HE1 := Lib.hid e1
          go_wp2_with fail
          refine (rest_any _ _ _ _ _ _ _ _ _).mono ?_
          rw [e1.out, e2.out, ec.out]
          rintro e w5 ⟨rfl, hb5⟩
          have M5 := HM4.out.below hb5
          have F5 : Fr2 w2.heap.size w5 := HF4.out.below hb5 (by simpa using z2)
          have F5a := F5.1
          have F5b := F5.2
          have HM5 := Lib.hid M5
          have HF5 := Lib.hid F5
          clear c0 c1 c2' c3 c4 c5 c6 z1 z2 B3 hb5 F4a F4b F5
          obtain ⟨c0, c1, c2', c3, c4, c5, c6, z1, z2, z3, B5⟩ := M5
          go_wp2_with fail
          have M6 := HM5.out.set (by omega) U V
          have F6 := HF5.out.set (.int .i64 U) (.int .i64 V)
          generalize hW6 : ((w5.setCell ⟨w2.heap.size + 1, 0, none⟩ (.int .i64 U)).setCell ⟨w2.heap.size + 1, 1, none⟩ (.int .i64 V)) = w6 at M6 F6 ⊢
          clear hW6 c0 c1 c2' c3 c4 c5 c6 z1 z2 z3 B5 F5a F5b
          have K2 := okAll_one v1 v2 v3 v4 v5 v6 v7 v8 v9 v10 ⟨U0, by omega, Vt⟩ 0 (by omega) (by omega)
          have ec2 := Lib.hid (chk2_yes K2)
          obtain ⟨g1, -, -, g4, g5, -, -, g8, g9, g10, g11⟩ := growth_exact K2
          obtain ⟨ga, hga⟩ : ∃ q, growLo r f t g p U V = q := ⟨_, rfl⟩
          obtain ⟨gb, hgb⟩ : ∃ q, growHi r f t g p U V = q := ⟨_, rfl⟩
          simp only [hga, hgb] at g1 g4 g5 g8 g9 g10 g11
          have Ga := Lib.hid hga
          have Gb := Lib.hid hgb
          clear hga hgb K2
          refine (growth_any _ _ _ _ _ _ _ _).mono ?_
          rw [Ga.out, Gb.out, ec2.out]
          rintro e w7 ⟨rfl, hb7⟩
          have M7 := M6.below hb7
          have F7 := F6.below hb7 M6.2.2.2.2.2.2.2.2.1
          have HM7 := Lib.hid M7
          have HF7 := Lib.hid F7
          clear M6 F6 hb7 F7
          obtain ⟨c0, c1, c2', c3, c4, c5, c6, z1, z2, z3, B7⟩ := M7
          have p1 : g * U ≤ g * (ta - rho) := Int.mul_le_mul_of_nonneg_left UT v7
          have p2 : g * (ta - rho) ≤ g * V := Int.mul_le_mul_of_nonneg_left TV v7
          obtain ⟨p3, p4⟩ := mul_bounds (a := g) (b := (ta - rho)) (m := 3) v7 v8 (by omega) (by omega)
          obtain ⟨p5, p6⟩ := mul_bounds (a := g) (b := V) (m := 3) v7 v8 (by omega) (by omega)
          go_wp2
          go_roundw
          case rel => exact ⟨k + 1, (ta - rho), U, V, by omega, by omega, by go_num, rfl, U0, UT, TV, Vt, HF7.out, HM7.out⟩
          case measure => simp [intOf]; omega
    · by_cases hlt2 : k < m
      · have h40 : k = 40 := by omega
        subst h40
        go_wp2
        go_ret
        exact ⟨rfl, B3⟩
      · go_wp2
        go_ret
        exact ⟨rfl, B3⟩
end Go.Proofs.Ytdiidinbgnjjmaa
