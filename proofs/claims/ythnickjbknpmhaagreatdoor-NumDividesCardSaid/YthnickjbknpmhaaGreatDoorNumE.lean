/-
  The contract of plus.
-/
import Derived.Test.YthnickjbknpmhaaGreatDoorNumD
namespace Go.Proofs.YthnickjbknpmhaaGreatDoor
open Go.RowKit

set_option maxHeartbeats 400000 in
theorem plus_ge (A A2 : Option Addr) (n c n2 c2 B : Nat) (l m : List Nat) (w : World) (h : Sl w B A n c l) (h2 : Sl w B A2 n2 c2 m) (hB : B ≤ w.heap.size) (hn : n ≤ 1000) (hn2 : n2 ≤ n) :
    Calls Tryz.prog 26 #[.slice A n c, .slice A2 n2 c2] w (RetD (nval l + nval m) w) := by
  have HL := Lib.hid h.len
  have HL2 := Lib.hid h2.len
  have H := Lib.hid h
  have H2 := Lib.hid h2
  clear h h2
  have hmk := run_make_mag (n + 1) (by omega)
  have ec : ((n + 1 : Nat) : Int) = (n : Int) + 1 := by omega
  rw [ec] at hmk
  clear ec
  have hdn : decide (n < n2) = false := by simp; omega
  go_enter Tryz.func26, Tryz.ntmps26
  go_wp2
  clear hmk
  go_loopw [6, 23] (fun b k wr => ∃ (j bw : Nat) (o : List Nat), j ≤ n ∧ bw ≤ 1 ∧ k = .int .i64 j ∧ b = .int .u32 bw ∧ DBk wr w.heap.size 40 o ∧ Hid (o.length = n + 1 ∧ Dig o ∧ nval (o.take j) + 4294967296 ^ j * bw = nval (l.take j) + nval (m.take j)) ∧ Below w.heap.size w wr) (fun _ k _ => n - (intOf k).toNat)
  case atStart => exact ⟨0, 0, List.replicate (n + 1) 0, by omega, by omega, rfl, rfl, DBk.new w _ (n + 1), by unfold Hid; exact ⟨by simp, dig_zeros _, by simp [nval]⟩, by go_grown⟩
  case round =>
    obtain ⟨j, bw, o, hj, hbw, rfl, rfl, hO, hI, hBw⟩ := hrel
    by_cases hlt : j < n
    · obtain ⟨ad, rfl, hb, hc⟩ := (H.out.below (hBw.mono hB)).at_ (k := j) hlt
      have hd1 := dg_lt H.out.dig j
      have hd2 := dg_lt H2.out.dig j
      have hcg := hO.cell (k := j) (by rw [hI.out.1]; omega)
      have hfg := hO.frozen j
      have hz := hO.lt
      obtain ⟨y, hy⟩ : ∃ y, dg m j = y := ⟨_, rfl⟩
      have hN : Hid ((o.set j (adD (dg l j) y bw)).length = n + 1 ∧ Dig (o.set j (adD (dg l j) y bw)) ∧ nval ((o.set j (adD (dg l j) y bw)).take (j + 1)) + 4294967296 ^ (j + 1) * adC (dg l j) y bw = nval (l.take (j + 1)) + nval (m.take (j + 1))) := by
        obtain ⟨i1, i2, i3⟩ := hI.out
        rw [hy] at hd2
        have s := ad_spec hd1 hd2 hbw
        refine ⟨by simpa using i1, dig_set i2 s.2.1, ?_⟩
        rw [nval_take_dg l, nval_take_dg m, nval_set_take _ _ _ (by omega), hy]
        exact plus_step (Nat.pow_succ ..) s.1 i3
      have hb1 := (ad_spec hd1 (by rw [← hy]; exact hd2 : y < 4294967296) hbw).2.2
      have hO2 := hO.set j (adD (dg l j) y bw)
      clear hO hI
      by_cases hlt2 : j < n2
      · obtain ⟨ad2, rfl, hb2, hc2⟩ := (H2.out.below (hBw.mono hB)).at_ (k := j) hlt2
        rw [hy] at hc2 hd2
        clear hy
        go_wp2_with (go_at_call 55; refine (add32_to (dg l j) y bw _ hd1 hd2 hbw).mono ?_; rintro e w' ⟨rfl, rfl⟩)
        go_roundw
        case rel => exact ⟨j + 1, _, _, by omega, hb1, by go_num, rfl, hO2, hN, by go_grown⟩
        case measure => simp [intOf]; omega
      · obtain rfl : 0 = y := by rw [← hy]; exact (dg_past (by have := HL2.out; omega)).symm
        clear hy hd2
        go_wp2_with (go_at_call 55; refine (add32_to (dg l j) 0 bw _ hd1 (by omega) hbw).mono ?_; rintro e w' ⟨rfl, rfl⟩)
        go_roundw
        case rel => exact ⟨j + 1, _, _, by omega, hb1, by go_num, rfl, hO2, hN, by go_grown⟩
        case measure => simp [intOf]; omega
    · have hjn : j = n := by omega
      have hO2 := hO.set n bw
      have hv : Hid (nval (o.set n bw) = nval l + nval m) := by
        obtain ⟨i1, i2, i3⟩ := hI.out
        have h1 := HL.out
        have h2 := HL2.out
        rw [List.take_of_length_le (l := l) (by omega), List.take_of_length_le (l := m) (by omega)] at i3
        unfold Hid
        rw [← i3, ← List.take_of_length_le (l := o.set n bw) (i := n + 1) (by simp; omega), nval_set_take _ _ _ (by omega), hjn]
      have hsl : Sl (wr.setCell ⟨w.heap.size, n, none⟩ (.int .u32 bw)) (w.heap.size + 1) (some ⟨w.heap.size, 0, none⟩) (n + 1) (n + 1) (o.set n bw) := by
        obtain ⟨i1, i2, i3⟩ := hI.out
        have := hO2.sl (dig_set i2 (by omega)) (B := w.heap.size + 1) (by omega) (by simp; omega)
        rw [List.length_set, i1] at this
        exact this
      have hcg := hO.cell (k := n) (by rw [hI.out.1]; omega)
      have hfg := hO.frozen n
      have hz := hO.lt
      clear hjn hO hI hO2
      go_wp2_with (go_at_call 50; refine (trim_val hsl hv.out).mono ?_; rintro e w' ⟨n', rfl, hs', rfl⟩)
      go_ret
      exact ⟨_, _, _, rfl, hs'.more (by simp; omega), by go_grown⟩

set_option maxHeartbeats 400000 in
theorem plus_lt (A A2 : Option Addr) (n c n2 c2 B : Nat) (l m : List Nat) (w : World) (h : Sl w B A n c l) (h2 : Sl w B A2 n2 c2 m) (hB : B ≤ w.heap.size) (hn : n ≤ 1000) (hn2 : n2 < n) :
    Calls Tryz.prog 26 #[.slice A2 n2 c2, .slice A n c] w (RetD (nval l + nval m) w) := by
  have HL := Lib.hid h.len
  have HL2 := Lib.hid h2.len
  have H := Lib.hid h
  have H2 := Lib.hid h2
  clear h h2
  have hmk := run_make_mag (n + 1) (by omega)
  have ec : ((n + 1 : Nat) : Int) = (n : Int) + 1 := by omega
  rw [ec] at hmk
  clear ec
  have hdn : decide (n2 < n) = true := by simp; omega
  go_enter Tryz.func26, Tryz.ntmps26
  go_wp2
  clear hmk
  go_loopw [6, 23] (fun b k wr => ∃ (j bw : Nat) (o : List Nat), j ≤ n ∧ bw ≤ 1 ∧ k = .int .i64 j ∧ b = .int .u32 bw ∧ DBk wr w.heap.size 40 o ∧ Hid (o.length = n + 1 ∧ Dig o ∧ nval (o.take j) + 4294967296 ^ j * bw = nval (l.take j) + nval (m.take j)) ∧ Below w.heap.size w wr) (fun _ k _ => n - (intOf k).toNat)
  case atStart => exact ⟨0, 0, List.replicate (n + 1) 0, by omega, by omega, rfl, rfl, DBk.new w _ (n + 1), by unfold Hid; exact ⟨by simp, dig_zeros _, by simp [nval]⟩, by go_grown⟩
  case round =>
    obtain ⟨j, bw, o, hj, hbw, rfl, rfl, hO, hI, hBw⟩ := hrel
    by_cases hlt : j < n
    · obtain ⟨ad, rfl, hb, hc⟩ := (H.out.below (hBw.mono hB)).at_ (k := j) hlt
      have hd1 := dg_lt H.out.dig j
      have hd2 := dg_lt H2.out.dig j
      have hcg := hO.cell (k := j) (by rw [hI.out.1]; omega)
      have hfg := hO.frozen j
      have hz := hO.lt
      obtain ⟨y, hy⟩ : ∃ y, dg m j = y := ⟨_, rfl⟩
      have hN : Hid ((o.set j (adD (dg l j) y bw)).length = n + 1 ∧ Dig (o.set j (adD (dg l j) y bw)) ∧ nval ((o.set j (adD (dg l j) y bw)).take (j + 1)) + 4294967296 ^ (j + 1) * adC (dg l j) y bw = nval (l.take (j + 1)) + nval (m.take (j + 1))) := by
        obtain ⟨i1, i2, i3⟩ := hI.out
        rw [hy] at hd2
        have s := ad_spec hd1 hd2 hbw
        refine ⟨by simpa using i1, dig_set i2 s.2.1, ?_⟩
        rw [nval_take_dg l, nval_take_dg m, nval_set_take _ _ _ (by omega), hy]
        exact plus_step (Nat.pow_succ ..) s.1 i3
      have hb1 := (ad_spec hd1 (by rw [← hy]; exact hd2 : y < 4294967296) hbw).2.2
      have hO2 := hO.set j (adD (dg l j) y bw)
      clear hO hI
      by_cases hlt2 : j < n2
      · obtain ⟨ad2, rfl, hb2, hc2⟩ := (H2.out.below (hBw.mono hB)).at_ (k := j) hlt2
        rw [hy] at hc2 hd2
        clear hy
        go_wp2_with (go_at_call 55; refine (add32_to (dg l j) y bw _ hd1 hd2 hbw).mono ?_; rintro e w' ⟨rfl, rfl⟩)
        go_roundw
        case rel => exact ⟨j + 1, _, _, by omega, hb1, by go_num, rfl, hO2, hN, by go_grown⟩
        case measure => simp [intOf]; omega
      · obtain rfl : 0 = y := by rw [← hy]; exact (dg_past (by have := HL2.out; omega)).symm
        clear hy hd2
        go_wp2_with (go_at_call 55; refine (add32_to (dg l j) 0 bw _ hd1 (by omega) hbw).mono ?_; rintro e w' ⟨rfl, rfl⟩)
        go_roundw
        case rel => exact ⟨j + 1, _, _, by omega, hb1, by go_num, rfl, hO2, hN, by go_grown⟩
        case measure => simp [intOf]; omega
    · have hjn : j = n := by omega
      have hO2 := hO.set n bw
      have hv : Hid (nval (o.set n bw) = nval l + nval m) := by
        obtain ⟨i1, i2, i3⟩ := hI.out
        have h1 := HL.out
        have h2 := HL2.out
        rw [List.take_of_length_le (l := l) (by omega), List.take_of_length_le (l := m) (by omega)] at i3
        unfold Hid
        rw [← i3, ← List.take_of_length_le (l := o.set n bw) (i := n + 1) (by simp; omega), nval_set_take _ _ _ (by omega), hjn]
      have hsl : Sl (wr.setCell ⟨w.heap.size, n, none⟩ (.int .u32 bw)) (w.heap.size + 1) (some ⟨w.heap.size, 0, none⟩) (n + 1) (n + 1) (o.set n bw) := by
        obtain ⟨i1, i2, i3⟩ := hI.out
        have := hO2.sl (dig_set i2 (by omega)) (B := w.heap.size + 1) (by omega) (by simp; omega)
        rw [List.length_set, i1] at this
        exact this
      have hcg := hO.cell (k := n) (by rw [hI.out.1]; omega)
      have hfg := hO.frozen n
      have hz := hO.lt
      clear hjn hO hI hO2
      go_wp2_with (go_at_call 50; refine (trim_val hsl hv.out).mono ?_; rintro e w' ⟨n', rfl, hs', rfl⟩)
      go_ret
      exact ⟨_, _, _, rfl, hs'.more (by simp; omega), by go_grown⟩

theorem plus_any {A A2 : Option Addr} {n c n2 c2 B : Nat} {l m : List Nat} {w : World} (h : Sl w B A n c l) (h2 : Sl w B A2 n2 c2 m) (hB : B ≤ w.heap.size) (hn : n ≤ 1000) (hn2 : n2 ≤ 1000) :
    Calls Tryz.prog 26 #[.slice A n c, .slice A2 n2 c2] w (RetD (nval l + nval m) w) := by
  rcases Nat.lt_or_ge n n2 with hs | hs
  · rw [Nat.add_comm]; exact plus_lt A2 A n2 c2 n c B m l w h2 h hB hn2 hs
  · exact plus_ge A A2 n c n2 c2 B l m w h h2 hB hn hs
end Go.Proofs.YthnickjbknpmhaaGreatDoor
