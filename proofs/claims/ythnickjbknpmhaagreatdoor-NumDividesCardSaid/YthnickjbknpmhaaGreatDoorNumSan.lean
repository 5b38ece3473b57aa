/-
  The contract of the law package's sanity: the chapter's examples.
-/
import Derived.Test.YthnickjbknpmhaaGreatDoorNumIs
namespace Go.Proofs.YthnickjbknpmhaaGreatDoor
open Go.RowKit Go.Shelf

theorem NB.alloc_ {W : World} {b : Nat} {neg : Bool} {v : Nat} (h : NB W b neg v) (o : Obj) : NB (W.alloc o) b neg v := h.via ((Below.refl _ _).alloc (Nat.le_refl _) o)
theorem NB.newg {W : World} {neg : Bool} {v g : Nat} {A : Option Addr} {n c : Nat} (h : Sl W W.heap.size A n c (digs v)) (T : TypeId) (hg : W.heap.size = g) : NB (W.alloc (.cells #[.bool neg, .slice A n c] T)) g neg v := by
  subst hg; exact NB.new h T
theorem Sl.builtg {W : World} {l : List Nat} {v k g : Nat} (hl : digs v = l) (hk : l.length = k) (hk2 : k ≤ 1000) (hg : W.heap.size = g) : Sl (W.alloc (.cells (u32s l).toArray 40)) (W.alloc (.cells (u32s l).toArray 40)).heap.size (some ⟨g, 0, none⟩) k k (digs v) := by
  subst hg; exact Sl.built hl hk hk2
theorem san_12 : parseS [45, 49, 50] = some (sgn true 12) := by
  have : Lib.itoa (sgn true 12) = [45, 49, 50] := by
    rw [show sgn true 12 = -12 from rfl]
    simp [Lib.itoa, Lib.decDigits]
  rw [← this]
  exact parseS_itoa (by rw [sgn_abs]; exact (Rt.small (v := 12) (by omega)).2)
theorem san_007 : parseS [48, 48, 55] = none := by
  unfold parseS
  rw [if_neg]
  rintro ⟨h, _⟩
  rw [show valS [48, 48, 55] = 7 by decide] at h
  simp [Lib.itoa, Lib.decDigits] at h
theorem san_0 : parseS [45, 48] = none := by
  unfold parseS
  rw [if_neg]
  rintro ⟨h, _⟩
  rw [show valS [45, 48] = 0 by decide] at h
  simp [Lib.itoa, Lib.decDigits] at h
theorem san_big : Lib.itoa (sgn true 18446744073709551616) = [45, 49, 56, 52, 52, 54, 55, 52, 52, 48, 55, 51, 55, 48, 57, 53, 53, 49, 54, 49, 54] := by
  rw [show sgn true 18446744073709551616 = -18446744073709551616 from rfl]
  simp [Lib.itoa, Lib.decDigits]

set_option maxRecDepth 100000 in
set_option maxHeartbeats 8000000 in
theorem sanity_any (w : World) {B : Nat} (hB : B ≤ w.heap.size) (hT : PowT B w) (hS : SynT B w) :
    Calls Tryz.prog 5 #[] w fun e w' => e = .returned (.bool true) ∧ Below w.heap.size w w' := by
  have O1 := Lib.hid (fun (W : World) => of_v (W := W) (show Rt false 4294967296 from Rt.small (by omega)) (x := 4294967296) rfl (by omega) (by omega))
  have O2 := Lib.hid (fun (W : World) => of_v (W := W) (show Rt false 1 from Rt.small (by omega)) (x := 1) rfl (by omega) (by omega))
  have O3 := Lib.hid (fun (W : World) => of_v (W := W) (show Rt true 1 from Rt.smallN (by omega) (by omega)) (x := -1) rfl (by omega) (by omega))
  have O4 := Lib.hid (fun (W : World) => of_v (W := W) (show Rt false 7 from Rt.small (by omega)) (x := 7) rfl (by omega) (by omega))
  have O5 := Lib.hid (fun (W : World) => of_v (W := W) (show Rt false 0 from Rt.small (by omega)) (x := 0) rfl (by omega) (by omega))
  have O6 := Lib.hid (fun (W : World) => of_v (W := W) (show Rt true 12 from Rt.smallN (by omega) (by omega)) (x := -12) rfl (by omega) (by omega))
  have O7 := Lib.hid (fun (W : World) => of_v (W := W) (show Rt false 18 from Rt.small (by omega)) (x := 18) rfl (by omega) (by omega))
  have M1 := Lib.hid (fun (W : World) (A A2 : Option Addr) (n c n2 c2 : Nat) (h : Sl W W.heap.size A n c (digs 4294967295)) (h2 : Sl W W.heap.size A2 n2 c2 (digs 4294967295)) => mul_v (show Rt false 4294967295 from Rt.small (by omega)) (show Rt false 4294967295 from Rt.small (by omega)) (show Rt false 18446744065119617025 from Rt.small (by omega)) rfl h h2)
  have S1_ := Lib.hid (fun (W : World) (A A2 : Option Addr) (n c n2 c2 : Nat) (h : Sl W W.heap.size A n c (digs 4294967296)) (h2 : Sl W W.heap.size A2 n2 c2 (digs 1)) => sub_v (show Rt false 4294967296 from Rt.small (by omega)) (show Rt false 1 from Rt.small (by omega)) (show Rt false 4294967295 from Rt.small (by omega)) rfl h h2)
  have D1 := Lib.hid (fun (W : World) (A A2 : Option Addr) (n c n2 c2 : Nat) (h : Sl W W.heap.size A n c (digs 7)) (h2 : Sl W W.heap.size A2 n2 c2 (digs 0)) => div_0 (neg := false) h h2)
  have G1 := Lib.hid (fun (W : World) (A A2 : Option Addr) (n c n2 c2 : Nat) (h : Sl W W.heap.size A n c (digs 12)) (h2 : Sl W W.heap.size A2 n2 c2 (digs 18)) => gcd_v (show Rt true 12 from Rt.smallN (by omega) (by omega)) (show Rt false 18 from Rt.small (by omega)) (show Rt false 6 from Rt.small (by omega)) (by decide) h h2)
  have G2 := Lib.hid (fun (W : World) (A A2 : Option Addr) (n c n2 c2 : Nat) (h : Sl W W.heap.size A n c (digs 0)) (h2 : Sl W W.heap.size A2 n2 c2 (digs 0)) => gcd_v (show Rt false 0 from Rt.small (by omega)) (show Rt false 0 from Rt.small (by omega)) (show Rt false 0 from Rt.small (by omega)) (by decide) h h2)
  have K1 := Lib.hid (fun (W : World) (A A2 : Option Addr) (n c n2 c2 : Nat) (h : Sl W W.heap.size A n c (digs 4294967296)) (h2 : Sl W W.heap.size A2 n2 c2 (digs 4294967296)) => is_v (show Rt false 4294967296 from Rt.small (by omega)) (show Rt false 4294967296 from Rt.small (by omega)) true true (by decide +kernel) h h2)
  have K2 := Lib.hid (fun (W : World) (A A2 : Option Addr) (n c n2 c2 : Nat) (h : Sl W W.heap.size A n c (digs 1)) (h2 : Sl W W.heap.size A2 n2 c2 (digs 1)) => is_v (show Rt true 1 from Rt.smallN (by omega) (by omega)) (show Rt true 1 from Rt.smallN (by omega) (by omega)) true true (by decide +kernel) h h2)
  have K3 := Lib.hid (fun (W : World) (A A2 : Option Addr) (n c n2 c2 : Nat) (h : Sl W W.heap.size A n c (digs 18446744065119617025)) (h2 : Sl W W.heap.size A2 n2 c2 (digs 18446744065119617025)) => is_v (show Rt false 18446744065119617025 from Rt.small (by omega)) (show Rt false 18446744065119617025 from Rt.small (by omega)) true true (by decide +kernel) h h2)
  have K4 := Lib.hid (fun (W : World) (A A2 : Option Addr) (n c n2 c2 : Nat) (h : Sl W W.heap.size A n c (digs 4294967295)) (h2 : Sl W W.heap.size A2 n2 c2 (digs 4294967295)) => is_v (show Rt false 4294967295 from Rt.small (by omega)) (show Rt false 4294967295 from Rt.small (by omega)) true true (by decide +kernel) h h2)
  have K5 := Lib.hid (fun (W : World) (A A2 : Option Addr) (n c n2 c2 : Nat) (h : Sl W W.heap.size A n c (digs 6)) (h2 : Sl W W.heap.size A2 n2 c2 (digs 6)) => is_v (show Rt false 6 from Rt.small (by omega)) (show Rt false 6 from Rt.small (by omega)) true true (by decide +kernel) h h2)
  have K6 := Lib.hid (fun (W : World) (A A2 : Option Addr) (n c n2 c2 : Nat) (h : Sl W W.heap.size A n c (digs 0)) (h2 : Sl W W.heap.size A2 n2 c2 (digs 0)) => is_v (show Rt false 0 from Rt.small (by omega)) (show Rt false 0 from Rt.small (by omega)) true true (by decide +kernel) h h2)
  have K7 := Lib.hid (fun (W : World) (A A2 : Option Addr) (n c n2 c2 : Nat) (h : Sl W W.heap.size A n c (digs 12)) (h2 : Sl W W.heap.size A2 n2 c2 (digs 12)) => is_v (show Rt true 12 from Rt.smallN (by omega) (by omega)) (show Rt true 12 from Rt.smallN (by omega) (by omega)) true true (by decide +kernel) h h2)
  have V1 := Lib.hid (fun (W : World) => divides_v (show Rt true 7 from Rt.smallN (by omega) (by omega)) (show Rt false 2 from Rt.small (by omega)) (show Rt true 4 from Rt.smallN (by omega) (by omega)) (show Rt false 1 from Rt.small (by omega)) (by decide) (by decide) (by decide) (-7) (2) (-4) (1) rfl rfl rfl rfl (by decide) (by decide) (by decide) (by decide) W)
  have V2 := Lib.hid (fun (W : World) => divides_v (show Rt false 7 from Rt.small (by omega)) (show Rt true 2 from Rt.smallN (by omega) (by omega)) (show Rt true 3 from Rt.smallN (by omega) (by omega)) (show Rt false 1 from Rt.small (by omega)) (by decide) (by decide) (by decide) (7) (-2) (-3) (1) rfl rfl rfl rfl (by decide) (by decide) (by decide) (by decide) W)
  have V3 := Lib.hid (fun (W : World) => divides_v (show Rt true 7 from Rt.smallN (by omega) (by omega)) (show Rt true 2 from Rt.smallN (by omega) (by omega)) (show Rt false 4 from Rt.small (by omega)) (show Rt false 1 from Rt.small (by omega)) (by decide) (by decide) (by decide) (-7) (-2) (4) (1) rfl rfl rfl rfl (by decide) (by decide) (by decide) (by decide) W)
  have P1 := Lib.hid (fun (W : World) (hW : Below w.heap.size w W) => parse_v (W := W) (s := [45, 49, 50]) (show Rt true 12 from Rt.smallN (by omega) (by omega)) san_12 (Nat.le_trans hB hW.size) (hT.below hW hB) (hS.below hW hB))
  have P2 := Lib.hid (fun (W : World) (hW : Below w.heap.size w W) => parse_0 (W := W) (s := [48, 48, 55]) san_007 (Nat.le_trans hB hW.size) (hT.below hW hB) (hS.below hW hB))
  have P3 := Lib.hid (fun (W : World) (hW : Below w.heap.size w W) => parse_0 (W := W) (s := [45, 48]) san_0 (Nat.le_trans hB hW.size) (hT.below hW hB) (hS.below hW hB))
  have I1 := Lib.hid (fun (W : World) (A : Option Addr) (n c : Nat) (h : Sl W W.heap.size A n c (digs 9223372036854775808)) => int_v (show Rt false 9223372036854775808 from Rt.small (by omega)) (o := none) (by decide) h)
  have I2 := Lib.hid (fun (W : World) (A : Option Addr) (n c : Nat) (h : Sl W W.heap.size A n c (digs 9223372036854775808)) => int_v (show Rt true 9223372036854775808 from Rt.smallN (by omega) (by omega)) (o := some (-9223372036854775808)) (by decide) h)
  have T1 := Lib.hid (fun (W : World) (hW : Below w.heap.size w W) (A : Option Addr) (n c : Nat) (h : Sl W W.heap.size A n c (digs 18446744073709551616)) => text_v (show Rt true 18446744073709551616 from Rt.smallN (by omega) (by omega)) san_big (Nat.le_trans hB hW.size) (hT.below hW hB) h)
  have hBB := Below.refl w.heap.size w
  clear hT hS
  have tk1 : Hid True := trivial
  have tk2 : Hid True := trivial
  have tk3 : Hid True := trivial
  have tk4 : Hid True := trivial
  have tk5 : Hid True := trivial
  have tk6 : Hid True := trivial
  have tk7 : Hid True := trivial
  have tk8 : Hid True := trivial
  have tk9 : Hid True := trivial
  have tk10 : Hid True := trivial
  have tk11 : Hid True := trivial
  have tk12 : Hid True := trivial
  have tk13 : Hid True := trivial
  have tk14 : Hid True := trivial
  have tk15 : Hid True := trivial
  have tk16 : Hid True := trivial
  have tk17 : Hid True := trivial
  have tk18 : Hid True := trivial
  have tk19 : Hid True := trivial
  have tk20 : Hid True := trivial
  have tk21 : Hid True := trivial
  have tk22 : Hid True := trivial
  have tk23 : Hid True := trivial
  have tk24 : Hid True := trivial
  have tk25 : Hid True := trivial
  have tk26 : Hid True := trivial
  have tk27 : Hid True := trivial
  have tk28 : Hid True := trivial
  have tk29 : Hid True := trivial
  have tk30 : Hid True := trivial
  have tk31 : Hid True := trivial
  have hs_big : Sl (w.alloc (.cells #[.int .u32 4294967295] 40)) (w.alloc (.cells #[.int .u32 4294967295] 40)).heap.size (some ⟨w.heap.size, 0, none⟩) 1 1 (digs 4294967295) := Sl.builtg (g := w.heap.size) (k := 1) (W := w) (show digs 4294967295 = [4294967295] from digs_eq rfl (by intro d hd; simp at hd; omega) (by decide)) rfl (by omega) (rfl)
  replace hBB := hBB.alloc hBB.size (.cells #[.int .u32 4294967295] 40)
  replace hs_big := hs_big.alloc_ (.cells #[.bool false, .slice (some ⟨w.heap.size, 0, none⟩) 1 1] 26)
  replace hBB := hBB.alloc hBB.size (.cells #[.bool false, .slice (some ⟨w.heap.size, 0, none⟩) 1 1] 26)
  go_enter Tryz.func5, Tryz.ntmps5
  go_wp2_with (first
    | (clear tk1; go_at_call 15; (with_reducible refine (M1.out _ _ _ _ _ _ _ hs_big hs_big).mono ?_); rintro e w1 ⟨A_a, n_a, c_a, rfl, hs_a, hb⟩; replace hs_big := hs_big.via hb; replace hBB := hBB.trans (hb.mono hBB.size); clear hb; clear hs_big; have nb_a := NB.newg (neg := false) (g := w1.heap.size) hs_a 26 (rfl); replace hs_a := hs_a.alloc_ (.cells #[.bool false, .slice A_a n_a c_a] 26); replace hBB := hBB.alloc hBB.size (.cells #[.bool false, .slice A_a n_a c_a] 26); clear hs_a)
    | (clear tk2; go_at_call 17; (with_reducible refine (O1.out _).mono ?_); rintro e w2 ⟨A_s2, n_s2, c_s2, rfl, hs_s2, hb⟩; replace nb_a := nb_a.via hb; replace hBB := hBB.trans (hb.mono hBB.size); clear hb)
    | (clear tk3; go_at_call 17; (with_reducible refine (O2.out _).mono ?_); rintro e w3 ⟨A_s3, n_s3, c_s3, rfl, hs_s3, hb⟩; replace hs_s2 := hs_s2.via hb; replace nb_a := nb_a.via hb; replace hBB := hBB.trans (hb.mono hBB.size); clear hb)
    | (clear tk4; go_at_call 16; (with_reducible refine (S1_.out _ _ _ _ _ _ _ hs_s2 hs_s3).mono ?_); rintro e w4 ⟨A_c, n_c, c_c, rfl, hs_c, hb⟩; replace hs_s2 := hs_s2.via hb; replace hs_s3 := hs_s3.via hb; replace nb_a := nb_a.via hb; replace hBB := hBB.trans (hb.mono hBB.size); clear hb; clear hs_s2; clear hs_s3; have nb_c := NB.newg (neg := false) (g := w4.heap.size) hs_c 26 (rfl); replace hs_c := hs_c.alloc_ (.cells #[.bool false, .slice A_c n_c c_c] 26); replace nb_a := nb_a.alloc_ (.cells #[.bool false, .slice A_c n_c c_c] 26); replace hBB := hBB.alloc hBB.size (.cells #[.bool false, .slice A_c n_c c_c] 26); clear hs_c)
    | (clear tk5; go_at_call 17; (with_reducible refine (O1.out _).mono ?_); rintro e w5 ⟨A_s5, n_s5, c_s5, rfl, hs_s5, hb⟩; replace nb_a := nb_a.via hb; replace nb_c := nb_c.via hb; replace hBB := hBB.trans (hb.mono hBB.size); clear hb; have hs_d1 : Sl (w5.alloc (.cells #[.int .u32 0, .int .u32 1] 40)) (w5.alloc (.cells #[.int .u32 0, .int .u32 1] 40)).heap.size (some ⟨w5.heap.size, 0, none⟩) 2 2 (digs 4294967296) := Sl.builtg (g := w5.heap.size) (k := 2) (W := w5) (show digs 4294967296 = [0, 1] from digs_eq rfl (by intro d hd; simp at hd; omega) (by decide)) rfl (by omega) (rfl); replace hs_s5 := hs_s5.alloc_ (.cells #[.int .u32 0, .int .u32 1] 40); replace nb_a := nb_a.alloc_ (.cells #[.int .u32 0, .int .u32 1] 40); replace nb_c := nb_c.alloc_ (.cells #[.int .u32 0, .int .u32 1] 40); replace hBB := hBB.alloc hBB.size (.cells #[.int .u32 0, .int .u32 1] 40))
    | (clear tk6; go_at_call 18; (with_reducible refine (K1.out _ _ _ _ _ _ _ hs_s5 hs_d1).mono ?_); rintro e w6 ⟨rfl, hb⟩; replace hs_s5 := hs_s5.via hb; replace hs_d1 := hs_d1.via hb; replace nb_a := nb_a.via hb; replace nb_c := nb_c.via hb; replace hBB := hBB.trans (hb.mono hBB.size); clear hb; clear hs_s5; clear hs_d1)
    | (clear tk7; go_at_call 17; (with_reducible refine (O3.out _).mono ?_); rintro e w7 ⟨A_s7, n_s7, c_s7, rfl, hs_s7, hb⟩; replace nb_a := nb_a.via hb; replace nb_c := nb_c.via hb; replace hBB := hBB.trans (hb.mono hBB.size); clear hb; have hs_d2 : Sl (w7.alloc (.cells #[.int .u32 1] 40)) (w7.alloc (.cells #[.int .u32 1] 40)).heap.size (some ⟨w7.heap.size, 0, none⟩) 1 1 (digs 1) := Sl.builtg (g := w7.heap.size) (k := 1) (W := w7) (show digs 1 = [1] from digs_eq rfl (by intro d hd; simp at hd; omega) (by decide)) rfl (by omega) (rfl); replace hs_s7 := hs_s7.alloc_ (.cells #[.int .u32 1] 40); replace nb_a := nb_a.alloc_ (.cells #[.int .u32 1] 40); replace nb_c := nb_c.alloc_ (.cells #[.int .u32 1] 40); replace hBB := hBB.alloc hBB.size (.cells #[.int .u32 1] 40))
    | (clear tk8; go_at_call 18; (with_reducible refine (K2.out _ _ _ _ _ _ _ hs_s7 hs_d2).mono ?_); rintro e w8 ⟨rfl, hb⟩; replace hs_s7 := hs_s7.via hb; replace hs_d2 := hs_d2.via hb; replace nb_a := nb_a.via hb; replace nb_c := nb_c.via hb; replace hBB := hBB.trans (hb.mono hBB.size); clear hb; clear hs_s7; clear hs_d2; obtain ⟨A_a, n_a, c_a, g0_a, g1_a, hs_a, gz_a⟩ := nb_a; have hs_d3 : Sl (w8.alloc (.cells #[.int .u32 1, .int .u32 4294967294] 40)) (w8.alloc (.cells #[.int .u32 1, .int .u32 4294967294] 40)).heap.size (some ⟨w8.heap.size, 0, none⟩) 2 2 (digs 18446744065119617025) := Sl.builtg (g := w8.heap.size) (k := 2) (W := w8) (show digs 18446744065119617025 = [1, 4294967294] from digs_eq rfl (by intro d hd; simp at hd; omega) (by decide)) rfl (by omega) (rfl); replace hs_a := hs_a.alloc_ (.cells #[.int .u32 1, .int .u32 4294967294] 40); replace nb_c := nb_c.alloc_ (.cells #[.int .u32 1, .int .u32 4294967294] 40); replace hBB := hBB.alloc hBB.size (.cells #[.int .u32 1, .int .u32 4294967294] 40))
    | (clear tk9; go_at_call 18; (with_reducible refine (K3.out _ _ _ _ _ _ _ hs_a hs_d3).mono ?_); rintro e w9 ⟨rfl, hb⟩; replace hs_a := hs_a.via hb; replace hs_d3 := hs_d3.via hb; replace nb_c := nb_c.via hb; replace hBB := hBB.trans (hb.mono hBB.size); clear hb; clear hs_a; clear hs_d3; obtain ⟨A_c, n_c, c_c, g0_c, g1_c, hs_c, gz_c⟩ := nb_c; have hs_d4 : Sl (w9.alloc (.cells #[.int .u32 4294967295] 40)) (w9.alloc (.cells #[.int .u32 4294967295] 40)).heap.size (some ⟨w9.heap.size, 0, none⟩) 1 1 (digs 4294967295) := Sl.builtg (g := w9.heap.size) (k := 1) (W := w9) (show digs 4294967295 = [4294967295] from digs_eq rfl (by intro d hd; simp at hd; omega) (by decide)) rfl (by omega) (rfl); replace hs_c := hs_c.alloc_ (.cells #[.int .u32 4294967295] 40); replace hBB := hBB.alloc hBB.size (.cells #[.int .u32 4294967295] 40))
    | (clear tk10; go_at_call 18; (with_reducible refine (K4.out _ _ _ _ _ _ _ hs_c hs_d4).mono ?_); rintro e w10 ⟨rfl, hb⟩; replace hs_c := hs_c.via hb; replace hs_d4 := hs_d4.via hb; replace hBB := hBB.trans (hb.mono hBB.size); clear hb; clear hs_c; clear hs_d4)
    | (clear tk11; go_at_call 17; (with_reducible refine (O4.out _).mono ?_); rintro e w11 ⟨A_s11, n_s11, c_s11, rfl, hs_s11, hb⟩; replace hBB := hBB.trans (hb.mono hBB.size); clear hb)
    | (clear tk12; go_at_call 17; (with_reducible refine (O5.out _).mono ?_); rintro e w12 ⟨A_s12, n_s12, c_s12, rfl, hs_s12, hb⟩; replace hs_s11 := hs_s11.via hb; replace hBB := hBB.trans (hb.mono hBB.size); clear hb)
    | (clear tk13; go_at_call 9; (with_reducible refine (D1.out _ _ _ _ _ _ _ hs_s11 hs_s12).mono ?_); rintro e w13 ⟨A_q, n_q, c_q, A_r, n_r, c_r, rfl, hs_q, hs_r, hb⟩; replace hs_s11 := hs_s11.via hb; replace hs_s12 := hs_s12.via hb; replace hBB := hBB.trans (hb.mono hBB.size); clear hb; clear hs_s11; clear hs_s12; skip; have nb_q := NB.newg (neg := false) (g := w13.heap.size) hs_q 26 (rfl); replace hs_q := hs_q.alloc_ (.cells #[.bool false, .slice A_q n_q c_q] 26); replace hs_r := hs_r.alloc_ (.cells #[.bool false, .slice A_q n_q c_q] 26); replace hBB := hBB.alloc hBB.size (.cells #[.bool false, .slice A_q n_q c_q] 26); have nb_r := NB.newg (neg := false) (g := w13.heap.size + 1) hs_r 26 (by simp only [World.size_alloc]); replace hs_q := hs_q.alloc_ (.cells #[.bool false, .slice A_r n_r c_r] 26); replace hs_r := hs_r.alloc_ (.cells #[.bool false, .slice A_r n_r c_r] 26); replace nb_q := nb_q.alloc_ (.cells #[.bool false, .slice A_r n_r c_r] 26); replace hBB := hBB.alloc hBB.size (.cells #[.bool false, .slice A_r n_r c_r] 26); clear hs_q hs_r nb_q nb_r)
    | (clear tk14; go_at_call 19; (with_reducible refine (V1.out _).mono ?_); rintro e w14 ⟨rfl, hb⟩; replace hBB := hBB.trans (hb.mono hBB.size); clear hb)
    | (clear tk15; go_at_call 19; (with_reducible refine (V2.out _).mono ?_); rintro e w15 ⟨rfl, hb⟩; replace hBB := hBB.trans (hb.mono hBB.size); clear hb)
    | (clear tk16; go_at_call 19; (with_reducible refine (V3.out _).mono ?_); rintro e w16 ⟨rfl, hb⟩; replace hBB := hBB.trans (hb.mono hBB.size); clear hb)
    | (clear tk17; go_at_call 17; (with_reducible refine (O6.out _).mono ?_); rintro e w17 ⟨A_s17, n_s17, c_s17, rfl, hs_s17, hb⟩; replace hBB := hBB.trans (hb.mono hBB.size); clear hb)
    | (clear tk18; go_at_call 17; (with_reducible refine (O7.out _).mono ?_); rintro e w18 ⟨A_s18, n_s18, c_s18, rfl, hs_s18, hb⟩; replace hs_s17 := hs_s17.via hb; replace hBB := hBB.trans (hb.mono hBB.size); clear hb)
    | (clear tk19; go_at_call 11; (with_reducible refine (G1.out _ _ _ _ _ _ _ hs_s17 hs_s18).mono ?_); rintro e w19 ⟨A_g, n_g, c_g, rfl, hs_g, hb⟩; replace hs_s17 := hs_s17.via hb; replace hs_s18 := hs_s18.via hb; replace hBB := hBB.trans (hb.mono hBB.size); clear hb; clear hs_s17; clear hs_s18; have nb_g := NB.newg (neg := false) (g := w19.heap.size) hs_g 26 (rfl); replace hs_g := hs_g.alloc_ (.cells #[.bool false, .slice A_g n_g c_g] 26); replace hBB := hBB.alloc hBB.size (.cells #[.bool false, .slice A_g n_g c_g] 26); clear hs_g)
    | (clear tk20; go_at_call 17; (with_reducible refine (O5.out _).mono ?_); rintro e w20 ⟨A_s20, n_s20, c_s20, rfl, hs_s20, hb⟩; replace nb_g := nb_g.via hb; replace hBB := hBB.trans (hb.mono hBB.size); clear hb)
    | (clear tk21; go_at_call 17; (with_reducible refine (O5.out _).mono ?_); rintro e w21 ⟨A_s21, n_s21, c_s21, rfl, hs_s21, hb⟩; replace hs_s20 := hs_s20.via hb; replace nb_g := nb_g.via hb; replace hBB := hBB.trans (hb.mono hBB.size); clear hb)
    | (clear tk22; go_at_call 11; (with_reducible refine (G2.out _ _ _ _ _ _ _ hs_s20 hs_s21).mono ?_); rintro e w22 ⟨A_h, n_h, c_h, rfl, hs_h, hb⟩; replace hs_s20 := hs_s20.via hb; replace hs_s21 := hs_s21.via hb; replace nb_g := nb_g.via hb; replace hBB := hBB.trans (hb.mono hBB.size); clear hb; clear hs_s20; clear hs_s21; have nb_h := NB.newg (neg := false) (g := w22.heap.size) hs_h 26 (rfl); replace hs_h := hs_h.alloc_ (.cells #[.bool false, .slice A_h n_h c_h] 26); replace nb_g := nb_g.alloc_ (.cells #[.bool false, .slice A_h n_h c_h] 26); replace hBB := hBB.alloc hBB.size (.cells #[.bool false, .slice A_h n_h c_h] 26); clear hs_h; obtain ⟨A_g, n_g, c_g, g0_g, g1_g, hs_g, gz_g⟩ := nb_g; have hs_d5 : Sl ((w22.alloc (.cells #[.bool false, .slice A_h n_h c_h] 26)).alloc (.cells #[.int .u32 6] 40)) ((w22.alloc (.cells #[.bool false, .slice A_h n_h c_h] 26)).alloc (.cells #[.int .u32 6] 40)).heap.size (some ⟨w22.heap.size + 1, 0, none⟩) 1 1 (digs 6) := Sl.builtg (g := w22.heap.size + 1) (k := 1) (W := (w22.alloc (.cells #[.bool false, .slice A_h n_h c_h] 26))) (show digs 6 = [6] from digs_eq rfl (by intro d hd; simp at hd; omega) (by decide)) rfl (by omega) (by simp only [World.size_alloc]); replace hs_g := hs_g.alloc_ (.cells #[.int .u32 6] 40); replace nb_h := nb_h.alloc_ (.cells #[.int .u32 6] 40); replace hBB := hBB.alloc hBB.size (.cells #[.int .u32 6] 40))
    | (clear tk23; go_at_call 18; (with_reducible refine (K5.out _ _ _ _ _ _ _ hs_g hs_d5).mono ?_); rintro e w23 ⟨rfl, hb⟩; replace hs_g := hs_g.via hb; replace hs_d5 := hs_d5.via hb; replace nb_h := nb_h.via hb; replace hBB := hBB.trans (hb.mono hBB.size); clear hb; clear hs_g; clear hs_d5; obtain ⟨A_h, n_h, c_h, g0_h, g1_h, hs_h, gz_h⟩ := nb_h)
    | (clear tk24; go_at_call 18; (with_reducible refine (K6.out _ _ _ _ _ _ _ hs_h (by rw [digs_zero]; exact Sl.none_)).mono ?_); rintro e w24 ⟨rfl, hb⟩; replace hs_h := hs_h.via hb; replace hBB := hBB.trans (hb.mono hBB.size); clear hb; clear hs_h)
    | (clear tk25; go_at_call 20; (with_reducible refine (P1.out _ hBB).mono ?_); rintro e w25 ⟨A_tw, n_tw, c_tw, rfl, hs_tw, hb⟩; replace hBB := hBB.trans (hb.mono hBB.size); clear hb; have nb_tw := NB.newg (neg := true) (g := w25.heap.size) hs_tw 26 (rfl); replace hs_tw := hs_tw.alloc_ (.cells #[.bool true, .slice A_tw n_tw c_tw] 26); replace hBB := hBB.alloc hBB.size (.cells #[.bool true, .slice A_tw n_tw c_tw] 26); clear hs_tw)
    | (clear tk26; go_at_call 20; (with_reducible refine (P2.out _ hBB).mono ?_); rintro e w26 ⟨A_z, n_z, c_z, rfl, hs_z, hb⟩; replace nb_tw := nb_tw.via hb; replace hBB := hBB.trans (hb.mono hBB.size); clear hb; have nb_z := NB.newg (neg := false) (g := w26.heap.size) hs_z 26 (rfl); replace hs_z := hs_z.alloc_ (.cells #[.bool false, .slice A_z n_z c_z] 26); replace nb_tw := nb_tw.alloc_ (.cells #[.bool false, .slice A_z n_z c_z] 26); replace hBB := hBB.alloc hBB.size (.cells #[.bool false, .slice A_z n_z c_z] 26); clear hs_z nb_z)
    | (clear tk27; go_at_call 20; (with_reducible refine (P3.out _ hBB).mono ?_); rintro e w27 ⟨A_y, n_y, c_y, rfl, hs_y, hb⟩; replace nb_tw := nb_tw.via hb; replace hBB := hBB.trans (hb.mono hBB.size); clear hb; have nb_y := NB.newg (neg := false) (g := w27.heap.size) hs_y 26 (rfl); replace hs_y := hs_y.alloc_ (.cells #[.bool false, .slice A_y n_y c_y] 26); replace nb_tw := nb_tw.alloc_ (.cells #[.bool false, .slice A_y n_y c_y] 26); replace hBB := hBB.alloc hBB.size (.cells #[.bool false, .slice A_y n_y c_y] 26); clear hs_y nb_y; have hs_d6 : Sl ((w27.alloc (.cells #[.bool false, .slice A_y n_y c_y] 26)).alloc (.cells #[.int .u32 0, .int .u32 2147483648] 40)) ((w27.alloc (.cells #[.bool false, .slice A_y n_y c_y] 26)).alloc (.cells #[.int .u32 0, .int .u32 2147483648] 40)).heap.size (some ⟨w27.heap.size + 1, 0, none⟩) 2 2 (digs 9223372036854775808) := Sl.builtg (g := w27.heap.size + 1) (k := 2) (W := (w27.alloc (.cells #[.bool false, .slice A_y n_y c_y] 26))) (show digs 9223372036854775808 = [0, 2147483648] from digs_eq rfl (by intro d hd; simp at hd; omega) (by decide)) rfl (by omega) (by simp only [World.size_alloc]); replace nb_tw := nb_tw.alloc_ (.cells #[.int .u32 0, .int .u32 2147483648] 40); replace hBB := hBB.alloc hBB.size (.cells #[.int .u32 0, .int .u32 2147483648] 40))
    | (clear tk28; go_at_call 21; (with_reducible refine (I1.out _ _ _ _ hs_d6).mono ?_); rintro e w28 hr; obtain ⟨rfl, hb⟩ := retI_none hr; replace hs_d6 := hs_d6.via hb; replace nb_tw := nb_tw.via hb; replace hBB := hBB.trans (hb.mono hBB.size); clear hb; clear hs_d6; have hs_d7 : Sl (w28.alloc (.cells #[.int .u32 0, .int .u32 2147483648] 40)) (w28.alloc (.cells #[.int .u32 0, .int .u32 2147483648] 40)).heap.size (some ⟨w28.heap.size, 0, none⟩) 2 2 (digs 9223372036854775808) := Sl.builtg (g := w28.heap.size) (k := 2) (W := w28) (show digs 9223372036854775808 = [0, 2147483648] from digs_eq rfl (by intro d hd; simp at hd; omega) (by decide)) rfl (by omega) (rfl); replace nb_tw := nb_tw.alloc_ (.cells #[.int .u32 0, .int .u32 2147483648] 40); replace hBB := hBB.alloc hBB.size (.cells #[.int .u32 0, .int .u32 2147483648] 40))
    | (clear tk29; go_at_call 21; (with_reducible refine (I2.out _ _ _ _ hs_d7).mono ?_); rintro e w29 hr; obtain ⟨rfl, hb⟩ := retI_some hr; replace hs_d7 := hs_d7.via hb; replace nb_tw := nb_tw.via hb; replace hBB := hBB.trans (hb.mono hBB.size); clear hb; clear hs_d7; obtain ⟨A_tw, n_tw, c_tw, g0_tw, g1_tw, hs_tw, gz_tw⟩ := nb_tw; have hs_d8 : Sl (w29.alloc (.cells #[.int .u32 12] 40)) (w29.alloc (.cells #[.int .u32 12] 40)).heap.size (some ⟨w29.heap.size, 0, none⟩) 1 1 (digs 12) := Sl.builtg (g := w29.heap.size) (k := 1) (W := w29) (show digs 12 = [12] from digs_eq rfl (by intro d hd; simp at hd; omega) (by decide)) rfl (by omega) (rfl); replace hs_tw := hs_tw.alloc_ (.cells #[.int .u32 12] 40); replace hBB := hBB.alloc hBB.size (.cells #[.int .u32 12] 40))
    | (clear tk30; go_at_call 18; (with_reducible refine (K7.out _ _ _ _ _ _ _ hs_tw hs_d8).mono ?_); rintro e w30 ⟨rfl, hb⟩; replace hs_tw := hs_tw.via hb; replace hs_d8 := hs_d8.via hb; replace hBB := hBB.trans (hb.mono hBB.size); clear hb; clear hs_tw; clear hs_d8; have hs_d9 : Sl (w30.alloc (.cells #[.int .u32 0, .int .u32 0, .int .u32 1] 40)) (w30.alloc (.cells #[.int .u32 0, .int .u32 0, .int .u32 1] 40)).heap.size (some ⟨w30.heap.size, 0, none⟩) 3 3 (digs 18446744073709551616) := Sl.builtg (g := w30.heap.size) (k := 3) (W := w30) (show digs 18446744073709551616 = [0, 0, 1] from digs_eq rfl (by intro d hd; simp at hd; omega) (by decide)) rfl (by omega) (rfl); replace hBB := hBB.alloc hBB.size (.cells #[.int .u32 0, .int .u32 0, .int .u32 1] 40))
    | (clear tk31; go_at_call 22; (with_reducible refine (T1.out _ hBB _ _ _ hs_d9).mono ?_); rintro e w31 ⟨rfl, hb⟩; replace hs_d9 := hs_d9.via hb; replace hBB := hBB.trans (hb.mono hBB.size); clear hb; clear hs_d9)
    | fail "no arm")
  go_ret
  exact ⟨rfl, hBB⟩
end Go.Proofs.YthnickjbknpmhaaGreatDoor
