/-
  The walk of NumInts: it returns true.
-/
import Derived.Test.YthnickjbknpmhaaDoorNumSan
namespace Go.Proofs.YthnickjbknpmhaaDoor
open Go.RowKit Go.Shelf

theorem rt_of (x : Int) (h : x.natAbs ≤ 18446744073709551616) : ∃ g v, Rt g v ∧ x = sgn g v :=
  ⟨decide (x < 0), x.natAbs, Rt.of x (Rt.small h).2, (sgn_dec x).symm⟩
theorem fit64_of {x : Int} (h0 : -9223372036854775808 ≤ x) (h1 : x < 9223372036854775808) : fit64 x = some x := by unfold fit64; rw [if_pos ⟨h0, h1⟩]
theorem tmod_small (x : Int) : -2147483647 ≤ x.tmod 2147483648 ∧ x.tmod 2147483648 ≤ 2147483647 := by
  rcases Int.lt_or_le x 0 with h | h
  · have e : x.tmod 2147483648 = -((-x) % 2147483648) := by
      have h1 := Int.neg_tmod (-x) 2147483648
      rw [Int.neg_neg] at h1
      rw [h1, Int.tmod_eq_emod_of_nonneg (by omega)]
    omega
  · rw [Int.tmod_eq_emod_of_nonneg h]; omega
theorem mul_bound {a b : Int} (ha : -2147483647 ≤ a ∧ a ≤ 2147483647) (hb : -2147483647 ≤ b ∧ b ≤ 2147483647) : (a * b).natAbs ≤ 4611686018427387904 := by
  rw [Int.natAbs_mul]
  have h1 : a.natAbs ≤ 2147483648 := by omega
  have h2 : b.natAbs ≤ 2147483648 := by omega
  exact Nat.le_trans (Nat.mul_le_mul h1 h2) (by decide)

set_option maxRecDepth 100000 in
set_option maxHeartbeats 8000000 in
theorem numInts_walk (n m : Int) (n0 : -9223372036854775808 ≤ n) (n1 : n < 9223372036854775808) (m0 : -9223372036854775808 ≤ m) (m1 : m < 9223372036854775808) (w : World) {B : Nat} (hB : B ≤ w.heap.size) (hT : PowT B w) (hS : SynT B w) :
    Calls Tryd.prog 4 #[.int .i64 n, .int .i64 m] w fun e w' => e = .returned (.bool true) ∧ Below w.heap.size w w' := by
  have SA := Lib.hid (sanity_any w hB hT hS)
  obtain ⟨a, ha⟩ : ∃ a, n.tmod 2147483648 = a := ⟨_, rfl⟩
  obtain ⟨b, hb⟩ : ∃ b, m.tmod 2147483648 = b := ⟨_, rfl⟩
  have ba := tmod_small n
  have bb := tmod_small m
  rw [ha] at ba
  rw [hb] at bb
  obtain ⟨ba0, ba1⟩ := ba
  obtain ⟨bb0, bb1⟩ := bb
  have bp := mul_bound ⟨ba0, ba1⟩ ⟨bb0, bb1⟩
  have bp0 : -4611686018427387904 ≤ a * b := by omega
  have bp1 : a * b ≤ 4611686018427387904 := by omega
  obtain ⟨gn, vn, rn, en⟩ := rt_of n (by omega)
  obtain ⟨gm, vm, rm, em⟩ := rt_of m (by omega)
  obtain ⟨ga, va, ra, ea⟩ := rt_of a (by omega)
  obtain ⟨gb, vb, rb, eb⟩ := rt_of b (by omega)
  obtain ⟨gs, vs, rs, es⟩ := rt_of (a + b) (by omega)
  obtain ⟨gd, vd, rd, ed⟩ := rt_of (a - b) (by omega)
  obtain ⟨gp, vp, rp, ep⟩ := rt_of (a * b) (by omega)
  have On := Lib.hid (fun (W : World) => of_v (W := W) rn en n0 n1)
  have Om := Lib.hid (fun (W : World) => of_v (W := W) rm em m0 m1)
  have Oa := Lib.hid (fun (W : World) => of_v (W := W) ra ea (by omega) (by omega))
  have Ob := Lib.hid (fun (W : World) => of_v (W := W) rb eb (by omega) (by omega))
  have In := Lib.hid (fun (W : World) (A : Option Addr) (k c : Nat) (h : Sl W W.heap.size A k c (digs vn)) => int_v rn (o := some n) (by rw [← en]; exact fit64_of n0 n1) h)
  have Is := Lib.hid (fun (W : World) (A : Option Addr) (n c : Nat) (h : Sl W W.heap.size A n c (digs vs)) => int_v rs (o := some (a + b)) (by rw [← es]; exact fit64_of (by omega) (by omega)) h)
  have Id := Lib.hid (fun (W : World) (A : Option Addr) (n c : Nat) (h : Sl W W.heap.size A n c (digs vd)) => int_v rd (o := some (a - b)) (by rw [← ed]; exact fit64_of (by omega) (by omega)) h)
  have Ip := Lib.hid (fun (W : World) (A : Option Addr) (n c : Nat) (h : Sl W W.heap.size A n c (digs vp)) => int_v rp (o := some (a * b)) (by rw [← ep]; exact fit64_of (by omega) (by omega)) h)
  have AD := Lib.hid (fun (W : World) (A A2 : Option Addr) (n c n2 c2 : Nat) (h : Sl W W.heap.size A n c (digs va)) (h2 : Sl W W.heap.size A2 n2 c2 (digs vb)) => add_v ra rb rs (by rw [← ea, ← eb]; exact es) h h2)
  have SU := Lib.hid (fun (W : World) (A A2 : Option Addr) (n c n2 c2 : Nat) (h : Sl W W.heap.size A n c (digs va)) (h2 : Sl W W.heap.size A2 n2 c2 (digs vb)) => sub_v ra rb rd (by rw [← ea, ← eb]; exact ed) h h2)
  have MU := Lib.hid (fun (W : World) (A A2 : Option Addr) (n c n2 c2 : Nat) (h : Sl W W.heap.size A n c (digs va)) (h2 : Sl W W.heap.size A2 n2 c2 (digs vb)) => mul_v ra rb rp (by rw [← ea, ← eb]; exact ep) h h2)
  have CM := Lib.hid (fun (W : World) (A A2 : Option Addr) (k c n2 c2 : Nat) (h : Sl W W.heap.size A k c (digs vn)) (h2 : Sl W W.heap.size A2 n2 c2 (digs vm)) => cmp_v rn rm (o := cmpI n m) (by rw [← en, ← em]) h h2)
  have RI := Lib.hid (fun (W : World) (A : Option Addr) (k c : Nat) (h : Sl W W.heap.size A k c (digs vn)) => right_v rn h)
  have hBB := Below.refl w.heap.size w
  clear hT hS en em ea eb es ed ep rn rm ra rb rs rd rp bp
  rcases Int.lt_trichotomy n m with hc | hc | hc
  · rw [show cmpI n m = -1 by unfold cmpI; rw [if_pos hc]] at CM
    have tk1 : Hid True := trivial
    have tk2 : Hid True := trivial
    have tk3 : Hid True := trivial
    have tk4 : Hid True := trivial
    have tk5 : Hid True := trivial
    have tk6 : Hid True := trivial
    have tk7 : Hid True := trivial
    have tk8 : Hid True := trivial
    have tk9 : Hid True := trivial
    have tk10 : Hid True := trivial
    have tk11 : Hid True := trivial
    have tk12 : Hid True := trivial
    have tk13 : Hid True := trivial
    have tk14 : Hid True := trivial
    have tk15 : Hid True := trivial
    have tk16 : Hid True := trivial
    have tk17 : Hid True := trivial
    have tk18 : Hid True := trivial
    have tk19 : Hid True := trivial
    have tk20 : Hid True := trivial
    go_enter Tryd.func4, Tryd.ntmps4
    go_wp2_with (first
      | (clear tk1; go_at_call 8; (with_reducible refine (SA.out).mono ?_); rintro e w1 ⟨rfl, hb⟩; replace hBB := hBB.trans (hb.mono hBB.size); clear hb)
      | (clear tk2; go_at_call 17; (with_reducible refine (On.out _).mono ?_); rintro e w2 ⟨A_n1, n_n1, c_n1, rfl, hs_n1, hb⟩; replace hBB := hBB.trans (hb.mono hBB.size); clear hb)
      | (clear tk3; go_at_call 16; (with_reducible refine (In.out _ _ _ _ hs_n1).mono ?_); rintro e w3 hr; obtain ⟨rfl, hb⟩ := retI_some hr; replace hs_n1 := hs_n1.via hb; replace hBB := hBB.trans (hb.mono hBB.size); clear hb; clear hs_n1)
      | (clear tk4; go_at_call 17; (with_reducible refine (Oa.out _).mono ?_); rintro e w4 ⟨A_a, n_a, c_a, rfl, hs_a, hb⟩; replace hBB := hBB.trans (hb.mono hBB.size); clear hb)
      | (clear tk5; go_at_call 17; (with_reducible refine (Ob.out _).mono ?_); rintro e w5 ⟨A_b, n_b, c_b, rfl, hs_b, hb⟩; replace hs_a := hs_a.via hb; replace hBB := hBB.trans (hb.mono hBB.size); clear hb)
      | (clear tk6; go_at_call 18; (with_reducible refine (AD.out _ _ _ _ _ _ _ hs_a hs_b).mono ?_); rintro e w6 ⟨A_s, n_s, c_s, rfl, hs_s, hb⟩; replace hs_a := hs_a.via hb; replace hs_b := hs_b.via hb; replace hBB := hBB.trans (hb.mono hBB.size); clear hb; clear hs_a; clear hs_b; have nb_s := NB.newg (neg := gs) (g := w6.heap.size) hs_s 25 (rfl); replace hs_s := hs_s.alloc_ (.cells #[.bool gs, .slice A_s n_s c_s] 25); replace hBB := hBB.alloc hBB.size (.cells #[.bool gs, .slice A_s n_s c_s] 25); clear hs_s)
      | (clear tk7; go_at_call 17; (with_reducible refine (Oa.out _).mono ?_); rintro e w7 ⟨A_a, n_a, c_a, rfl, hs_a, hb⟩; replace nb_s := nb_s.via hb; replace hBB := hBB.trans (hb.mono hBB.size); clear hb)
      | (clear tk8; go_at_call 17; (with_reducible refine (Ob.out _).mono ?_); rintro e w8 ⟨A_b, n_b, c_b, rfl, hs_b, hb⟩; replace hs_a := hs_a.via hb; replace nb_s := nb_s.via hb; replace hBB := hBB.trans (hb.mono hBB.size); clear hb)
      | (clear tk9; go_at_call 19; (with_reducible refine (SU.out _ _ _ _ _ _ _ hs_a hs_b).mono ?_); rintro e w9 ⟨A_d, n_d, c_d, rfl, hs_d, hb⟩; replace hs_a := hs_a.via hb; replace hs_b := hs_b.via hb; replace nb_s := nb_s.via hb; replace hBB := hBB.trans (hb.mono hBB.size); clear hb; clear hs_a; clear hs_b; have nb_d := NB.newg (neg := gd) (g := w9.heap.size) hs_d 25 (rfl); replace hs_d := hs_d.alloc_ (.cells #[.bool gd, .slice A_d n_d c_d] 25); replace nb_s := nb_s.alloc_ (.cells #[.bool gd, .slice A_d n_d c_d] 25); replace hBB := hBB.alloc hBB.size (.cells #[.bool gd, .slice A_d n_d c_d] 25); clear hs_d)
      | (clear tk10; go_at_call 17; (with_reducible refine (Oa.out _).mono ?_); rintro e w10 ⟨A_a, n_a, c_a, rfl, hs_a, hb⟩; replace nb_s := nb_s.via hb; replace nb_d := nb_d.via hb; replace hBB := hBB.trans (hb.mono hBB.size); clear hb)
      | (clear tk11; go_at_call 17; (with_reducible refine (Ob.out _).mono ?_); rintro e w11 ⟨A_b, n_b, c_b, rfl, hs_b, hb⟩; replace hs_a := hs_a.via hb; replace nb_s := nb_s.via hb; replace nb_d := nb_d.via hb; replace hBB := hBB.trans (hb.mono hBB.size); clear hb)
      | (clear tk12; go_at_call 20; (with_reducible refine (MU.out _ _ _ _ _ _ _ hs_a hs_b).mono ?_); rintro e w12 ⟨A_p, n_p, c_p, rfl, hs_p, hb⟩; replace hs_a := hs_a.via hb; replace hs_b := hs_b.via hb; replace nb_s := nb_s.via hb; replace nb_d := nb_d.via hb; replace hBB := hBB.trans (hb.mono hBB.size); clear hb; clear hs_a; clear hs_b; have nb_p := NB.newg (neg := gp) (g := w12.heap.size) hs_p 25 (rfl); replace hs_p := hs_p.alloc_ (.cells #[.bool gp, .slice A_p n_p c_p] 25); replace nb_s := nb_s.alloc_ (.cells #[.bool gp, .slice A_p n_p c_p] 25); replace nb_d := nb_d.alloc_ (.cells #[.bool gp, .slice A_p n_p c_p] 25); replace hBB := hBB.alloc hBB.size (.cells #[.bool gp, .slice A_p n_p c_p] 25); clear hs_p; obtain ⟨A_s, n_s, c_s, g0_s, g1_s, hs_s, gz_s⟩ := nb_s)
      | (clear tk13; go_at_call 16; (with_reducible refine (Is.out _ _ _ _ hs_s).mono ?_); rintro e w13 hr; obtain ⟨rfl, hb⟩ := retI_some hr; replace hs_s := hs_s.via hb; replace nb_d := nb_d.via hb; replace nb_p := nb_p.via hb; replace hBB := hBB.trans (hb.mono hBB.size); clear hb; clear hs_s; obtain ⟨A_d, n_d, c_d, g0_d, g1_d, hs_d, gz_d⟩ := nb_d)
      | (clear tk14; go_at_call 16; (with_reducible refine (Id.out _ _ _ _ hs_d).mono ?_); rintro e w14 hr; obtain ⟨rfl, hb⟩ := retI_some hr; replace hs_d := hs_d.via hb; replace nb_p := nb_p.via hb; replace hBB := hBB.trans (hb.mono hBB.size); clear hb; clear hs_d; obtain ⟨A_p, n_p, c_p, g0_p, g1_p, hs_p, gz_p⟩ := nb_p)
      | (clear tk15; go_at_call 16; (with_reducible refine (Ip.out _ _ _ _ hs_p).mono ?_); rintro e w15 hr; obtain ⟨rfl, hb⟩ := retI_some hr; replace hs_p := hs_p.via hb; replace hBB := hBB.trans (hb.mono hBB.size); clear hb; clear hs_p)
      | (clear tk16; go_at_call 17; (with_reducible refine (On.out _).mono ?_); rintro e w16 ⟨A_n2, n_n2, c_n2, rfl, hs_n2, hb⟩; replace hBB := hBB.trans (hb.mono hBB.size); clear hb)
      | (clear tk17; go_at_call 17; (with_reducible refine (Om.out _).mono ?_); rintro e w17 ⟨A_m2, n_m2, c_m2, rfl, hs_m2, hb⟩; replace hs_n2 := hs_n2.via hb; replace hBB := hBB.trans (hb.mono hBB.size); clear hb)
      | (clear tk18; go_at_call 21; (with_reducible refine (CM.out _ _ _ _ _ _ _ hs_n2 hs_m2).mono ?_); rintro e w18 ⟨rfl, hb⟩; replace hs_n2 := hs_n2.via hb; replace hs_m2 := hs_m2.via hb; replace hBB := hBB.trans (hb.mono hBB.size); clear hb; clear hs_n2; clear hs_m2)
      | (clear tk19; go_at_call 17; (with_reducible refine (On.out _).mono ?_); rintro e w19 ⟨A_n3, n_n3, c_n3, rfl, hs_n3, hb⟩; replace hBB := hBB.trans (hb.mono hBB.size); clear hb)
      | (clear tk20; go_at_call 22; (with_reducible refine (RI.out _ _ _ _ hs_n3).mono ?_); rintro e w20 ⟨rfl, hb⟩; replace hs_n3 := hs_n3.via hb; replace hBB := hBB.trans (hb.mono hBB.size); clear hb; clear hs_n3)
      | fail "no arm")
    go_ret
    exact ⟨rfl, hBB⟩
  · have hc1 : ¬ n < m := by omega
    have hc2 : ¬ m < n := by omega
    rw [show cmpI n m = 0 by unfold cmpI; rw [if_neg hc1, if_neg hc2]] at CM
    clear hc
    have tk1 : Hid True := trivial
    have tk2 : Hid True := trivial
    have tk3 : Hid True := trivial
    have tk4 : Hid True := trivial
    have tk5 : Hid True := trivial
    have tk6 : Hid True := trivial
    have tk7 : Hid True := trivial
    have tk8 : Hid True := trivial
    have tk9 : Hid True := trivial
    have tk10 : Hid True := trivial
    have tk11 : Hid True := trivial
    have tk12 : Hid True := trivial
    have tk13 : Hid True := trivial
    have tk14 : Hid True := trivial
    have tk15 : Hid True := trivial
    have tk16 : Hid True := trivial
    have tk17 : Hid True := trivial
    have tk18 : Hid True := trivial
    have tk19 : Hid True := trivial
    have tk20 : Hid True := trivial
    go_enter Tryd.func4, Tryd.ntmps4
    go_wp2_with (first
      | (clear tk1; go_at_call 8; (with_reducible refine (SA.out).mono ?_); rintro e w1 ⟨rfl, hb⟩; replace hBB := hBB.trans (hb.mono hBB.size); clear hb)
      | (clear tk2; go_at_call 17; (with_reducible refine (On.out _).mono ?_); rintro e w2 ⟨A_n1, n_n1, c_n1, rfl, hs_n1, hb⟩; replace hBB := hBB.trans (hb.mono hBB.size); clear hb)
      | (clear tk3; go_at_call 16; (with_reducible refine (In.out _ _ _ _ hs_n1).mono ?_); rintro e w3 hr; obtain ⟨rfl, hb⟩ := retI_some hr; replace hs_n1 := hs_n1.via hb; replace hBB := hBB.trans (hb.mono hBB.size); clear hb; clear hs_n1)
      | (clear tk4; go_at_call 17; (with_reducible refine (Oa.out _).mono ?_); rintro e w4 ⟨A_a, n_a, c_a, rfl, hs_a, hb⟩; replace hBB := hBB.trans (hb.mono hBB.size); clear hb)
      | (clear tk5; go_at_call 17; (with_reducible refine (Ob.out _).mono ?_); rintro e w5 ⟨A_b, n_b, c_b, rfl, hs_b, hb⟩; replace hs_a := hs_a.via hb; replace hBB := hBB.trans (hb.mono hBB.size); clear hb)
      | (clear tk6; go_at_call 18; (with_reducible refine (AD.out _ _ _ _ _ _ _ hs_a hs_b).mono ?_); rintro e w6 ⟨A_s, n_s, c_s, rfl, hs_s, hb⟩; replace hs_a := hs_a.via hb; replace hs_b := hs_b.via hb; replace hBB := hBB.trans (hb.mono hBB.size); clear hb; clear hs_a; clear hs_b; have nb_s := NB.newg (neg := gs) (g := w6.heap.size) hs_s 25 (rfl); replace hs_s := hs_s.alloc_ (.cells #[.bool gs, .slice A_s n_s c_s] 25); replace hBB := hBB.alloc hBB.size (.cells #[.bool gs, .slice A_s n_s c_s] 25); clear hs_s)
      | (clear tk7; go_at_call 17; (with_reducible refine (Oa.out _).mono ?_); rintro e w7 ⟨A_a, n_a, c_a, rfl, hs_a, hb⟩; replace nb_s := nb_s.via hb; replace hBB := hBB.trans (hb.mono hBB.size); clear hb)
      | (clear tk8; go_at_call 17; (with_reducible refine (Ob.out _).mono ?_); rintro e w8 ⟨A_b, n_b, c_b, rfl, hs_b, hb⟩; replace hs_a := hs_a.via hb; replace nb_s := nb_s.via hb; replace hBB := hBB.trans (hb.mono hBB.size); clear hb)
      | (clear tk9; go_at_call 19; (with_reducible refine (SU.out _ _ _ _ _ _ _ hs_a hs_b).mono ?_); rintro e w9 ⟨A_d, n_d, c_d, rfl, hs_d, hb⟩; replace hs_a := hs_a.via hb; replace hs_b := hs_b.via hb; replace nb_s := nb_s.via hb; replace hBB := hBB.trans (hb.mono hBB.size); clear hb; clear hs_a; clear hs_b; have nb_d := NB.newg (neg := gd) (g := w9.heap.size) hs_d 25 (rfl); replace hs_d := hs_d.alloc_ (.cells #[.bool gd, .slice A_d n_d c_d] 25); replace nb_s := nb_s.alloc_ (.cells #[.bool gd, .slice A_d n_d c_d] 25); replace hBB := hBB.alloc hBB.size (.cells #[.bool gd, .slice A_d n_d c_d] 25); clear hs_d)
      | (clear tk10; go_at_call 17; (with_reducible refine (Oa.out _).mono ?_); rintro e w10 ⟨A_a, n_a, c_a, rfl, hs_a, hb⟩; replace nb_s := nb_s.via hb; replace nb_d := nb_d.via hb; replace hBB := hBB.trans (hb.mono hBB.size); clear hb)
      | (clear tk11; go_at_call 17; (with_reducible refine (Ob.out _).mono ?_); rintro e w11 ⟨A_b, n_b, c_b, rfl, hs_b, hb⟩; replace hs_a := hs_a.via hb; replace nb_s := nb_s.via hb; replace nb_d := nb_d.via hb; replace hBB := hBB.trans (hb.mono hBB.size); clear hb)
      | (clear tk12; go_at_call 20; (with_reducible refine (MU.out _ _ _ _ _ _ _ hs_a hs_b).mono ?_); rintro e w12 ⟨A_p, n_p, c_p, rfl, hs_p, hb⟩; replace hs_a := hs_a.via hb; replace hs_b := hs_b.via hb; replace nb_s := nb_s.via hb; replace nb_d := nb_d.via hb; replace hBB := hBB.trans (hb.mono hBB.size); clear hb; clear hs_a; clear hs_b; have nb_p := NB.newg (neg := gp) (g := w12.heap.size) hs_p 25 (rfl); replace hs_p := hs_p.alloc_ (.cells #[.bool gp, .slice A_p n_p c_p] 25); replace nb_s := nb_s.alloc_ (.cells #[.bool gp, .slice A_p n_p c_p] 25); replace nb_d := nb_d.alloc_ (.cells #[.bool gp, .slice A_p n_p c_p] 25); replace hBB := hBB.alloc hBB.size (.cells #[.bool gp, .slice A_p n_p c_p] 25); clear hs_p; obtain ⟨A_s, n_s, c_s, g0_s, g1_s, hs_s, gz_s⟩ := nb_s)
      | (clear tk13; go_at_call 16; (with_reducible refine (Is.out _ _ _ _ hs_s).mono ?_); rintro e w13 hr; obtain ⟨rfl, hb⟩ := retI_some hr; replace hs_s := hs_s.via hb; replace nb_d := nb_d.via hb; replace nb_p := nb_p.via hb; replace hBB := hBB.trans (hb.mono hBB.size); clear hb; clear hs_s; obtain ⟨A_d, n_d, c_d, g0_d, g1_d, hs_d, gz_d⟩ := nb_d)
      | (clear tk14; go_at_call 16; (with_reducible refine (Id.out _ _ _ _ hs_d).mono ?_); rintro e w14 hr; obtain ⟨rfl, hb⟩ := retI_some hr; replace hs_d := hs_d.via hb; replace nb_p := nb_p.via hb; replace hBB := hBB.trans (hb.mono hBB.size); clear hb; clear hs_d; obtain ⟨A_p, n_p, c_p, g0_p, g1_p, hs_p, gz_p⟩ := nb_p)
      | (clear tk15; go_at_call 16; (with_reducible refine (Ip.out _ _ _ _ hs_p).mono ?_); rintro e w15 hr; obtain ⟨rfl, hb⟩ := retI_some hr; replace hs_p := hs_p.via hb; replace hBB := hBB.trans (hb.mono hBB.size); clear hb; clear hs_p)
      | (clear tk16; go_at_call 17; (with_reducible refine (On.out _).mono ?_); rintro e w16 ⟨A_n2, n_n2, c_n2, rfl, hs_n2, hb⟩; replace hBB := hBB.trans (hb.mono hBB.size); clear hb)
      | (clear tk17; go_at_call 17; (with_reducible refine (Om.out _).mono ?_); rintro e w17 ⟨A_m2, n_m2, c_m2, rfl, hs_m2, hb⟩; replace hs_n2 := hs_n2.via hb; replace hBB := hBB.trans (hb.mono hBB.size); clear hb)
      | (clear tk18; go_at_call 21; (with_reducible refine (CM.out _ _ _ _ _ _ _ hs_n2 hs_m2).mono ?_); rintro e w18 ⟨rfl, hb⟩; replace hs_n2 := hs_n2.via hb; replace hs_m2 := hs_m2.via hb; replace hBB := hBB.trans (hb.mono hBB.size); clear hb; clear hs_n2; clear hs_m2)
      | (clear tk19; go_at_call 17; (with_reducible refine (On.out _).mono ?_); rintro e w19 ⟨A_n3, n_n3, c_n3, rfl, hs_n3, hb⟩; replace hBB := hBB.trans (hb.mono hBB.size); clear hb)
      | (clear tk20; go_at_call 22; (with_reducible refine (RI.out _ _ _ _ hs_n3).mono ?_); rintro e w20 ⟨rfl, hb⟩; replace hs_n3 := hs_n3.via hb; replace hBB := hBB.trans (hb.mono hBB.size); clear hb; clear hs_n3)
      | fail "no arm")
    go_ret
    exact ⟨rfl, hBB⟩
  · have hc1 : ¬ n < m := by omega
    rw [show cmpI n m = 1 by unfold cmpI; rw [if_neg hc1, if_pos hc]] at CM
    have tk1 : Hid True := trivial
    have tk2 : Hid True := trivial
    have tk3 : Hid True := trivial
    have tk4 : Hid True := trivial
    have tk5 : Hid True := trivial
    have tk6 : Hid True := trivial
    have tk7 : Hid True := trivial
    have tk8 : Hid True := trivial
    have tk9 : Hid True := trivial
    have tk10 : Hid True := trivial
    have tk11 : Hid True := trivial
    have tk12 : Hid True := trivial
    have tk13 : Hid True := trivial
    have tk14 : Hid True := trivial
    have tk15 : Hid True := trivial
    have tk16 : Hid True := trivial
    have tk17 : Hid True := trivial
    have tk18 : Hid True := trivial
    have tk19 : Hid True := trivial
    have tk20 : Hid True := trivial
    go_enter Tryd.func4, Tryd.ntmps4
    go_wp2_with (first
      | (clear tk1; go_at_call 8; (with_reducible refine (SA.out).mono ?_); rintro e w1 ⟨rfl, hb⟩; replace hBB := hBB.trans (hb.mono hBB.size); clear hb)
      | (clear tk2; go_at_call 17; (with_reducible refine (On.out _).mono ?_); rintro e w2 ⟨A_n1, n_n1, c_n1, rfl, hs_n1, hb⟩; replace hBB := hBB.trans (hb.mono hBB.size); clear hb)
      | (clear tk3; go_at_call 16; (with_reducible refine (In.out _ _ _ _ hs_n1).mono ?_); rintro e w3 hr; obtain ⟨rfl, hb⟩ := retI_some hr; replace hs_n1 := hs_n1.via hb; replace hBB := hBB.trans (hb.mono hBB.size); clear hb; clear hs_n1)
      | (clear tk4; go_at_call 17; (with_reducible refine (Oa.out _).mono ?_); rintro e w4 ⟨A_a, n_a, c_a, rfl, hs_a, hb⟩; replace hBB := hBB.trans (hb.mono hBB.size); clear hb)
      | (clear tk5; go_at_call 17; (with_reducible refine (Ob.out _).mono ?_); rintro e w5 ⟨A_b, n_b, c_b, rfl, hs_b, hb⟩; replace hs_a := hs_a.via hb; replace hBB := hBB.trans (hb.mono hBB.size); clear hb)
      | (clear tk6; go_at_call 18; (with_reducible refine (AD.out _ _ _ _ _ _ _ hs_a hs_b).mono ?_); rintro e w6 ⟨A_s, n_s, c_s, rfl, hs_s, hb⟩; replace hs_a := hs_a.via hb; replace hs_b := hs_b.via hb; replace hBB := hBB.trans (hb.mono hBB.size); clear hb; clear hs_a; clear hs_b; have nb_s := NB.newg (neg := gs) (g := w6.heap.size) hs_s 25 (rfl); replace hs_s := hs_s.alloc_ (.cells #[.bool gs, .slice A_s n_s c_s] 25); replace hBB := hBB.alloc hBB.size (.cells #[.bool gs, .slice A_s n_s c_s] 25); clear hs_s)
      | (clear tk7; go_at_call 17; (with_reducible refine (Oa.out _).mono ?_); rintro e w7 ⟨A_a, n_a, c_a, rfl, hs_a, hb⟩; replace nb_s := nb_s.via hb; replace hBB := hBB.trans (hb.mono hBB.size); clear hb)
      | (clear tk8; go_at_call 17; (with_reducible refine (Ob.out _).mono ?_); rintro e w8 ⟨A_b, n_b, c_b, rfl, hs_b, hb⟩; replace hs_a := hs_a.via hb; replace nb_s := nb_s.via hb; replace hBB := hBB.trans (hb.mono hBB.size); clear hb)
      | (clear tk9; go_at_call 19; (with_reducible refine (SU.out _ _ _ _ _ _ _ hs_a hs_b).mono ?_); rintro e w9 ⟨A_d, n_d, c_d, rfl, hs_d, hb⟩; replace hs_a := hs_a.via hb; replace hs_b := hs_b.via hb; replace nb_s := nb_s.via hb; replace hBB := hBB.trans (hb.mono hBB.size); clear hb; clear hs_a; clear hs_b; have nb_d := NB.newg (neg := gd) (g := w9.heap.size) hs_d 25 (rfl); replace hs_d := hs_d.alloc_ (.cells #[.bool gd, .slice A_d n_d c_d] 25); replace nb_s := nb_s.alloc_ (.cells #[.bool gd, .slice A_d n_d c_d] 25); replace hBB := hBB.alloc hBB.size (.cells #[.bool gd, .slice A_d n_d c_d] 25); clear hs_d)
      | (clear tk10; go_at_call 17; (with_reducible refine (Oa.out _).mono ?_); rintro e w10 ⟨A_a, n_a, c_a, rfl, hs_a, hb⟩; replace nb_s := nb_s.via hb; replace nb_d := nb_d.via hb; replace hBB := hBB.trans (hb.mono hBB.size); clear hb)
      | (clear tk11; go_at_call 17; (with_reducible refine (Ob.out _).mono ?_); rintro e w11 ⟨A_b, n_b, c_b, rfl, hs_b, hb⟩; replace hs_a := hs_a.via hb; replace nb_s := nb_s.via hb; replace nb_d := nb_d.via hb; replace hBB := hBB.trans (hb.mono hBB.size); clear hb)
      | (clear tk12; go_at_call 20; (with_reducible refine (MU.out _ _ _ _ _ _ _ hs_a hs_b).mono ?_); rintro e w12 ⟨A_p, n_p, c_p, rfl, hs_p, hb⟩; replace hs_a := hs_a.via hb; replace hs_b := hs_b.via hb; replace nb_s := nb_s.via hb; replace nb_d := nb_d.via hb; replace hBB := hBB.trans (hb.mono hBB.size); clear hb; clear hs_a; clear hs_b; have nb_p := NB.newg (neg := gp) (g := w12.heap.size) hs_p 25 (rfl); replace hs_p := hs_p.alloc_ (.cells #[.bool gp, .slice A_p n_p c_p] 25); replace nb_s := nb_s.alloc_ (.cells #[.bool gp, .slice A_p n_p c_p] 25); replace nb_d := nb_d.alloc_ (.cells #[.bool gp, .slice A_p n_p c_p] 25); replace hBB := hBB.alloc hBB.size (.cells #[.bool gp, .slice A_p n_p c_p] 25); clear hs_p; obtain ⟨A_s, n_s, c_s, g0_s, g1_s, hs_s, gz_s⟩ := nb_s)
      | (clear tk13; go_at_call 16; (with_reducible refine (Is.out _ _ _ _ hs_s).mono ?_); rintro e w13 hr; obtain ⟨rfl, hb⟩ := retI_some hr; replace hs_s := hs_s.via hb; replace nb_d := nb_d.via hb; replace nb_p := nb_p.via hb; replace hBB := hBB.trans (hb.mono hBB.size); clear hb; clear hs_s; obtain ⟨A_d, n_d, c_d, g0_d, g1_d, hs_d, gz_d⟩ := nb_d)
      | (clear tk14; go_at_call 16; (with_reducible refine (Id.out _ _ _ _ hs_d).mono ?_); rintro e w14 hr; obtain ⟨rfl, hb⟩ := retI_some hr; replace hs_d := hs_d.via hb; replace nb_p := nb_p.via hb; replace hBB := hBB.trans (hb.mono hBB.size); clear hb; clear hs_d; obtain ⟨A_p, n_p, c_p, g0_p, g1_p, hs_p, gz_p⟩ := nb_p)
      | (clear tk15; go_at_call 16; (with_reducible refine (Ip.out _ _ _ _ hs_p).mono ?_); rintro e w15 hr; obtain ⟨rfl, hb⟩ := retI_some hr; replace hs_p := hs_p.via hb; replace hBB := hBB.trans (hb.mono hBB.size); clear hb; clear hs_p)
      | (clear tk16; go_at_call 17; (with_reducible refine (On.out _).mono ?_); rintro e w16 ⟨A_n2, n_n2, c_n2, rfl, hs_n2, hb⟩; replace hBB := hBB.trans (hb.mono hBB.size); clear hb)
      | (clear tk17; go_at_call 17; (with_reducible refine (Om.out _).mono ?_); rintro e w17 ⟨A_m2, n_m2, c_m2, rfl, hs_m2, hb⟩; replace hs_n2 := hs_n2.via hb; replace hBB := hBB.trans (hb.mono hBB.size); clear hb)
      | (clear tk18; go_at_call 21; (with_reducible refine (CM.out _ _ _ _ _ _ _ hs_n2 hs_m2).mono ?_); rintro e w18 ⟨rfl, hb⟩; replace hs_n2 := hs_n2.via hb; replace hs_m2 := hs_m2.via hb; replace hBB := hBB.trans (hb.mono hBB.size); clear hb; clear hs_n2; clear hs_m2)
      | (clear tk19; go_at_call 17; (with_reducible refine (On.out _).mono ?_); rintro e w19 ⟨A_n3, n_n3, c_n3, rfl, hs_n3, hb⟩; replace hBB := hBB.trans (hb.mono hBB.size); clear hb)
      | (clear tk20; go_at_call 22; (with_reducible refine (RI.out _ _ _ _ hs_n3).mono ?_); rintro e w20 ⟨rfl, hb⟩; replace hs_n3 := hs_n3.via hb; replace hBB := hBB.trans (hb.mono hBB.size); clear hb; clear hs_n3)
      | fail "no arm")
    go_ret
    exact ⟨rfl, hBB⟩
end Go.Proofs.YthnickjbknpmhaaDoor
