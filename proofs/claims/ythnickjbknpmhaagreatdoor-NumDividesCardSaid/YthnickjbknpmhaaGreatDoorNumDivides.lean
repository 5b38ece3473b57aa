/-
  The walk of NumDivides.
-/
import Derived.Test.YthnickjbknpmhaaGreatDoorNumRegZ
import Derived.Test.YthnickjbknpmhaaGreatDoorNumSan
import Derived.Test.YthnickjbknpmhaaGreatDoorNumSlv
import Derived.Test.YthnickjbknpmhaaGreatDoorNumRefY
namespace Go.Proofs.YthnickjbknpmhaaGreatDoor
open Go.RowKit Go.Shelf

/-- What a block holds. -/
def EC (W : World) (q : Nat) (cs : Array Value) : Prop := W.heap[q]? = some (.cells cs 27 (0, 0))
theorem EC.new (W : World) (cs : Array Value) : EC (W.alloc (.cells cs 27)) W.heap.size cs := heap_alloc_new W _
theorem EC.via {W W1 : World} {q : Nat} {cs : Array Value} (h : EC W q cs) (hb : Below W.heap.size W W1) : EC W1 q cs := (hb.block q (lt_of_heap h)).trans h
theorem EC.cell {W : World} {q : Nat} {cs : Array Value} (h : EC W q cs) {i : Nat} {u : Value} (hu : cs[i]? = some u) : W.cell? ⟨q, i, none⟩ = some u := by rw [cell_of_heap h]; exact hu
theorem AN.here {w0 W : World} {pb : Nat} {arr : Array Value} (h : AN w0 pb arr W) : AN W pb arr W := ⟨Below.refl _ _, fun _ _ hu => h.cell hu, Nat.lt_of_lt_of_le h.2.2 h.size⟩
theorem raised_any (neg : Bool) {A : Option Addr} {n c v : Nat} {w : World} (h : Sl w w.heap.size A n c (digs v)) (hv : v < big) (k : Nat) (hk : k ≤ 1000) :
    Calls Tryz.prog 7 #[.agg #[.bool neg, .slice A n c], .int .i64 (k : Nat)] w (RetL neg w) := by
  have hn := few_digs h hv
  rcases Nat.eq_zero_or_pos n with h0 | h0
  · have e := (none_digs h).1 h0
    subst e
    subst h0
    rw [digs_zero] at h
    exact raised_nil neg h (Nat.le_refl _)
  · exact raised_some neg h (Nat.le_refl _) h0 (by omega) hk

set_option maxRecDepth 100000 in
set_option maxHeartbeats 32000000 in
theorem numDivides_walk (A1 A2 : Option Addr) (k1 k2 d1 d2 : Nat) (z1 z2 : List Int) (lw : Int) (hl0 : 0 ≤ lw) (hl1 : lw < 256) (g1 g2 : Bool) (X1 X2 : Option Addr) (n1 n2 c1 c2 : Nat) (l m : List Nat) (w : World) {B : Nat} (hB : B ≤ w.heap.size) (hT : PowT B w) (hS : SynT B w)
    (h1 : Reads w B 1 A1 k1 (z1.map (Value.int .i64))) (h2 : Reads w B 1 A2 k2 (z2.map (Value.int .i64))) (m1 : k1 ≤ 9223372036854775807) (m2 : k2 ≤ 9223372036854775807)
    (hx : Sl w w.heap.size X1 n1 c1 l) (hy : Sl w w.heap.size X2 n2 c2 m) :
    Calls Tryz.prog 3 #[.agg #[.slice A1 k1 d1, .slice A2 k2 d2], .int .u8 lw, .agg #[.bool g1, .slice X1 n1 c1, .bool g2, .slice X2 n2 c2]] w fun e w' => e = .returned (.bool true) ∧ Below w.heap.size w w' := by
  have SA := Lib.hid (fun (W : World) (hW : Below w.heap.size w W) => sanity_any W (Nat.le_trans hB hW.size) (hT.below hW hB) (hS.below hW hB))
  have M1 := Lib.hid (fun (W : World) (hW : Below w.heap.size w W) => made_v (W := W) (c := d1) (h1.below (hW.mono hB)) (Nat.le_trans hB hW.size) m1)
  have M2 := Lib.hid (fun (W : World) (hW : Below w.heap.size w W) => made_v (W := W) (c := d2) (h2.below (hW.mono hB)) (Nat.le_trans hB hW.size) m2)
  have CX := Lib.hid (fun (W : World) (hW : Below w.heap.size w W) => cut_any g1 20 (hx.via hW))
  have CY := Lib.hid (fun (W : World) (hW : Below w.heap.size w W) => cut_any g2 20 (hy.via hW))
  rw [show ((20 : Nat) : Int) = 20 from rfl] at CX CY
  have ba := Lib.hid (madeV_big z1)
  obtain ⟨ga, hga⟩ : ∃ g, decide (madeV z1 < 0) = g := ⟨_, rfl⟩
  obtain ⟨va, hva⟩ : ∃ v, (madeV z1).natAbs = v := ⟨_, rfl⟩
  obtain ⟨gb, hgb⟩ : ∃ g, decide (madeV z2 < 0) = g := ⟨_, rfl⟩
  obtain ⟨vb, hvb⟩ : ∃ v, (madeV z2).natAbs = v := ⟨_, rfl⟩
  rw [hga, hva] at M1
  rw [hgb, hvb] at M2
  rw [hva] at ba
  clear h1 h2 m1 m2 hT hS hx hy hga hva hgb hvb hB
  obtain ⟨k, hk, hkk⟩ : ∃ k : Nat, k < 40 ∧ Int.tmod lw 40 = (k : Int) := ⟨(lw.tmod 40).toNat, by have := Int.tmod_eq_emod_of_nonneg (b := 40) hl0; omega, by have := Int.tmod_eq_emod_of_nonneg (b := 40) hl0; omega⟩
  have hkm : lw % 40 = (k : Int) := by have := Int.tmod_eq_emod_of_nonneg (b := 40) hl0; omega
  have i1 : AN ((w.alloc (.cells #[.slice A1 k1 d1, .slice A2 k2 d2] 23)).alloc (.cells #[.bool g1, .slice X1 n1 c1, .bool g2, .slice X2 n2 c2] 27)) w.heap.size #[.slice A1 k1 d1, .slice A2 k2 d2] ((w.alloc (.cells #[.slice A1 k1 d1, .slice A2 k2 d2] 23)).alloc (.cells #[.bool g1, .slice X1 n1 c1, .bool g2, .slice X2 n2 c2] 27)) := by
    refine ⟨Below.refl _ _, fun i u hu => ?_, by simp; omega⟩
    match i, hu with
    | 0, hu => simp at hu; subst hu; simp [go_sem]
    | 1, hu => simp at hu; subst hu; simp [go_sem]
    | k + 2, hu => simp at hu
  have i2 : AN ((w.alloc (.cells #[.slice A1 k1 d1, .slice A2 k2 d2] 23)).alloc (.cells #[.bool g1, .slice X1 n1 c1, .bool g2, .slice X2 n2 c2] 27)) (w.heap.size + 1) #[.bool g1, .slice X1 n1 c1, .bool g2, .slice X2 n2 c2] ((w.alloc (.cells #[.slice A1 k1 d1, .slice A2 k2 d2] 23)).alloc (.cells #[.bool g1, .slice X1 n1 c1, .bool g2, .slice X2 n2 c2] 27)) := by
    refine ⟨Below.refl _ _, fun i u hu => ?_, by simp⟩
    match i, hu with
    | 0, hu => simp at hu; subst hu; simp [go_sem]
    | 1, hu => simp at hu; subst hu; simp [go_sem]
    | 2, hu => simp at hu; subst hu; simp [go_sem]
    | 3, hu => simp at hu; subst hu; simp [go_sem]
    | k + 4, hu => simp at hu
  have hBB : Below w.heap.size w ((w.alloc (.cells #[.slice A1 k1 d1, .slice A2 k2 d2] 23)).alloc (.cells #[.bool g1, .slice X1 n1 c1, .bool g2, .slice X2 n2 c2] 27)) := by go_grown
  go_enter Tryz.func3, Tryz.ntmps3
  go_upto_region 2 with (first
    | (go_at_call 5; (with_reducible refine (SA.out _ hBB).mono ?_); rintro e w1 ⟨rfl, hb⟩; replace i1 := (i1.via hb).here; replace i2 := (i2.via hb).here; replace hBB := hBB.trans (hb.mono hBB.size); clear hb)
    | fail "no arm")
  refine dvm_region _ _ w1 w1 w.heap.size A1 k1 d1 ga (digs va) A2 k2 d2 gb (digs vb) rfl (by kernel_rfl) (by simp) rfl i1
    (fun W hW => M1.out W (hBB.trans (hW.mono hBB.size))) (fun W hW => M2.out W (hBB.trans (hW.mono hBB.size)))
    rfl rfl rfl rfl rfl rfl rfl rfl rfl rfl
    (by kernel_rfl) (by kernel_rfl) (by kernel_rfl) (by kernel_rfl) (by kernel_rfl) (by kernel_rfl) (by kernel_rfl) (by kernel_rfl) (by kernel_rfl) ?_
  rintro f W2 hA ⟨q_a, A_a, n_a, c_a, q_b, A_b, n_b, c_b, z0, r0, _, o_a, _, z1', r1, _, o_b, _, _⟩
  simp only [patch_cons, patch_nil, z0, r0, z1', r1]
  replace i2 := (i2.via hA.1).here
  replace hBB := hBB.trans (hA.1.mono hBB.size)
  clear hA z0 r0 z1' r1 i1 M1 M2 SA
  simp only [List.setIfInBounds_toArray, List.set_cons_zero, List.set_cons_succ]
  obtain ⟨a0, a1, hs_a, az⟩ := id o_a
  go_upto_region 4 with (first
    | (go_at_call 7; go_loud ((with_reducible refine (raised_any ga hs_a ba.out k (by omega)).mono ?_); rintro e w3 ⟨A_h, n_h, c_h, lh, rfl, hs_h, hb⟩; clear a0 a1 hs_a az; replace o_a := o_a.via hb; replace o_b := o_b.via hb; replace i2 := i2.via hb; replace hBB := hBB.trans (hb.mono hBB.size); have o_h := OL.newg (neg := ga) hs_h 26 rfl; have bw := (Below.refl w3.heap.size w3).alloc (Nat.le_refl _) (.cells #[.bool ga, .slice A_h n_h c_h] 26); replace o_a := o_a.via bw; replace o_b := o_b.via bw; replace i2 := (i2.via bw).here; replace hBB := hBB.trans (bw.mono hBB.size); clear hb bw hs_h))
    | fail "no arm")
  obtain ⟨q_h, hq_h⟩ : ∃ q, w3.heap.size = q := ⟨_, rfl⟩
  obtain ⟨W4, hW4⟩ : ∃ W4, w3.alloc (.cells #[.bool ga, .slice A_h n_h c_h] 26) = W4 := ⟨_, rfl⟩
  rw [hW4] at o_a o_b o_h i2 hBB
  rw [hq_h] at o_h
  rw [hW4, hq_h]
  clear hW4 hq_h
  refine dvc_region _ _ W4 W4 (w.heap.size + 1) X1 n1 c1 g1 (l.take 20) X2 n2 c2 g2 (m.take 20) rfl (by kernel_rfl) (by simp) rfl i2
    (fun W hW => (CX.out W (hBB.trans (hW.mono hBB.size))).mono fun e w' ⟨k, he, hs, hb⟩ => ⟨X1, k, c1, he, hs, hb⟩) (fun W hW => (CY.out W (hBB.trans (hW.mono hBB.size))).mono fun e w' ⟨k, he, hs, hb⟩ => ⟨X2, k, c2, he, hs, hb⟩)
    rfl rfl rfl rfl rfl rfl rfl rfl rfl rfl
    (by kernel_rfl) (by kernel_rfl) (by kernel_rfl) (by kernel_rfl) (by kernel_rfl) (by kernel_rfl) (by kernel_rfl) (by kernel_rfl) (by kernel_rfl) ?_
  rintro f W5 hA ⟨q_x, A_x, n_x, c_x, q_y, A_y, n_y, c_y, z0, r0, _, o_x, _, z1', r1, _, o_y, _, _⟩
  simp only [patch_cons, patch_nil, z0, r0, z1', r1]
  replace o_a := o_a.via hA.1
  replace o_b := o_b.via hA.1
  replace o_h := o_h.via hA.1
  replace hBB := hBB.trans (hA.1.mono hBB.size)
  clear hA z0 r0 z1' r1 i2 CX CY
  simp only [List.setIfInBounds_toArray, List.set_cons_zero, List.set_cons_succ]
  obtain ⟨a0, a1, hs_a, az⟩ := id o_a
  obtain ⟨b0, b1, hs_b, bz⟩ := id o_b
  obtain ⟨h0, h1, hs_h, hz⟩ := id o_h
  obtain ⟨x0, x1, hs_x, xz⟩ := id o_x
  obtain ⟨y0, y1, hs_y, yz⟩ := id o_y
  go_wp2_with fail
  clear a0 a1 az b0 b1 bz h0 h1 hz x0 x1 xz y0 y1 yz o_a o_b o_h o_x o_y
  have ec := EC.new W5 #[.bool ga, .slice A_a n_a c_a, .bool gb, .slice A_b n_b c_b, .bool gb, .slice A_b n_b c_b, .bool ga, .slice A_a n_a c_a, .bool ga, .slice A_h n_h c_h, .bool gb, .slice A_b n_b c_b, .bool g1, .slice A_x n_x c_x, .bool g2, .slice A_y n_y c_y, .bool g1, .slice A_x n_x c_x, .bool gb, .slice A_b n_b c_b, .bool ga, .slice A_h n_h c_h, .bool g1, .slice A_x n_x c_x]
  have bw := (Below.refl W5.heap.size W5).alloc (Nat.le_refl _) (.cells #[.bool ga, .slice A_a n_a c_a, .bool gb, .slice A_b n_b c_b, .bool gb, .slice A_b n_b c_b, .bool ga, .slice A_a n_a c_a, .bool ga, .slice A_h n_h c_h, .bool gb, .slice A_b n_b c_b, .bool g1, .slice A_x n_x c_x, .bool g2, .slice A_y n_y c_y, .bool g1, .slice A_x n_x c_x, .bool gb, .slice A_b n_b c_b, .bool ga, .slice A_h n_h c_h, .bool g1, .slice A_x n_x c_x] 27)
  replace hs_a := hs_a.via bw
  replace hs_b := hs_b.via bw
  replace hs_h := hs_h.via bw
  replace hs_x := hs_x.via bw
  replace hs_y := hs_y.via bw
  replace hBB := hBB.trans (bw.mono hBB.size)
  clear bw
  obtain ⟨q, hq⟩ : ∃ q, W5.heap.size = q := ⟨_, rfl⟩
  obtain ⟨W6, hW6⟩ : ∃ W6, W5.alloc (.cells #[.bool ga, .slice A_a n_a c_a, .bool gb, .slice A_b n_b c_b, .bool gb, .slice A_b n_b c_b, .bool ga, .slice A_a n_a c_a, .bool ga, .slice A_h n_h c_h, .bool gb, .slice A_b n_b c_b, .bool g1, .slice A_x n_x c_x, .bool g2, .slice A_y n_y c_y, .bool g1, .slice A_x n_x c_x, .bool gb, .slice A_b n_b c_b, .bool ga, .slice A_h n_h c_h, .bool g1, .slice A_x n_x c_x] 27) = W6 := ⟨_, rfl⟩
  rw [hW6] at ec hs_a hs_b hs_h hs_x hs_y hBB
  rw [hq] at ec
  rw [hW6, hq]
  clear hW6 hq
  obtain ⟨cs, hcs⟩ : ∃ cs : Array Value, #[.bool ga, .slice A_a n_a c_a, .bool gb, .slice A_b n_b c_b, .bool gb, .slice A_b n_b c_b, .bool ga, .slice A_a n_a c_a, .bool ga, .slice A_h n_h c_h, .bool gb, .slice A_b n_b c_b, .bool g1, .slice A_x n_x c_x, .bool g2, .slice A_y n_y c_y, .bool g1, .slice A_x n_x c_x, .bool gb, .slice A_b n_b c_b, .bool ga, .slice A_h n_h c_h, .bool g1, .slice A_x n_x c_x] = cs := ⟨_, rfl⟩
  rw [hcs] at ec
  have HC := Lib.hid hcs
  clear hcs
  go_loopw [63] (fun i W => ∃ k : Nat, k ≤ 6 ∧ i = .int .i64 k ∧ Hid (Below w.heap.size w W ∧ EC W q cs ∧ Sl W W.heap.size A_a n_a c_a (digs va) ∧ Sl W W.heap.size A_b n_b c_b (digs vb) ∧ Sl W W.heap.size A_h n_h c_h lh ∧ Sl W W.heap.size A_x n_x c_x (l.take 20) ∧ Sl W W.heap.size A_y n_y c_y (m.take 20))) (fun i _ => 6 - (intOf i).toNat)
  case atStart => exact ⟨0, by omega, rfl, Lib.hid ⟨hBB, ec, hs_a, hs_b, hs_h, hs_x, hs_y⟩⟩
  case round =>
    clear hBB ec hs_a hs_b hs_h hs_x hs_y
    obtain ⟨kk, hkk, rfl, hI⟩ := hrel
    obtain ⟨hBB, ec, hs_a, hs_b, hs_h, hs_x, hs_y⟩ := hI.out
    clear hI
    rcases (show kk = 0 ∨ kk = 1 ∨ kk = 2 ∨ kk = 3 ∨ kk = 4 ∨ kk = 5 ∨ kk = 6 by omega) with rfl | rfl | rfl | rfl | rfl | rfl | rfl
    · skip
      have x0 := ec.cell (i := 0) (u := .bool ga) (by rw [← HC.out]; rfl)
      have x1 := ec.cell (i := 1) (u := .slice A_a n_a c_a) (by rw [← HC.out]; rfl)
      have x2 := ec.cell (i := 2) (u := .bool gb) (by rw [← HC.out]; rfl)
      have x3 := ec.cell (i := 3) (u := .slice A_b n_b c_b) (by rw [← HC.out]; rfl)
      have zz := EC.new wr #[.bool ga, .slice A_a n_a c_a, .bool gb, .slice A_b n_b c_b]
      have bw := (Below.refl wr.heap.size wr).alloc (Nat.le_refl _) (.cells #[.bool ga, .slice A_a n_a c_a, .bool gb, .slice A_b n_b c_b] 27)
      replace hs_a := hs_a.via bw
      replace hs_b := hs_b.via bw
      replace hs_h := hs_h.via bw
      replace hs_x := hs_x.via bw
      replace hs_y := hs_y.via bw
      replace ec := ec.via bw
      replace hBB := hBB.trans (bw.mono hBB.size)
      clear bw
      have z0 := zz.cell (i := 0) rfl
      have z1 := zz.cell (i := 1) rfl
      have z2 := zz.cell (i := 2) rfl
      have z3 := zz.cell (i := 3) rfl
      have RD := Lib.hid (fun (W : World) (h : Sl W W.heap.size A_a n_a c_a (digs va)) (h2 : Sl W W.heap.size A_b n_b c_b (digs vb)) => div_any ga gb h h2 (Nat.le_refl _))
      have RE := Lib.hid (fun (W : World) (h : Sl W W.heap.size A_a n_a c_a (digs va)) (h2 : Sl W W.heap.size A_b n_b c_b (digs vb)) => refdiv_any ga gb h h2 (Nat.le_refl _))
      have RG := Lib.hid (fun (W : World) (h : Sl W W.heap.size A_a n_a c_a (digs va)) (h2 : Sl W W.heap.size A_b n_b c_b (digs vb)) => gcd_any ga gb h h2 (Nat.le_refl _))
      have RH := Lib.hid (fun (W : World) (h : Sl W W.heap.size A_a n_a c_a (digs va)) (h2 : Sl W W.heap.size A_b n_b c_b (digs vb)) => refgcd_any ga gb h h2 (Nat.le_refl _))
      obtain ⟨r, hr⟩ : ∃ r, divS ga (digs va) gb (digs vb) = r := ⟨_, rfl⟩
      rw [hr] at RD RE
      obtain ⟨s, hs⟩ : ∃ r, gcdS ga (digs va) gb (digs vb) = r := ⟨_, rfl⟩
      rw [hs] at RG RH
      clear hr hs
      have tk0 : Hid True := trivial
      have tk1 : Hid True := trivial
      have tk2 : Hid True := trivial
      have tk3 : Hid True := trivial
      have tk4 : Hid True := trivial
      have tk5 : Hid True := trivial
      have tk6 : Hid True := trivial
      go_wp2_with (first
        | (clear tk0; go_at_call 9; go_loud ((with_reducible refine (RD.out _ hs_a hs_b).mono ?_); rintro e w6 ⟨A_Q, n_Q, c_Q, A_S, n_S, c_S, rfl, hs_Q, hs_S, hb⟩; replace hs_a := hs_a.via hb; replace hs_b := hs_b.via hb; replace hs_h := hs_h.via hb; replace hs_x := hs_x.via hb; replace hs_y := hs_y.via hb; replace ec := ec.via hb; replace hBB := hBB.trans (hb.mono hBB.size); replace zz := zz.via hb; clear z0 z1 z2 z3 hb; have o_Q := (OL.newg (neg := decide (dqO r < 0)) hs_Q 26 rfl).via ((Below.refl _ _).alloc (Nat.le_refl _) (.cells #[.bool (decide (drO r < 0)), .slice A_S n_S c_S] 26)); have o_S := OL.newg (neg := decide (drO r < 0)) (g := w6.heap.size + 1) (hs_S.via ((Below.refl _ _).alloc (Nat.le_refl _) (.cells #[.bool (decide (dqO r < 0)), .slice A_Q n_Q c_Q] 26))) 26 (by simp); have bw : Below w6.heap.size w6 ((w6.alloc (.cells #[.bool (decide (dqO r < 0)), .slice A_Q n_Q c_Q] 26)).alloc (.cells #[.bool (decide (drO r < 0)), .slice A_S n_S c_S] 26)) := ((Below.refl _ _).alloc (Nat.le_refl _) _).alloc (by simp) _; replace hs_a := hs_a.via bw; replace hs_b := hs_b.via bw; replace hs_h := hs_h.via bw; replace hs_x := hs_x.via bw; replace hs_y := hs_y.via bw; replace ec := ec.via bw; replace hBB := hBB.trans (bw.mono hBB.size); replace zz := zz.via bw; clear bw hs_Q hs_S; have z0 := zz.cell (i := 0) rfl; have z1 := zz.cell (i := 1) rfl; have z2 := zz.cell (i := 2) rfl; have z3 := zz.cell (i := 3) rfl))
        | (clear tk1; go_at_call 10; go_loud ((with_reducible refine (RE.out _ hs_a hs_b).mono ?_); rintro e w7 ⟨A_P, n_P, c_P, A_T, n_T, c_T, rfl, hs_P, hs_T, hb⟩; replace hs_a := hs_a.via hb; replace hs_b := hs_b.via hb; replace hs_h := hs_h.via hb; replace hs_x := hs_x.via hb; replace hs_y := hs_y.via hb; replace ec := ec.via hb; replace hBB := hBB.trans (hb.mono hBB.size); replace zz := zz.via hb; replace o_Q := o_Q.via hb; replace o_S := o_S.via hb; clear z0 z1 z2 z3 hb; have o_P := (OL.newg (neg := decide (dqO r < 0)) hs_P 26 rfl).via ((Below.refl _ _).alloc (Nat.le_refl _) (.cells #[.bool (decide (drO r < 0)), .slice A_T n_T c_T] 26)); have o_T := OL.newg (neg := decide (drO r < 0)) (g := w7.heap.size + 1) (hs_T.via ((Below.refl _ _).alloc (Nat.le_refl _) (.cells #[.bool (decide (dqO r < 0)), .slice A_P n_P c_P] 26))) 26 (by simp); have bw : Below w7.heap.size w7 ((w7.alloc (.cells #[.bool (decide (dqO r < 0)), .slice A_P n_P c_P] 26)).alloc (.cells #[.bool (decide (drO r < 0)), .slice A_T n_T c_T] 26)) := ((Below.refl _ _).alloc (Nat.le_refl _) _).alloc (by simp) _; replace hs_a := hs_a.via bw; replace hs_b := hs_b.via bw; replace hs_h := hs_h.via bw; replace hs_x := hs_x.via bw; replace hs_y := hs_y.via bw; replace ec := ec.via bw; replace hBB := hBB.trans (bw.mono hBB.size); replace zz := zz.via bw; replace o_Q := o_Q.via bw; replace o_S := o_S.via bw; clear bw hs_P hs_T; have z0 := zz.cell (i := 0) rfl; have z1 := zz.cell (i := 1) rfl; have z2 := zz.cell (i := 2) rfl; have z3 := zz.cell (i := 3) rfl))
        | (clear tk2; go_at_call 11; go_loud ((with_reducible refine (RG.out _ hs_a hs_b).mono ?_); rintro e w8 ⟨A_G, n_G, c_G, rfl, hs_G, hb⟩; replace hs_a := hs_a.via hb; replace hs_b := hs_b.via hb; replace hs_h := hs_h.via hb; replace hs_x := hs_x.via hb; replace hs_y := hs_y.via hb; replace ec := ec.via hb; replace hBB := hBB.trans (hb.mono hBB.size); replace zz := zz.via hb; replace o_Q := o_Q.via hb; replace o_S := o_S.via hb; replace o_P := o_P.via hb; replace o_T := o_T.via hb; clear z0 z1 z2 z3 hb; have o_G := OL.newg (neg := ngO s) hs_G 26 rfl; have bw := (Below.refl w8.heap.size w8).alloc (Nat.le_refl _) (.cells #[.bool (ngO s), .slice A_G n_G c_G] 26); replace hs_a := hs_a.via bw; replace hs_b := hs_b.via bw; replace hs_h := hs_h.via bw; replace hs_x := hs_x.via bw; replace hs_y := hs_y.via bw; replace ec := ec.via bw; replace hBB := hBB.trans (bw.mono hBB.size); replace zz := zz.via bw; replace o_Q := o_Q.via bw; replace o_S := o_S.via bw; replace o_P := o_P.via bw; replace o_T := o_T.via bw; clear bw hs_G; have z0 := zz.cell (i := 0) rfl; have z1 := zz.cell (i := 1) rfl; have z2 := zz.cell (i := 2) rfl; have z3 := zz.cell (i := 3) rfl))
        | (clear tk3; go_at_call 12; go_loud ((with_reducible refine (RH.out _ hs_a hs_b).mono ?_); rintro e w9 ⟨A_H, n_H, c_H, rfl, hs_H, hb⟩; replace hs_a := hs_a.via hb; replace hs_b := hs_b.via hb; replace hs_h := hs_h.via hb; replace hs_x := hs_x.via hb; replace hs_y := hs_y.via hb; replace ec := ec.via hb; replace hBB := hBB.trans (hb.mono hBB.size); replace zz := zz.via hb; replace o_Q := o_Q.via hb; replace o_S := o_S.via hb; replace o_P := o_P.via hb; replace o_T := o_T.via hb; replace o_G := o_G.via hb; clear z0 z1 z2 z3 hb; have o_H := OL.newg (neg := ngO s) hs_H 26 rfl; have bw := (Below.refl w9.heap.size w9).alloc (Nat.le_refl _) (.cells #[.bool (ngO s), .slice A_H n_H c_H] 26); replace hs_a := hs_a.via bw; replace hs_b := hs_b.via bw; replace hs_h := hs_h.via bw; replace hs_x := hs_x.via bw; replace hs_y := hs_y.via bw; replace ec := ec.via bw; replace hBB := hBB.trans (bw.mono hBB.size); replace zz := zz.via bw; replace o_Q := o_Q.via bw; replace o_S := o_S.via bw; replace o_P := o_P.via bw; replace o_T := o_T.via bw; replace o_G := o_G.via bw; clear bw hs_H; have z0 := zz.cell (i := 0) rfl; have z1 := zz.cell (i := 1) rfl; have z2 := zz.cell (i := 2) rfl; have z3 := zz.cell (i := 3) rfl; obtain ⟨Q_0, Q_1, hs_Q, Q_z⟩ := id o_Q; obtain ⟨S_0, S_1, hs_S, S_z⟩ := id o_S; obtain ⟨P_0, P_1, hs_P, P_z⟩ := id o_P; obtain ⟨T_0, T_1, hs_T, T_z⟩ := id o_T; obtain ⟨G_0, G_1, hs_G, G_z⟩ := id o_G; obtain ⟨H_0, H_1, hs_H, H_z⟩ := id o_H))
        | (clear tk4; go_at_call 13; go_loud ((with_reducible refine (same_one (decide (dqO r < 0)) hs_Q hs_P).mono ?_); rintro e w14 ⟨rfl, hb⟩; replace hs_a := hs_a.via hb; replace hs_b := hs_b.via hb; replace hs_h := hs_h.via hb; replace hs_x := hs_x.via hb; replace hs_y := hs_y.via hb; replace ec := ec.via hb; replace hBB := hBB.trans (hb.mono hBB.size); replace zz := zz.via hb; replace o_Q := o_Q.via hb; replace o_S := o_S.via hb; replace o_P := o_P.via hb; replace o_T := o_T.via hb; replace o_G := o_G.via hb; replace o_H := o_H.via hb; clear Q_0 Q_1 hs_Q Q_z S_0 S_1 hs_S S_z P_0 P_1 hs_P P_z T_0 T_1 hs_T T_z G_0 G_1 hs_G G_z H_0 H_1 hs_H H_z hb; obtain ⟨Q_0, Q_1, hs_Q, Q_z⟩ := id o_Q; obtain ⟨S_0, S_1, hs_S, S_z⟩ := id o_S; obtain ⟨P_0, P_1, hs_P, P_z⟩ := id o_P; obtain ⟨T_0, T_1, hs_T, T_z⟩ := id o_T; obtain ⟨G_0, G_1, hs_G, G_z⟩ := id o_G; obtain ⟨H_0, H_1, hs_H, H_z⟩ := id o_H))
        | (clear tk5; go_at_call 13; go_loud ((with_reducible refine (same_one (decide (drO r < 0)) hs_S hs_T).mono ?_); rintro e w15 ⟨rfl, hb⟩; replace hs_a := hs_a.via hb; replace hs_b := hs_b.via hb; replace hs_h := hs_h.via hb; replace hs_x := hs_x.via hb; replace hs_y := hs_y.via hb; replace ec := ec.via hb; replace hBB := hBB.trans (hb.mono hBB.size); replace zz := zz.via hb; replace o_Q := o_Q.via hb; replace o_S := o_S.via hb; replace o_P := o_P.via hb; replace o_T := o_T.via hb; replace o_G := o_G.via hb; replace o_H := o_H.via hb; clear Q_0 Q_1 hs_Q Q_z S_0 S_1 hs_S S_z P_0 P_1 hs_P P_z T_0 T_1 hs_T T_z G_0 G_1 hs_G G_z H_0 H_1 hs_H H_z hb; obtain ⟨Q_0, Q_1, hs_Q, Q_z⟩ := id o_Q; obtain ⟨S_0, S_1, hs_S, S_z⟩ := id o_S; obtain ⟨P_0, P_1, hs_P, P_z⟩ := id o_P; obtain ⟨T_0, T_1, hs_T, T_z⟩ := id o_T; obtain ⟨G_0, G_1, hs_G, G_z⟩ := id o_G; obtain ⟨H_0, H_1, hs_H, H_z⟩ := id o_H))
        | (clear tk6; go_at_call 13; go_loud ((with_reducible refine (same_one (ngO s) hs_G hs_H).mono ?_); rintro e w16 ⟨rfl, hb⟩; replace hs_a := hs_a.via hb; replace hs_b := hs_b.via hb; replace hs_h := hs_h.via hb; replace hs_x := hs_x.via hb; replace hs_y := hs_y.via hb; replace ec := ec.via hb; replace hBB := hBB.trans (hb.mono hBB.size); replace zz := zz.via hb; replace o_Q := o_Q.via hb; replace o_S := o_S.via hb; replace o_P := o_P.via hb; replace o_T := o_T.via hb; replace o_G := o_G.via hb; replace o_H := o_H.via hb; clear Q_0 Q_1 hs_Q Q_z S_0 S_1 hs_S S_z P_0 P_1 hs_P P_z T_0 T_1 hs_T T_z G_0 G_1 hs_G G_z H_0 H_1 hs_H H_z hb; obtain ⟨Q_0, Q_1, hs_Q, Q_z⟩ := id o_Q; obtain ⟨S_0, S_1, hs_S, S_z⟩ := id o_S; obtain ⟨P_0, P_1, hs_P, P_z⟩ := id o_P; obtain ⟨T_0, T_1, hs_T, T_z⟩ := id o_T; obtain ⟨G_0, G_1, hs_G, G_z⟩ := id o_G; obtain ⟨H_0, H_1, hs_H, H_z⟩ := id o_H))
        | fail "no arm")
      go_roundw
      case rel => exact ⟨1, by omega, rfl, Lib.hid ⟨hBB, ec, hs_a, hs_b, hs_h, hs_x, hs_y⟩⟩
      case measure => simp [intOf]
    · skip
      have x0 := ec.cell (i := 4) (u := .bool gb) (by rw [← HC.out]; rfl)
      have x1 := ec.cell (i := 5) (u := .slice A_b n_b c_b) (by rw [← HC.out]; rfl)
      have x2 := ec.cell (i := 6) (u := .bool ga) (by rw [← HC.out]; rfl)
      have x3 := ec.cell (i := 7) (u := .slice A_a n_a c_a) (by rw [← HC.out]; rfl)
      have zz := EC.new wr #[.bool gb, .slice A_b n_b c_b, .bool ga, .slice A_a n_a c_a]
      have bw := (Below.refl wr.heap.size wr).alloc (Nat.le_refl _) (.cells #[.bool gb, .slice A_b n_b c_b, .bool ga, .slice A_a n_a c_a] 27)
      replace hs_a := hs_a.via bw
      replace hs_b := hs_b.via bw
      replace hs_h := hs_h.via bw
      replace hs_x := hs_x.via bw
      replace hs_y := hs_y.via bw
      replace ec := ec.via bw
      replace hBB := hBB.trans (bw.mono hBB.size)
      clear bw
      have z0 := zz.cell (i := 0) rfl
      have z1 := zz.cell (i := 1) rfl
      have z2 := zz.cell (i := 2) rfl
      have z3 := zz.cell (i := 3) rfl
      have RD := Lib.hid (fun (W : World) (h : Sl W W.heap.size A_b n_b c_b (digs vb)) (h2 : Sl W W.heap.size A_a n_a c_a (digs va)) => div_any gb ga h h2 (Nat.le_refl _))
      have RE := Lib.hid (fun (W : World) (h : Sl W W.heap.size A_b n_b c_b (digs vb)) (h2 : Sl W W.heap.size A_a n_a c_a (digs va)) => refdiv_any gb ga h h2 (Nat.le_refl _))
      have RG := Lib.hid (fun (W : World) (h : Sl W W.heap.size A_b n_b c_b (digs vb)) (h2 : Sl W W.heap.size A_a n_a c_a (digs va)) => gcd_any gb ga h h2 (Nat.le_refl _))
      have RH := Lib.hid (fun (W : World) (h : Sl W W.heap.size A_b n_b c_b (digs vb)) (h2 : Sl W W.heap.size A_a n_a c_a (digs va)) => refgcd_any gb ga h h2 (Nat.le_refl _))
      obtain ⟨r, hr⟩ : ∃ r, divS gb (digs vb) ga (digs va) = r := ⟨_, rfl⟩
      rw [hr] at RD RE
      obtain ⟨s, hs⟩ : ∃ r, gcdS gb (digs vb) ga (digs va) = r := ⟨_, rfl⟩
      rw [hs] at RG RH
      clear hr hs
      have tk0 : Hid True := trivial
      have tk1 : Hid True := trivial
      have tk2 : Hid True := trivial
      have tk3 : Hid True := trivial
      have tk4 : Hid True := trivial
      have tk5 : Hid True := trivial
      have tk6 : Hid True := trivial
      go_wp2_with (first
        | (clear tk0; go_at_call 9; go_loud ((with_reducible refine (RD.out _ hs_b hs_a).mono ?_); rintro e w6 ⟨A_Q, n_Q, c_Q, A_S, n_S, c_S, rfl, hs_Q, hs_S, hb⟩; replace hs_a := hs_a.via hb; replace hs_b := hs_b.via hb; replace hs_h := hs_h.via hb; replace hs_x := hs_x.via hb; replace hs_y := hs_y.via hb; replace ec := ec.via hb; replace hBB := hBB.trans (hb.mono hBB.size); replace zz := zz.via hb; clear z0 z1 z2 z3 hb; have o_Q := (OL.newg (neg := decide (dqO r < 0)) hs_Q 26 rfl).via ((Below.refl _ _).alloc (Nat.le_refl _) (.cells #[.bool (decide (drO r < 0)), .slice A_S n_S c_S] 26)); have o_S := OL.newg (neg := decide (drO r < 0)) (g := w6.heap.size + 1) (hs_S.via ((Below.refl _ _).alloc (Nat.le_refl _) (.cells #[.bool (decide (dqO r < 0)), .slice A_Q n_Q c_Q] 26))) 26 (by simp); have bw : Below w6.heap.size w6 ((w6.alloc (.cells #[.bool (decide (dqO r < 0)), .slice A_Q n_Q c_Q] 26)).alloc (.cells #[.bool (decide (drO r < 0)), .slice A_S n_S c_S] 26)) := ((Below.refl _ _).alloc (Nat.le_refl _) _).alloc (by simp) _; replace hs_a := hs_a.via bw; replace hs_b := hs_b.via bw; replace hs_h := hs_h.via bw; replace hs_x := hs_x.via bw; replace hs_y := hs_y.via bw; replace ec := ec.via bw; replace hBB := hBB.trans (bw.mono hBB.size); replace zz := zz.via bw; clear bw hs_Q hs_S; have z0 := zz.cell (i := 0) rfl; have z1 := zz.cell (i := 1) rfl; have z2 := zz.cell (i := 2) rfl; have z3 := zz.cell (i := 3) rfl))
        | (clear tk1; go_at_call 10; go_loud ((with_reducible refine (RE.out _ hs_b hs_a).mono ?_); rintro e w7 ⟨A_P, n_P, c_P, A_T, n_T, c_T, rfl, hs_P, hs_T, hb⟩; replace hs_a := hs_a.via hb; replace hs_b := hs_b.via hb; replace hs_h := hs_h.via hb; replace hs_x := hs_x.via hb; replace hs_y := hs_y.via hb; replace ec := ec.via hb; replace hBB := hBB.trans (hb.mono hBB.size); replace zz := zz.via hb; replace o_Q := o_Q.via hb; replace o_S := o_S.via hb; clear z0 z1 z2 z3 hb; have o_P := (OL.newg (neg := decide (dqO r < 0)) hs_P 26 rfl).via ((Below.refl _ _).alloc (Nat.le_refl _) (.cells #[.bool (decide (drO r < 0)), .slice A_T n_T c_T] 26)); have o_T := OL.newg (neg := decide (drO r < 0)) (g := w7.heap.size + 1) (hs_T.via ((Below.refl _ _).alloc (Nat.le_refl _) (.cells #[.bool (decide (dqO r < 0)), .slice A_P n_P c_P] 26))) 26 (by simp); have bw : Below w7.heap.size w7 ((w7.alloc (.cells #[.bool (decide (dqO r < 0)), .slice A_P n_P c_P] 26)).alloc (.cells #[.bool (decide (drO r < 0)), .slice A_T n_T c_T] 26)) := ((Below.refl _ _).alloc (Nat.le_refl _) _).alloc (by simp) _; replace hs_a := hs_a.via bw; replace hs_b := hs_b.via bw; replace hs_h := hs_h.via bw; replace hs_x := hs_x.via bw; replace hs_y := hs_y.via bw; replace ec := ec.via bw; replace hBB := hBB.trans (bw.mono hBB.size); replace zz := zz.via bw; replace o_Q := o_Q.via bw; replace o_S := o_S.via bw; clear bw hs_P hs_T; have z0 := zz.cell (i := 0) rfl; have z1 := zz.cell (i := 1) rfl; have z2 := zz.cell (i := 2) rfl; have z3 := zz.cell (i := 3) rfl))
        | (clear tk2; go_at_call 11; go_loud ((with_reducible refine (RG.out _ hs_b hs_a).mono ?_); rintro e w8 ⟨A_G, n_G, c_G, rfl, hs_G, hb⟩; replace hs_a := hs_a.via hb; replace hs_b := hs_b.via hb; replace hs_h := hs_h.via hb; replace hs_x := hs_x.via hb; replace hs_y := hs_y.via hb; replace ec := ec.via hb; replace hBB := hBB.trans (hb.mono hBB.size); replace zz := zz.via hb; replace o_Q := o_Q.via hb; replace o_S := o_S.via hb; replace o_P := o_P.via hb; replace o_T := o_T.via hb; clear z0 z1 z2 z3 hb; have o_G := OL.newg (neg := ngO s) hs_G 26 rfl; have bw := (Below.refl w8.heap.size w8).alloc (Nat.le_refl _) (.cells #[.bool (ngO s), .slice A_G n_G c_G] 26); replace hs_a := hs_a.via bw; replace hs_b := hs_b.via bw; replace hs_h := hs_h.via bw; replace hs_x := hs_x.via bw; replace hs_y := hs_y.via bw; replace ec := ec.via bw; replace hBB := hBB.trans (bw.mono hBB.size); replace zz := zz.via bw; replace o_Q := o_Q.via bw; replace o_S := o_S.via bw; replace o_P := o_P.via bw; replace o_T := o_T.via bw; clear bw hs_G; have z0 := zz.cell (i := 0) rfl; have z1 := zz.cell (i := 1) rfl; have z2 := zz.cell (i := 2) rfl; have z3 := zz.cell (i := 3) rfl))
        | (clear tk3; go_at_call 12; go_loud ((with_reducible refine (RH.out _ hs_b hs_a).mono ?_); rintro e w9 ⟨A_H, n_H, c_H, rfl, hs_H, hb⟩; replace hs_a := hs_a.via hb; replace hs_b := hs_b.via hb; replace hs_h := hs_h.via hb; replace hs_x := hs_x.via hb; replace hs_y := hs_y.via hb; replace ec := ec.via hb; replace hBB := hBB.trans (hb.mono hBB.size); replace zz := zz.via hb; replace o_Q := o_Q.via hb; replace o_S := o_S.via hb; replace o_P := o_P.via hb; replace o_T := o_T.via hb; replace o_G := o_G.via hb; clear z0 z1 z2 z3 hb; have o_H := OL.newg (neg := ngO s) hs_H 26 rfl; have bw := (Below.refl w9.heap.size w9).alloc (Nat.le_refl _) (.cells #[.bool (ngO s), .slice A_H n_H c_H] 26); replace hs_a := hs_a.via bw; replace hs_b := hs_b.via bw; replace hs_h := hs_h.via bw; replace hs_x := hs_x.via bw; replace hs_y := hs_y.via bw; replace ec := ec.via bw; replace hBB := hBB.trans (bw.mono hBB.size); replace zz := zz.via bw; replace o_Q := o_Q.via bw; replace o_S := o_S.via bw; replace o_P := o_P.via bw; replace o_T := o_T.via bw; replace o_G := o_G.via bw; clear bw hs_H; have z0 := zz.cell (i := 0) rfl; have z1 := zz.cell (i := 1) rfl; have z2 := zz.cell (i := 2) rfl; have z3 := zz.cell (i := 3) rfl; obtain ⟨Q_0, Q_1, hs_Q, Q_z⟩ := id o_Q; obtain ⟨S_0, S_1, hs_S, S_z⟩ := id o_S; obtain ⟨P_0, P_1, hs_P, P_z⟩ := id o_P; obtain ⟨T_0, T_1, hs_T, T_z⟩ := id o_T; obtain ⟨G_0, G_1, hs_G, G_z⟩ := id o_G; obtain ⟨H_0, H_1, hs_H, H_z⟩ := id o_H))
        | (clear tk4; go_at_call 13; go_loud ((with_reducible refine (same_one (decide (dqO r < 0)) hs_Q hs_P).mono ?_); rintro e w14 ⟨rfl, hb⟩; replace hs_a := hs_a.via hb; replace hs_b := hs_b.via hb; replace hs_h := hs_h.via hb; replace hs_x := hs_x.via hb; replace hs_y := hs_y.via hb; replace ec := ec.via hb; replace hBB := hBB.trans (hb.mono hBB.size); replace zz := zz.via hb; replace o_Q := o_Q.via hb; replace o_S := o_S.via hb; replace o_P := o_P.via hb; replace o_T := o_T.via hb; replace o_G := o_G.via hb; replace o_H := o_H.via hb; clear Q_0 Q_1 hs_Q Q_z S_0 S_1 hs_S S_z P_0 P_1 hs_P P_z T_0 T_1 hs_T T_z G_0 G_1 hs_G G_z H_0 H_1 hs_H H_z hb; obtain ⟨Q_0, Q_1, hs_Q, Q_z⟩ := id o_Q; obtain ⟨S_0, S_1, hs_S, S_z⟩ := id o_S; obtain ⟨P_0, P_1, hs_P, P_z⟩ := id o_P; obtain ⟨T_0, T_1, hs_T, T_z⟩ := id o_T; obtain ⟨G_0, G_1, hs_G, G_z⟩ := id o_G; obtain ⟨H_0, H_1, hs_H, H_z⟩ := id o_H))
        | (clear tk5; go_at_call 13; go_loud ((with_reducible refine (same_one (decide (drO r < 0)) hs_S hs_T).mono ?_); rintro e w15 ⟨rfl, hb⟩; replace hs_a := hs_a.via hb; replace hs_b := hs_b.via hb; replace hs_h := hs_h.via hb; replace hs_x := hs_x.via hb; replace hs_y := hs_y.via hb; replace ec := ec.via hb; replace hBB := hBB.trans (hb.mono hBB.size); replace zz := zz.via hb; replace o_Q := o_Q.via hb; replace o_S := o_S.via hb; replace o_P := o_P.via hb; replace o_T := o_T.via hb; replace o_G := o_G.via hb; replace o_H := o_H.via hb; clear Q_0 Q_1 hs_Q Q_z S_0 S_1 hs_S S_z P_0 P_1 hs_P P_z T_0 T_1 hs_T T_z G_0 G_1 hs_G G_z H_0 H_1 hs_H H_z hb; obtain ⟨Q_0, Q_1, hs_Q, Q_z⟩ := id o_Q; obtain ⟨S_0, S_1, hs_S, S_z⟩ := id o_S; obtain ⟨P_0, P_1, hs_P, P_z⟩ := id o_P; obtain ⟨T_0, T_1, hs_T, T_z⟩ := id o_T; obtain ⟨G_0, G_1, hs_G, G_z⟩ := id o_G; obtain ⟨H_0, H_1, hs_H, H_z⟩ := id o_H))
        | (clear tk6; go_at_call 13; go_loud ((with_reducible refine (same_one (ngO s) hs_G hs_H).mono ?_); rintro e w16 ⟨rfl, hb⟩; replace hs_a := hs_a.via hb; replace hs_b := hs_b.via hb; replace hs_h := hs_h.via hb; replace hs_x := hs_x.via hb; replace hs_y := hs_y.via hb; replace ec := ec.via hb; replace hBB := hBB.trans (hb.mono hBB.size); replace zz := zz.via hb; replace o_Q := o_Q.via hb; replace o_S := o_S.via hb; replace o_P := o_P.via hb; replace o_T := o_T.via hb; replace o_G := o_G.via hb; replace o_H := o_H.via hb; clear Q_0 Q_1 hs_Q Q_z S_0 S_1 hs_S S_z P_0 P_1 hs_P P_z T_0 T_1 hs_T T_z G_0 G_1 hs_G G_z H_0 H_1 hs_H H_z hb; obtain ⟨Q_0, Q_1, hs_Q, Q_z⟩ := id o_Q; obtain ⟨S_0, S_1, hs_S, S_z⟩ := id o_S; obtain ⟨P_0, P_1, hs_P, P_z⟩ := id o_P; obtain ⟨T_0, T_1, hs_T, T_z⟩ := id o_T; obtain ⟨G_0, G_1, hs_G, G_z⟩ := id o_G; obtain ⟨H_0, H_1, hs_H, H_z⟩ := id o_H))
        | fail "no arm")
      go_roundw
      case rel => exact ⟨2, by omega, rfl, Lib.hid ⟨hBB, ec, hs_a, hs_b, hs_h, hs_x, hs_y⟩⟩
      case measure => simp [intOf]
    · skip
      have x0 := ec.cell (i := 8) (u := .bool ga) (by rw [← HC.out]; rfl)
      have x1 := ec.cell (i := 9) (u := .slice A_h n_h c_h) (by rw [← HC.out]; rfl)
      have x2 := ec.cell (i := 10) (u := .bool gb) (by rw [← HC.out]; rfl)
      have x3 := ec.cell (i := 11) (u := .slice A_b n_b c_b) (by rw [← HC.out]; rfl)
      have zz := EC.new wr #[.bool ga, .slice A_h n_h c_h, .bool gb, .slice A_b n_b c_b]
      have bw := (Below.refl wr.heap.size wr).alloc (Nat.le_refl _) (.cells #[.bool ga, .slice A_h n_h c_h, .bool gb, .slice A_b n_b c_b] 27)
      replace hs_a := hs_a.via bw
      replace hs_b := hs_b.via bw
      replace hs_h := hs_h.via bw
      replace hs_x := hs_x.via bw
      replace hs_y := hs_y.via bw
      replace ec := ec.via bw
      replace hBB := hBB.trans (bw.mono hBB.size)
      clear bw
      have z0 := zz.cell (i := 0) rfl
      have z1 := zz.cell (i := 1) rfl
      have z2 := zz.cell (i := 2) rfl
      have z3 := zz.cell (i := 3) rfl
      have RD := Lib.hid (fun (W : World) (h : Sl W W.heap.size A_h n_h c_h lh) (h2 : Sl W W.heap.size A_b n_b c_b (digs vb)) => div_any ga gb h h2 (Nat.le_refl _))
      have RE := Lib.hid (fun (W : World) (h : Sl W W.heap.size A_h n_h c_h lh) (h2 : Sl W W.heap.size A_b n_b c_b (digs vb)) => refdiv_any ga gb h h2 (Nat.le_refl _))
      have RG := Lib.hid (fun (W : World) (h : Sl W W.heap.size A_h n_h c_h lh) (h2 : Sl W W.heap.size A_b n_b c_b (digs vb)) => gcd_any ga gb h h2 (Nat.le_refl _))
      have RH := Lib.hid (fun (W : World) (h : Sl W W.heap.size A_h n_h c_h lh) (h2 : Sl W W.heap.size A_b n_b c_b (digs vb)) => refgcd_any ga gb h h2 (Nat.le_refl _))
      obtain ⟨r, hr⟩ : ∃ r, divS ga lh gb (digs vb) = r := ⟨_, rfl⟩
      rw [hr] at RD RE
      obtain ⟨s, hs⟩ : ∃ r, gcdS ga lh gb (digs vb) = r := ⟨_, rfl⟩
      rw [hs] at RG RH
      clear hr hs
      have tk0 : Hid True := trivial
      have tk1 : Hid True := trivial
      have tk2 : Hid True := trivial
      have tk3 : Hid True := trivial
      have tk4 : Hid True := trivial
      have tk5 : Hid True := trivial
      have tk6 : Hid True := trivial
      go_wp2_with (first
        | (clear tk0; go_at_call 9; go_loud ((with_reducible refine (RD.out _ hs_h hs_b).mono ?_); rintro e w6 ⟨A_Q, n_Q, c_Q, A_S, n_S, c_S, rfl, hs_Q, hs_S, hb⟩; replace hs_a := hs_a.via hb; replace hs_b := hs_b.via hb; replace hs_h := hs_h.via hb; replace hs_x := hs_x.via hb; replace hs_y := hs_y.via hb; replace ec := ec.via hb; replace hBB := hBB.trans (hb.mono hBB.size); replace zz := zz.via hb; clear z0 z1 z2 z3 hb; have o_Q := (OL.newg (neg := decide (dqO r < 0)) hs_Q 26 rfl).via ((Below.refl _ _).alloc (Nat.le_refl _) (.cells #[.bool (decide (drO r < 0)), .slice A_S n_S c_S] 26)); have o_S := OL.newg (neg := decide (drO r < 0)) (g := w6.heap.size + 1) (hs_S.via ((Below.refl _ _).alloc (Nat.le_refl _) (.cells #[.bool (decide (dqO r < 0)), .slice A_Q n_Q c_Q] 26))) 26 (by simp); have bw : Below w6.heap.size w6 ((w6.alloc (.cells #[.bool (decide (dqO r < 0)), .slice A_Q n_Q c_Q] 26)).alloc (.cells #[.bool (decide (drO r < 0)), .slice A_S n_S c_S] 26)) := ((Below.refl _ _).alloc (Nat.le_refl _) _).alloc (by simp) _; replace hs_a := hs_a.via bw; replace hs_b := hs_b.via bw; replace hs_h := hs_h.via bw; replace hs_x := hs_x.via bw; replace hs_y := hs_y.via bw; replace ec := ec.via bw; replace hBB := hBB.trans (bw.mono hBB.size); replace zz := zz.via bw; clear bw hs_Q hs_S; have z0 := zz.cell (i := 0) rfl; have z1 := zz.cell (i := 1) rfl; have z2 := zz.cell (i := 2) rfl; have z3 := zz.cell (i := 3) rfl))
        | (clear tk1; go_at_call 10; go_loud ((with_reducible refine (RE.out _ hs_h hs_b).mono ?_); rintro e w7 ⟨A_P, n_P, c_P, A_T, n_T, c_T, rfl, hs_P, hs_T, hb⟩; replace hs_a := hs_a.via hb; replace hs_b := hs_b.via hb; replace hs_h := hs_h.via hb; replace hs_x := hs_x.via hb; replace hs_y := hs_y.via hb; replace ec := ec.via hb; replace hBB := hBB.trans (hb.mono hBB.size); replace zz := zz.via hb; replace o_Q := o_Q.via hb; replace o_S := o_S.via hb; clear z0 z1 z2 z3 hb; have o_P := (OL.newg (neg := decide (dqO r < 0)) hs_P 26 rfl).via ((Below.refl _ _).alloc (Nat.le_refl _) (.cells #[.bool (decide (drO r < 0)), .slice A_T n_T c_T] 26)); have o_T := OL.newg (neg := decide (drO r < 0)) (g := w7.heap.size + 1) (hs_T.via ((Below.refl _ _).alloc (Nat.le_refl _) (.cells #[.bool (decide (dqO r < 0)), .slice A_P n_P c_P] 26))) 26 (by simp); have bw : Below w7.heap.size w7 ((w7.alloc (.cells #[.bool (decide (dqO r < 0)), .slice A_P n_P c_P] 26)).alloc (.cells #[.bool (decide (drO r < 0)), .slice A_T n_T c_T] 26)) := ((Below.refl _ _).alloc (Nat.le_refl _) _).alloc (by simp) _; replace hs_a := hs_a.via bw; replace hs_b := hs_b.via bw; replace hs_h := hs_h.via bw; replace hs_x := hs_x.via bw; replace hs_y := hs_y.via bw; replace ec := ec.via bw; replace hBB := hBB.trans (bw.mono hBB.size); replace zz := zz.via bw; replace o_Q := o_Q.via bw; replace o_S := o_S.via bw; clear bw hs_P hs_T; have z0 := zz.cell (i := 0) rfl; have z1 := zz.cell (i := 1) rfl; have z2 := zz.cell (i := 2) rfl; have z3 := zz.cell (i := 3) rfl))
        | (clear tk2; go_at_call 11; go_loud ((with_reducible refine (RG.out _ hs_h hs_b).mono ?_); rintro e w8 ⟨A_G, n_G, c_G, rfl, hs_G, hb⟩; replace hs_a := hs_a.via hb; replace hs_b := hs_b.via hb; replace hs_h := hs_h.via hb; replace hs_x := hs_x.via hb; replace hs_y := hs_y.via hb; replace ec := ec.via hb; replace hBB := hBB.trans (hb.mono hBB.size); replace zz := zz.via hb; replace o_Q := o_Q.via hb; replace o_S := o_S.via hb; replace o_P := o_P.via hb; replace o_T := o_T.via hb; clear z0 z1 z2 z3 hb; have o_G := OL.newg (neg := ngO s) hs_G 26 rfl; have bw := (Below.refl w8.heap.size w8).alloc (Nat.le_refl _) (.cells #[.bool (ngO s), .slice A_G n_G c_G] 26); replace hs_a := hs_a.via bw; replace hs_b := hs_b.via bw; replace hs_h := hs_h.via bw; replace hs_x := hs_x.via bw; replace hs_y := hs_y.via bw; replace ec := ec.via bw; replace hBB := hBB.trans (bw.mono hBB.size); replace zz := zz.via bw; replace o_Q := o_Q.via bw; replace o_S := o_S.via bw; replace o_P := o_P.via bw; replace o_T := o_T.via bw; clear bw hs_G; have z0 := zz.cell (i := 0) rfl; have z1 := zz.cell (i := 1) rfl; have z2 := zz.cell (i := 2) rfl; have z3 := zz.cell (i := 3) rfl))
        | (clear tk3; go_at_call 12; go_loud ((with_reducible refine (RH.out _ hs_h hs_b).mono ?_); rintro e w9 ⟨A_H, n_H, c_H, rfl, hs_H, hb⟩; replace hs_a := hs_a.via hb; replace hs_b := hs_b.via hb; replace hs_h := hs_h.via hb; replace hs_x := hs_x.via hb; replace hs_y := hs_y.via hb; replace ec := ec.via hb; replace hBB := hBB.trans (hb.mono hBB.size); replace zz := zz.via hb; replace o_Q := o_Q.via hb; replace o_S := o_S.via hb; replace o_P := o_P.via hb; replace o_T := o_T.via hb; replace o_G := o_G.via hb; clear z0 z1 z2 z3 hb; have o_H := OL.newg (neg := ngO s) hs_H 26 rfl; have bw := (Below.refl w9.heap.size w9).alloc (Nat.le_refl _) (.cells #[.bool (ngO s), .slice A_H n_H c_H] 26); replace hs_a := hs_a.via bw; replace hs_b := hs_b.via bw; replace hs_h := hs_h.via bw; replace hs_x := hs_x.via bw; replace hs_y := hs_y.via bw; replace ec := ec.via bw; replace hBB := hBB.trans (bw.mono hBB.size); replace zz := zz.via bw; replace o_Q := o_Q.via bw; replace o_S := o_S.via bw; replace o_P := o_P.via bw; replace o_T := o_T.via bw; replace o_G := o_G.via bw; clear bw hs_H; have z0 := zz.cell (i := 0) rfl; have z1 := zz.cell (i := 1) rfl; have z2 := zz.cell (i := 2) rfl; have z3 := zz.cell (i := 3) rfl; obtain ⟨Q_0, Q_1, hs_Q, Q_z⟩ := id o_Q; obtain ⟨S_0, S_1, hs_S, S_z⟩ := id o_S; obtain ⟨P_0, P_1, hs_P, P_z⟩ := id o_P; obtain ⟨T_0, T_1, hs_T, T_z⟩ := id o_T; obtain ⟨G_0, G_1, hs_G, G_z⟩ := id o_G; obtain ⟨H_0, H_1, hs_H, H_z⟩ := id o_H))
        | (clear tk4; go_at_call 13; go_loud ((with_reducible refine (same_one (decide (dqO r < 0)) hs_Q hs_P).mono ?_); rintro e w14 ⟨rfl, hb⟩; replace hs_a := hs_a.via hb; replace hs_b := hs_b.via hb; replace hs_h := hs_h.via hb; replace hs_x := hs_x.via hb; replace hs_y := hs_y.via hb; replace ec := ec.via hb; replace hBB := hBB.trans (hb.mono hBB.size); replace zz := zz.via hb; replace o_Q := o_Q.via hb; replace o_S := o_S.via hb; replace o_P := o_P.via hb; replace o_T := o_T.via hb; replace o_G := o_G.via hb; replace o_H := o_H.via hb; clear Q_0 Q_1 hs_Q Q_z S_0 S_1 hs_S S_z P_0 P_1 hs_P P_z T_0 T_1 hs_T T_z G_0 G_1 hs_G G_z H_0 H_1 hs_H H_z hb; obtain ⟨Q_0, Q_1, hs_Q, Q_z⟩ := id o_Q; obtain ⟨S_0, S_1, hs_S, S_z⟩ := id o_S; obtain ⟨P_0, P_1, hs_P, P_z⟩ := id o_P; obtain ⟨T_0, T_1, hs_T, T_z⟩ := id o_T; obtain ⟨G_0, G_1, hs_G, G_z⟩ := id o_G; obtain ⟨H_0, H_1, hs_H, H_z⟩ := id o_H))
        | (clear tk5; go_at_call 13; go_loud ((with_reducible refine (same_one (decide (drO r < 0)) hs_S hs_T).mono ?_); rintro e w15 ⟨rfl, hb⟩; replace hs_a := hs_a.via hb; replace hs_b := hs_b.via hb; replace hs_h := hs_h.via hb; replace hs_x := hs_x.via hb; replace hs_y := hs_y.via hb; replace ec := ec.via hb; replace hBB := hBB.trans (hb.mono hBB.size); replace zz := zz.via hb; replace o_Q := o_Q.via hb; replace o_S := o_S.via hb; replace o_P := o_P.via hb; replace o_T := o_T.via hb; replace o_G := o_G.via hb; replace o_H := o_H.via hb; clear Q_0 Q_1 hs_Q Q_z S_0 S_1 hs_S S_z P_0 P_1 hs_P P_z T_0 T_1 hs_T T_z G_0 G_1 hs_G G_z H_0 H_1 hs_H H_z hb; obtain ⟨Q_0, Q_1, hs_Q, Q_z⟩ := id o_Q; obtain ⟨S_0, S_1, hs_S, S_z⟩ := id o_S; obtain ⟨P_0, P_1, hs_P, P_z⟩ := id o_P; obtain ⟨T_0, T_1, hs_T, T_z⟩ := id o_T; obtain ⟨G_0, G_1, hs_G, G_z⟩ := id o_G; obtain ⟨H_0, H_1, hs_H, H_z⟩ := id o_H))
        | (clear tk6; go_at_call 13; go_loud ((with_reducible refine (same_one (ngO s) hs_G hs_H).mono ?_); rintro e w16 ⟨rfl, hb⟩; replace hs_a := hs_a.via hb; replace hs_b := hs_b.via hb; replace hs_h := hs_h.via hb; replace hs_x := hs_x.via hb; replace hs_y := hs_y.via hb; replace ec := ec.via hb; replace hBB := hBB.trans (hb.mono hBB.size); replace zz := zz.via hb; replace o_Q := o_Q.via hb; replace o_S := o_S.via hb; replace o_P := o_P.via hb; replace o_T := o_T.via hb; replace o_G := o_G.via hb; replace o_H := o_H.via hb; clear Q_0 Q_1 hs_Q Q_z S_0 S_1 hs_S S_z P_0 P_1 hs_P P_z T_0 T_1 hs_T T_z G_0 G_1 hs_G G_z H_0 H_1 hs_H H_z hb; obtain ⟨Q_0, Q_1, hs_Q, Q_z⟩ := id o_Q; obtain ⟨S_0, S_1, hs_S, S_z⟩ := id o_S; obtain ⟨P_0, P_1, hs_P, P_z⟩ := id o_P; obtain ⟨T_0, T_1, hs_T, T_z⟩ := id o_T; obtain ⟨G_0, G_1, hs_G, G_z⟩ := id o_G; obtain ⟨H_0, H_1, hs_H, H_z⟩ := id o_H))
        | fail "no arm")
      go_roundw
      case rel => exact ⟨3, by omega, rfl, Lib.hid ⟨hBB, ec, hs_a, hs_b, hs_h, hs_x, hs_y⟩⟩
      case measure => simp [intOf]
    · skip
      have x0 := ec.cell (i := 12) (u := .bool g1) (by rw [← HC.out]; rfl)
      have x1 := ec.cell (i := 13) (u := .slice A_x n_x c_x) (by rw [← HC.out]; rfl)
      have x2 := ec.cell (i := 14) (u := .bool g2) (by rw [← HC.out]; rfl)
      have x3 := ec.cell (i := 15) (u := .slice A_y n_y c_y) (by rw [← HC.out]; rfl)
      have zz := EC.new wr #[.bool g1, .slice A_x n_x c_x, .bool g2, .slice A_y n_y c_y]
      have bw := (Below.refl wr.heap.size wr).alloc (Nat.le_refl _) (.cells #[.bool g1, .slice A_x n_x c_x, .bool g2, .slice A_y n_y c_y] 27)
      replace hs_a := hs_a.via bw
      replace hs_b := hs_b.via bw
      replace hs_h := hs_h.via bw
      replace hs_x := hs_x.via bw
      replace hs_y := hs_y.via bw
      replace ec := ec.via bw
      replace hBB := hBB.trans (bw.mono hBB.size)
      clear bw
      have z0 := zz.cell (i := 0) rfl
      have z1 := zz.cell (i := 1) rfl
      have z2 := zz.cell (i := 2) rfl
      have z3 := zz.cell (i := 3) rfl
      have RD := Lib.hid (fun (W : World) (h : Sl W W.heap.size A_x n_x c_x (l.take 20)) (h2 : Sl W W.heap.size A_y n_y c_y (m.take 20)) => div_any g1 g2 h h2 (Nat.le_refl _))
      have RE := Lib.hid (fun (W : World) (h : Sl W W.heap.size A_x n_x c_x (l.take 20)) (h2 : Sl W W.heap.size A_y n_y c_y (m.take 20)) => refdiv_any g1 g2 h h2 (Nat.le_refl _))
      have RG := Lib.hid (fun (W : World) (h : Sl W W.heap.size A_x n_x c_x (l.take 20)) (h2 : Sl W W.heap.size A_y n_y c_y (m.take 20)) => gcd_any g1 g2 h h2 (Nat.le_refl _))
      have RH := Lib.hid (fun (W : World) (h : Sl W W.heap.size A_x n_x c_x (l.take 20)) (h2 : Sl W W.heap.size A_y n_y c_y (m.take 20)) => refgcd_any g1 g2 h h2 (Nat.le_refl _))
      obtain ⟨r, hr⟩ : ∃ r, divS g1 (l.take 20) g2 (m.take 20) = r := ⟨_, rfl⟩
      rw [hr] at RD RE
      obtain ⟨s, hs⟩ : ∃ r, gcdS g1 (l.take 20) g2 (m.take 20) = r := ⟨_, rfl⟩
      rw [hs] at RG RH
      clear hr hs
      have tk0 : Hid True := trivial
      have tk1 : Hid True := trivial
      have tk2 : Hid True := trivial
      have tk3 : Hid True := trivial
      have tk4 : Hid True := trivial
      have tk5 : Hid True := trivial
      have tk6 : Hid True := trivial
      go_wp2_with (first
        | (clear tk0; go_at_call 9; go_loud ((with_reducible refine (RD.out _ hs_x hs_y).mono ?_); rintro e w6 ⟨A_Q, n_Q, c_Q, A_S, n_S, c_S, rfl, hs_Q, hs_S, hb⟩; replace hs_a := hs_a.via hb; replace hs_b := hs_b.via hb; replace hs_h := hs_h.via hb; replace hs_x := hs_x.via hb; replace hs_y := hs_y.via hb; replace ec := ec.via hb; replace hBB := hBB.trans (hb.mono hBB.size); replace zz := zz.via hb; clear z0 z1 z2 z3 hb; have o_Q := (OL.newg (neg := decide (dqO r < 0)) hs_Q 26 rfl).via ((Below.refl _ _).alloc (Nat.le_refl _) (.cells #[.bool (decide (drO r < 0)), .slice A_S n_S c_S] 26)); have o_S := OL.newg (neg := decide (drO r < 0)) (g := w6.heap.size + 1) (hs_S.via ((Below.refl _ _).alloc (Nat.le_refl _) (.cells #[.bool (decide (dqO r < 0)), .slice A_Q n_Q c_Q] 26))) 26 (by simp); have bw : Below w6.heap.size w6 ((w6.alloc (.cells #[.bool (decide (dqO r < 0)), .slice A_Q n_Q c_Q] 26)).alloc (.cells #[.bool (decide (drO r < 0)), .slice A_S n_S c_S] 26)) := ((Below.refl _ _).alloc (Nat.le_refl _) _).alloc (by simp) _; replace hs_a := hs_a.via bw; replace hs_b := hs_b.via bw; replace hs_h := hs_h.via bw; replace hs_x := hs_x.via bw; replace hs_y := hs_y.via bw; replace ec := ec.via bw; replace hBB := hBB.trans (bw.mono hBB.size); replace zz := zz.via bw; clear bw hs_Q hs_S; have z0 := zz.cell (i := 0) rfl; have z1 := zz.cell (i := 1) rfl; have z2 := zz.cell (i := 2) rfl; have z3 := zz.cell (i := 3) rfl))
        | (clear tk1; go_at_call 10; go_loud ((with_reducible refine (RE.out _ hs_x hs_y).mono ?_); rintro e w7 ⟨A_P, n_P, c_P, A_T, n_T, c_T, rfl, hs_P, hs_T, hb⟩; replace hs_a := hs_a.via hb; replace hs_b := hs_b.via hb; replace hs_h := hs_h.via hb; replace hs_x := hs_x.via hb; replace hs_y := hs_y.via hb; replace ec := ec.via hb; replace hBB := hBB.trans (hb.mono hBB.size); replace zz := zz.via hb; replace o_Q := o_Q.via hb; replace o_S := o_S.via hb; clear z0 z1 z2 z3 hb; have o_P := (OL.newg (neg := decide (dqO r < 0)) hs_P 26 rfl).via ((Below.refl _ _).alloc (Nat.le_refl _) (.cells #[.bool (decide (drO r < 0)), .slice A_T n_T c_T] 26)); have o_T := OL.newg (neg := decide (drO r < 0)) (g := w7.heap.size + 1) (hs_T.via ((Below.refl _ _).alloc (Nat.le_refl _) (.cells #[.bool (decide (dqO r < 0)), .slice A_P n_P c_P] 26))) 26 (by simp); have bw : Below w7.heap.size w7 ((w7.alloc (.cells #[.bool (decide (dqO r < 0)), .slice A_P n_P c_P] 26)).alloc (.cells #[.bool (decide (drO r < 0)), .slice A_T n_T c_T] 26)) := ((Below.refl _ _).alloc (Nat.le_refl _) _).alloc (by simp) _; replace hs_a := hs_a.via bw; replace hs_b := hs_b.via bw; replace hs_h := hs_h.via bw; replace hs_x := hs_x.via bw; replace hs_y := hs_y.via bw; replace ec := ec.via bw; replace hBB := hBB.trans (bw.mono hBB.size); replace zz := zz.via bw; replace o_Q := o_Q.via bw; replace o_S := o_S.via bw; clear bw hs_P hs_T; have z0 := zz.cell (i := 0) rfl; have z1 := zz.cell (i := 1) rfl; have z2 := zz.cell (i := 2) rfl; have z3 := zz.cell (i := 3) rfl))
        | (clear tk2; go_at_call 11; go_loud ((with_reducible refine (RG.out _ hs_x hs_y).mono ?_); rintro e w8 ⟨A_G, n_G, c_G, rfl, hs_G, hb⟩; replace hs_a := hs_a.via hb; replace hs_b := hs_b.via hb; replace hs_h := hs_h.via hb; replace hs_x := hs_x.via hb; replace hs_y := hs_y.via hb; replace ec := ec.via hb; replace hBB := hBB.trans (hb.mono hBB.size); replace zz := zz.via hb; replace o_Q := o_Q.via hb; replace o_S := o_S.via hb; replace o_P := o_P.via hb; replace o_T := o_T.via hb; clear z0 z1 z2 z3 hb; have o_G := OL.newg (neg := ngO s) hs_G 26 rfl; have bw := (Below.refl w8.heap.size w8).alloc (Nat.le_refl _) (.cells #[.bool (ngO s), .slice A_G n_G c_G] 26); replace hs_a := hs_a.via bw; replace hs_b := hs_b.via bw; replace hs_h := hs_h.via bw; replace hs_x := hs_x.via bw; replace hs_y := hs_y.via bw; replace ec := ec.via bw; replace hBB := hBB.trans (bw.mono hBB.size); replace zz := zz.via bw; replace o_Q := o_Q.via bw; replace o_S := o_S.via bw; replace o_P := o_P.via bw; replace o_T := o_T.via bw; clear bw hs_G; have z0 := zz.cell (i := 0) rfl; have z1 := zz.cell (i := 1) rfl; have z2 := zz.cell (i := 2) rfl; have z3 := zz.cell (i := 3) rfl))
        | (clear tk3; go_at_call 12; go_loud ((with_reducible refine (RH.out _ hs_x hs_y).mono ?_); rintro e w9 ⟨A_H, n_H, c_H, rfl, hs_H, hb⟩; replace hs_a := hs_a.via hb; replace hs_b := hs_b.via hb; replace hs_h := hs_h.via hb; replace hs_x := hs_x.via hb; replace hs_y := hs_y.via hb; replace ec := ec.via hb; replace hBB := hBB.trans (hb.mono hBB.size); replace zz := zz.via hb; replace o_Q := o_Q.via hb; replace o_S := o_S.via hb; replace o_P := o_P.via hb; replace o_T := o_T.via hb; replace o_G := o_G.via hb; clear z0 z1 z2 z3 hb; have o_H := OL.newg (neg := ngO s) hs_H 26 rfl; have bw := (Below.refl w9.heap.size w9).alloc (Nat.le_refl _) (.cells #[.bool (ngO s), .slice A_H n_H c_H] 26); replace hs_a := hs_a.via bw; replace hs_b := hs_b.via bw; replace hs_h := hs_h.via bw; replace hs_x := hs_x.via bw; replace hs_y := hs_y.via bw; replace ec := ec.via bw; replace hBB := hBB.trans (bw.mono hBB.size); replace zz := zz.via bw; replace o_Q := o_Q.via bw; replace o_S := o_S.via bw; replace o_P := o_P.via bw; replace o_T := o_T.via bw; replace o_G := o_G.via bw; clear bw hs_H; have z0 := zz.cell (i := 0) rfl; have z1 := zz.cell (i := 1) rfl; have z2 := zz.cell (i := 2) rfl; have z3 := zz.cell (i := 3) rfl; obtain ⟨Q_0, Q_1, hs_Q, Q_z⟩ := id o_Q; obtain ⟨S_0, S_1, hs_S, S_z⟩ := id o_S; obtain ⟨P_0, P_1, hs_P, P_z⟩ := id o_P; obtain ⟨T_0, T_1, hs_T, T_z⟩ := id o_T; obtain ⟨G_0, G_1, hs_G, G_z⟩ := id o_G; obtain ⟨H_0, H_1, hs_H, H_z⟩ := id o_H))
        | (clear tk4; go_at_call 13; go_loud ((with_reducible refine (same_one (decide (dqO r < 0)) hs_Q hs_P).mono ?_); rintro e w14 ⟨rfl, hb⟩; replace hs_a := hs_a.via hb; replace hs_b := hs_b.via hb; replace hs_h := hs_h.via hb; replace hs_x := hs_x.via hb; replace hs_y := hs_y.via hb; replace ec := ec.via hb; replace hBB := hBB.trans (hb.mono hBB.size); replace zz := zz.via hb; replace o_Q := o_Q.via hb; replace o_S := o_S.via hb; replace o_P := o_P.via hb; replace o_T := o_T.via hb; replace o_G := o_G.via hb; replace o_H := o_H.via hb; clear Q_0 Q_1 hs_Q Q_z S_0 S_1 hs_S S_z P_0 P_1 hs_P P_z T_0 T_1 hs_T T_z G_0 G_1 hs_G G_z H_0 H_1 hs_H H_z hb; obtain ⟨Q_0, Q_1, hs_Q, Q_z⟩ := id o_Q; obtain ⟨S_0, S_1, hs_S, S_z⟩ := id o_S; obtain ⟨P_0, P_1, hs_P, P_z⟩ := id o_P; obtain ⟨T_0, T_1, hs_T, T_z⟩ := id o_T; obtain ⟨G_0, G_1, hs_G, G_z⟩ := id o_G; obtain ⟨H_0, H_1, hs_H, H_z⟩ := id o_H))
        | (clear tk5; go_at_call 13; go_loud ((with_reducible refine (same_one (decide (drO r < 0)) hs_S hs_T).mono ?_); rintro e w15 ⟨rfl, hb⟩; replace hs_a := hs_a.via hb; replace hs_b := hs_b.via hb; replace hs_h := hs_h.via hb; replace hs_x := hs_x.via hb; replace hs_y := hs_y.via hb; replace ec := ec.via hb; replace hBB := hBB.trans (hb.mono hBB.size); replace zz := zz.via hb; replace o_Q := o_Q.via hb; replace o_S := o_S.via hb; replace o_P := o_P.via hb; replace o_T := o_T.via hb; replace o_G := o_G.via hb; replace o_H := o_H.via hb; clear Q_0 Q_1 hs_Q Q_z S_0 S_1 hs_S S_z P_0 P_1 hs_P P_z T_0 T_1 hs_T T_z G_0 G_1 hs_G G_z H_0 H_1 hs_H H_z hb; obtain ⟨Q_0, Q_1, hs_Q, Q_z⟩ := id o_Q; obtain ⟨S_0, S_1, hs_S, S_z⟩ := id o_S; obtain ⟨P_0, P_1, hs_P, P_z⟩ := id o_P; obtain ⟨T_0, T_1, hs_T, T_z⟩ := id o_T; obtain ⟨G_0, G_1, hs_G, G_z⟩ := id o_G; obtain ⟨H_0, H_1, hs_H, H_z⟩ := id o_H))
        | (clear tk6; go_at_call 13; go_loud ((with_reducible refine (same_one (ngO s) hs_G hs_H).mono ?_); rintro e w16 ⟨rfl, hb⟩; replace hs_a := hs_a.via hb; replace hs_b := hs_b.via hb; replace hs_h := hs_h.via hb; replace hs_x := hs_x.via hb; replace hs_y := hs_y.via hb; replace ec := ec.via hb; replace hBB := hBB.trans (hb.mono hBB.size); replace zz := zz.via hb; replace o_Q := o_Q.via hb; replace o_S := o_S.via hb; replace o_P := o_P.via hb; replace o_T := o_T.via hb; replace o_G := o_G.via hb; replace o_H := o_H.via hb; clear Q_0 Q_1 hs_Q Q_z S_0 S_1 hs_S S_z P_0 P_1 hs_P P_z T_0 T_1 hs_T T_z G_0 G_1 hs_G G_z H_0 H_1 hs_H H_z hb; obtain ⟨Q_0, Q_1, hs_Q, Q_z⟩ := id o_Q; obtain ⟨S_0, S_1, hs_S, S_z⟩ := id o_S; obtain ⟨P_0, P_1, hs_P, P_z⟩ := id o_P; obtain ⟨T_0, T_1, hs_T, T_z⟩ := id o_T; obtain ⟨G_0, G_1, hs_G, G_z⟩ := id o_G; obtain ⟨H_0, H_1, hs_H, H_z⟩ := id o_H))
        | fail "no arm")
      go_roundw
      case rel => exact ⟨4, by omega, rfl, Lib.hid ⟨hBB, ec, hs_a, hs_b, hs_h, hs_x, hs_y⟩⟩
      case measure => simp [intOf]
    · skip
      have x0 := ec.cell (i := 16) (u := .bool g1) (by rw [← HC.out]; rfl)
      have x1 := ec.cell (i := 17) (u := .slice A_x n_x c_x) (by rw [← HC.out]; rfl)
      have x2 := ec.cell (i := 18) (u := .bool gb) (by rw [← HC.out]; rfl)
      have x3 := ec.cell (i := 19) (u := .slice A_b n_b c_b) (by rw [← HC.out]; rfl)
      have zz := EC.new wr #[.bool g1, .slice A_x n_x c_x, .bool gb, .slice A_b n_b c_b]
      have bw := (Below.refl wr.heap.size wr).alloc (Nat.le_refl _) (.cells #[.bool g1, .slice A_x n_x c_x, .bool gb, .slice A_b n_b c_b] 27)
      replace hs_a := hs_a.via bw
      replace hs_b := hs_b.via bw
      replace hs_h := hs_h.via bw
      replace hs_x := hs_x.via bw
      replace hs_y := hs_y.via bw
      replace ec := ec.via bw
      replace hBB := hBB.trans (bw.mono hBB.size)
      clear bw
      have z0 := zz.cell (i := 0) rfl
      have z1 := zz.cell (i := 1) rfl
      have z2 := zz.cell (i := 2) rfl
      have z3 := zz.cell (i := 3) rfl
      have RD := Lib.hid (fun (W : World) (h : Sl W W.heap.size A_x n_x c_x (l.take 20)) (h2 : Sl W W.heap.size A_b n_b c_b (digs vb)) => div_any g1 gb h h2 (Nat.le_refl _))
      have RE := Lib.hid (fun (W : World) (h : Sl W W.heap.size A_x n_x c_x (l.take 20)) (h2 : Sl W W.heap.size A_b n_b c_b (digs vb)) => refdiv_any g1 gb h h2 (Nat.le_refl _))
      have RG := Lib.hid (fun (W : World) (h : Sl W W.heap.size A_x n_x c_x (l.take 20)) (h2 : Sl W W.heap.size A_b n_b c_b (digs vb)) => gcd_any g1 gb h h2 (Nat.le_refl _))
      have RH := Lib.hid (fun (W : World) (h : Sl W W.heap.size A_x n_x c_x (l.take 20)) (h2 : Sl W W.heap.size A_b n_b c_b (digs vb)) => refgcd_any g1 gb h h2 (Nat.le_refl _))
      obtain ⟨r, hr⟩ : ∃ r, divS g1 (l.take 20) gb (digs vb) = r := ⟨_, rfl⟩
      rw [hr] at RD RE
      obtain ⟨s, hs⟩ : ∃ r, gcdS g1 (l.take 20) gb (digs vb) = r := ⟨_, rfl⟩
      rw [hs] at RG RH
      clear hr hs
      have tk0 : Hid True := trivial
      have tk1 : Hid True := trivial
      have tk2 : Hid True := trivial
      have tk3 : Hid True := trivial
      have tk4 : Hid True := trivial
      have tk5 : Hid True := trivial
      have tk6 : Hid True := trivial
      go_wp2_with (first
        | (clear tk0; go_at_call 9; go_loud ((with_reducible refine (RD.out _ hs_x hs_b).mono ?_); rintro e w6 ⟨A_Q, n_Q, c_Q, A_S, n_S, c_S, rfl, hs_Q, hs_S, hb⟩; replace hs_a := hs_a.via hb; replace hs_b := hs_b.via hb; replace hs_h := hs_h.via hb; replace hs_x := hs_x.via hb; replace hs_y := hs_y.via hb; replace ec := ec.via hb; replace hBB := hBB.trans (hb.mono hBB.size); replace zz := zz.via hb; clear z0 z1 z2 z3 hb; have o_Q := (OL.newg (neg := decide (dqO r < 0)) hs_Q 26 rfl).via ((Below.refl _ _).alloc (Nat.le_refl _) (.cells #[.bool (decide (drO r < 0)), .slice A_S n_S c_S] 26)); have o_S := OL.newg (neg := decide (drO r < 0)) (g := w6.heap.size + 1) (hs_S.via ((Below.refl _ _).alloc (Nat.le_refl _) (.cells #[.bool (decide (dqO r < 0)), .slice A_Q n_Q c_Q] 26))) 26 (by simp); have bw : Below w6.heap.size w6 ((w6.alloc (.cells #[.bool (decide (dqO r < 0)), .slice A_Q n_Q c_Q] 26)).alloc (.cells #[.bool (decide (drO r < 0)), .slice A_S n_S c_S] 26)) := ((Below.refl _ _).alloc (Nat.le_refl _) _).alloc (by simp) _; replace hs_a := hs_a.via bw; replace hs_b := hs_b.via bw; replace hs_h := hs_h.via bw; replace hs_x := hs_x.via bw; replace hs_y := hs_y.via bw; replace ec := ec.via bw; replace hBB := hBB.trans (bw.mono hBB.size); replace zz := zz.via bw; clear bw hs_Q hs_S; have z0 := zz.cell (i := 0) rfl; have z1 := zz.cell (i := 1) rfl; have z2 := zz.cell (i := 2) rfl; have z3 := zz.cell (i := 3) rfl))
        | (clear tk1; go_at_call 10; go_loud ((with_reducible refine (RE.out _ hs_x hs_b).mono ?_); rintro e w7 ⟨A_P, n_P, c_P, A_T, n_T, c_T, rfl, hs_P, hs_T, hb⟩; replace hs_a := hs_a.via hb; replace hs_b := hs_b.via hb; replace hs_h := hs_h.via hb; replace hs_x := hs_x.via hb; replace hs_y := hs_y.via hb; replace ec := ec.via hb; replace hBB := hBB.trans (hb.mono hBB.size); replace zz := zz.via hb; replace o_Q := o_Q.via hb; replace o_S := o_S.via hb; clear z0 z1 z2 z3 hb; have o_P := (OL.newg (neg := decide (dqO r < 0)) hs_P 26 rfl).via ((Below.refl _ _).alloc (Nat.le_refl _) (.cells #[.bool (decide (drO r < 0)), .slice A_T n_T c_T] 26)); have o_T := OL.newg (neg := decide (drO r < 0)) (g := w7.heap.size + 1) (hs_T.via ((Below.refl _ _).alloc (Nat.le_refl _) (.cells #[.bool (decide (dqO r < 0)), .slice A_P n_P c_P] 26))) 26 (by simp); have bw : Below w7.heap.size w7 ((w7.alloc (.cells #[.bool (decide (dqO r < 0)), .slice A_P n_P c_P] 26)).alloc (.cells #[.bool (decide (drO r < 0)), .slice A_T n_T c_T] 26)) := ((Below.refl _ _).alloc (Nat.le_refl _) _).alloc (by simp) _; replace hs_a := hs_a.via bw; replace hs_b := hs_b.via bw; replace hs_h := hs_h.via bw; replace hs_x := hs_x.via bw; replace hs_y := hs_y.via bw; replace ec := ec.via bw; replace hBB := hBB.trans (bw.mono hBB.size); replace zz := zz.via bw; replace o_Q := o_Q.via bw; replace o_S := o_S.via bw; clear bw hs_P hs_T; have z0 := zz.cell (i := 0) rfl; have z1 := zz.cell (i := 1) rfl; have z2 := zz.cell (i := 2) rfl; have z3 := zz.cell (i := 3) rfl))
        | (clear tk2; go_at_call 11; go_loud ((with_reducible refine (RG.out _ hs_x hs_b).mono ?_); rintro e w8 ⟨A_G, n_G, c_G, rfl, hs_G, hb⟩; replace hs_a := hs_a.via hb; replace hs_b := hs_b.via hb; replace hs_h := hs_h.via hb; replace hs_x := hs_x.via hb; replace hs_y := hs_y.via hb; replace ec := ec.via hb; replace hBB := hBB.trans (hb.mono hBB.size); replace zz := zz.via hb; replace o_Q := o_Q.via hb; replace o_S := o_S.via hb; replace o_P := o_P.via hb; replace o_T := o_T.via hb; clear z0 z1 z2 z3 hb; have o_G := OL.newg (neg := ngO s) hs_G 26 rfl; have bw := (Below.refl w8.heap.size w8).alloc (Nat.le_refl _) (.cells #[.bool (ngO s), .slice A_G n_G c_G] 26); replace hs_a := hs_a.via bw; replace hs_b := hs_b.via bw; replace hs_h := hs_h.via bw; replace hs_x := hs_x.via bw; replace hs_y := hs_y.via bw; replace ec := ec.via bw; replace hBB := hBB.trans (bw.mono hBB.size); replace zz := zz.via bw; replace o_Q := o_Q.via bw; replace o_S := o_S.via bw; replace o_P := o_P.via bw; replace o_T := o_T.via bw; clear bw hs_G; have z0 := zz.cell (i := 0) rfl; have z1 := zz.cell (i := 1) rfl; have z2 := zz.cell (i := 2) rfl; have z3 := zz.cell (i := 3) rfl))
        | (clear tk3; go_at_call 12; go_loud ((with_reducible refine (RH.out _ hs_x hs_b).mono ?_); rintro e w9 ⟨A_H, n_H, c_H, rfl, hs_H, hb⟩; replace hs_a := hs_a.via hb; replace hs_b := hs_b.via hb; replace hs_h := hs_h.via hb; replace hs_x := hs_x.via hb; replace hs_y := hs_y.via hb; replace ec := ec.via hb; replace hBB := hBB.trans (hb.mono hBB.size); replace zz := zz.via hb; replace o_Q := o_Q.via hb; replace o_S := o_S.via hb; replace o_P := o_P.via hb; replace o_T := o_T.via hb; replace o_G := o_G.via hb; clear z0 z1 z2 z3 hb; have o_H := OL.newg (neg := ngO s) hs_H 26 rfl; have bw := (Below.refl w9.heap.size w9).alloc (Nat.le_refl _) (.cells #[.bool (ngO s), .slice A_H n_H c_H] 26); replace hs_a := hs_a.via bw; replace hs_b := hs_b.via bw; replace hs_h := hs_h.via bw; replace hs_x := hs_x.via bw; replace hs_y := hs_y.via bw; replace ec := ec.via bw; replace hBB := hBB.trans (bw.mono hBB.size); replace zz := zz.via bw; replace o_Q := o_Q.via bw; replace o_S := o_S.via bw; replace o_P := o_P.via bw; replace o_T := o_T.via bw; replace o_G := o_G.via bw; clear bw hs_H; have z0 := zz.cell (i := 0) rfl; have z1 := zz.cell (i := 1) rfl; have z2 := zz.cell (i := 2) rfl; have z3 := zz.cell (i := 3) rfl; obtain ⟨Q_0, Q_1, hs_Q, Q_z⟩ := id o_Q; obtain ⟨S_0, S_1, hs_S, S_z⟩ := id o_S; obtain ⟨P_0, P_1, hs_P, P_z⟩ := id o_P; obtain ⟨T_0, T_1, hs_T, T_z⟩ := id o_T; obtain ⟨G_0, G_1, hs_G, G_z⟩ := id o_G; obtain ⟨H_0, H_1, hs_H, H_z⟩ := id o_H))
        | (clear tk4; go_at_call 13; go_loud ((with_reducible refine (same_one (decide (dqO r < 0)) hs_Q hs_P).mono ?_); rintro e w14 ⟨rfl, hb⟩; replace hs_a := hs_a.via hb; replace hs_b := hs_b.via hb; replace hs_h := hs_h.via hb; replace hs_x := hs_x.via hb; replace hs_y := hs_y.via hb; replace ec := ec.via hb; replace hBB := hBB.trans (hb.mono hBB.size); replace zz := zz.via hb; replace o_Q := o_Q.via hb; replace o_S := o_S.via hb; replace o_P := o_P.via hb; replace o_T := o_T.via hb; replace o_G := o_G.via hb; replace o_H := o_H.via hb; clear Q_0 Q_1 hs_Q Q_z S_0 S_1 hs_S S_z P_0 P_1 hs_P P_z T_0 T_1 hs_T T_z G_0 G_1 hs_G G_z H_0 H_1 hs_H H_z hb; obtain ⟨Q_0, Q_1, hs_Q, Q_z⟩ := id o_Q; obtain ⟨S_0, S_1, hs_S, S_z⟩ := id o_S; obtain ⟨P_0, P_1, hs_P, P_z⟩ := id o_P; obtain ⟨T_0, T_1, hs_T, T_z⟩ := id o_T; obtain ⟨G_0, G_1, hs_G, G_z⟩ := id o_G; obtain ⟨H_0, H_1, hs_H, H_z⟩ := id o_H))
        | (clear tk5; go_at_call 13; go_loud ((with_reducible refine (same_one (decide (drO r < 0)) hs_S hs_T).mono ?_); rintro e w15 ⟨rfl, hb⟩; replace hs_a := hs_a.via hb; replace hs_b := hs_b.via hb; replace hs_h := hs_h.via hb; replace hs_x := hs_x.via hb; replace hs_y := hs_y.via hb; replace ec := ec.via hb; replace hBB := hBB.trans (hb.mono hBB.size); replace zz := zz.via hb; replace o_Q := o_Q.via hb; replace o_S := o_S.via hb; replace o_P := o_P.via hb; replace o_T := o_T.via hb; replace o_G := o_G.via hb; replace o_H := o_H.via hb; clear Q_0 Q_1 hs_Q Q_z S_0 S_1 hs_S S_z P_0 P_1 hs_P P_z T_0 T_1 hs_T T_z G_0 G_1 hs_G G_z H_0 H_1 hs_H H_z hb; obtain ⟨Q_0, Q_1, hs_Q, Q_z⟩ := id o_Q; obtain ⟨S_0, S_1, hs_S, S_z⟩ := id o_S; obtain ⟨P_0, P_1, hs_P, P_z⟩ := id o_P; obtain ⟨T_0, T_1, hs_T, T_z⟩ := id o_T; obtain ⟨G_0, G_1, hs_G, G_z⟩ := id o_G; obtain ⟨H_0, H_1, hs_H, H_z⟩ := id o_H))
        | (clear tk6; go_at_call 13; go_loud ((with_reducible refine (same_one (ngO s) hs_G hs_H).mono ?_); rintro e w16 ⟨rfl, hb⟩; replace hs_a := hs_a.via hb; replace hs_b := hs_b.via hb; replace hs_h := hs_h.via hb; replace hs_x := hs_x.via hb; replace hs_y := hs_y.via hb; replace ec := ec.via hb; replace hBB := hBB.trans (hb.mono hBB.size); replace zz := zz.via hb; replace o_Q := o_Q.via hb; replace o_S := o_S.via hb; replace o_P := o_P.via hb; replace o_T := o_T.via hb; replace o_G := o_G.via hb; replace o_H := o_H.via hb; clear Q_0 Q_1 hs_Q Q_z S_0 S_1 hs_S S_z P_0 P_1 hs_P P_z T_0 T_1 hs_T T_z G_0 G_1 hs_G G_z H_0 H_1 hs_H H_z hb; obtain ⟨Q_0, Q_1, hs_Q, Q_z⟩ := id o_Q; obtain ⟨S_0, S_1, hs_S, S_z⟩ := id o_S; obtain ⟨P_0, P_1, hs_P, P_z⟩ := id o_P; obtain ⟨T_0, T_1, hs_T, T_z⟩ := id o_T; obtain ⟨G_0, G_1, hs_G, G_z⟩ := id o_G; obtain ⟨H_0, H_1, hs_H, H_z⟩ := id o_H))
        | fail "no arm")
      go_roundw
      case rel => exact ⟨5, by omega, rfl, Lib.hid ⟨hBB, ec, hs_a, hs_b, hs_h, hs_x, hs_y⟩⟩
      case measure => simp [intOf]
    · skip
      have x0 := ec.cell (i := 20) (u := .bool ga) (by rw [← HC.out]; rfl)
      have x1 := ec.cell (i := 21) (u := .slice A_h n_h c_h) (by rw [← HC.out]; rfl)
      have x2 := ec.cell (i := 22) (u := .bool g1) (by rw [← HC.out]; rfl)
      have x3 := ec.cell (i := 23) (u := .slice A_x n_x c_x) (by rw [← HC.out]; rfl)
      have zz := EC.new wr #[.bool ga, .slice A_h n_h c_h, .bool g1, .slice A_x n_x c_x]
      have bw := (Below.refl wr.heap.size wr).alloc (Nat.le_refl _) (.cells #[.bool ga, .slice A_h n_h c_h, .bool g1, .slice A_x n_x c_x] 27)
      replace hs_a := hs_a.via bw
      replace hs_b := hs_b.via bw
      replace hs_h := hs_h.via bw
      replace hs_x := hs_x.via bw
      replace hs_y := hs_y.via bw
      replace ec := ec.via bw
      replace hBB := hBB.trans (bw.mono hBB.size)
      clear bw
      have z0 := zz.cell (i := 0) rfl
      have z1 := zz.cell (i := 1) rfl
      have z2 := zz.cell (i := 2) rfl
      have z3 := zz.cell (i := 3) rfl
      have RD := Lib.hid (fun (W : World) (h : Sl W W.heap.size A_h n_h c_h lh) (h2 : Sl W W.heap.size A_x n_x c_x (l.take 20)) => div_any ga g1 h h2 (Nat.le_refl _))
      have RE := Lib.hid (fun (W : World) (h : Sl W W.heap.size A_h n_h c_h lh) (h2 : Sl W W.heap.size A_x n_x c_x (l.take 20)) => refdiv_any ga g1 h h2 (Nat.le_refl _))
      have RG := Lib.hid (fun (W : World) (h : Sl W W.heap.size A_h n_h c_h lh) (h2 : Sl W W.heap.size A_x n_x c_x (l.take 20)) => gcd_any ga g1 h h2 (Nat.le_refl _))
      have RH := Lib.hid (fun (W : World) (h : Sl W W.heap.size A_h n_h c_h lh) (h2 : Sl W W.heap.size A_x n_x c_x (l.take 20)) => refgcd_any ga g1 h h2 (Nat.le_refl _))
      obtain ⟨r, hr⟩ : ∃ r, divS ga lh g1 (l.take 20) = r := ⟨_, rfl⟩
      rw [hr] at RD RE
      obtain ⟨s, hs⟩ : ∃ r, gcdS ga lh g1 (l.take 20) = r := ⟨_, rfl⟩
      rw [hs] at RG RH
      clear hr hs
      have tk0 : Hid True := trivial
      have tk1 : Hid True := trivial
      have tk2 : Hid True := trivial
      have tk3 : Hid True := trivial
      have tk4 : Hid True := trivial
      have tk5 : Hid True := trivial
      have tk6 : Hid True := trivial
      go_wp2_with (first
        | (clear tk0; go_at_call 9; go_loud ((with_reducible refine (RD.out _ hs_h hs_x).mono ?_); rintro e w6 ⟨A_Q, n_Q, c_Q, A_S, n_S, c_S, rfl, hs_Q, hs_S, hb⟩; replace hs_a := hs_a.via hb; replace hs_b := hs_b.via hb; replace hs_h := hs_h.via hb; replace hs_x := hs_x.via hb; replace hs_y := hs_y.via hb; replace ec := ec.via hb; replace hBB := hBB.trans (hb.mono hBB.size); replace zz := zz.via hb; clear z0 z1 z2 z3 hb; have o_Q := (OL.newg (neg := decide (dqO r < 0)) hs_Q 26 rfl).via ((Below.refl _ _).alloc (Nat.le_refl _) (.cells #[.bool (decide (drO r < 0)), .slice A_S n_S c_S] 26)); have o_S := OL.newg (neg := decide (drO r < 0)) (g := w6.heap.size + 1) (hs_S.via ((Below.refl _ _).alloc (Nat.le_refl _) (.cells #[.bool (decide (dqO r < 0)), .slice A_Q n_Q c_Q] 26))) 26 (by simp); have bw : Below w6.heap.size w6 ((w6.alloc (.cells #[.bool (decide (dqO r < 0)), .slice A_Q n_Q c_Q] 26)).alloc (.cells #[.bool (decide (drO r < 0)), .slice A_S n_S c_S] 26)) := ((Below.refl _ _).alloc (Nat.le_refl _) _).alloc (by simp) _; replace hs_a := hs_a.via bw; replace hs_b := hs_b.via bw; replace hs_h := hs_h.via bw; replace hs_x := hs_x.via bw; replace hs_y := hs_y.via bw; replace ec := ec.via bw; replace hBB := hBB.trans (bw.mono hBB.size); replace zz := zz.via bw; clear bw hs_Q hs_S; have z0 := zz.cell (i := 0) rfl; have z1 := zz.cell (i := 1) rfl; have z2 := zz.cell (i := 2) rfl; have z3 := zz.cell (i := 3) rfl))
        | (clear tk1; go_at_call 10; go_loud ((with_reducible refine (RE.out _ hs_h hs_x).mono ?_); rintro e w7 ⟨A_P, n_P, c_P, A_T, n_T, c_T, rfl, hs_P, hs_T, hb⟩; replace hs_a := hs_a.via hb; replace hs_b := hs_b.via hb; replace hs_h := hs_h.via hb; replace hs_x := hs_x.via hb; replace hs_y := hs_y.via hb; replace ec := ec.via hb; replace hBB := hBB.trans (hb.mono hBB.size); replace zz := zz.via hb; replace o_Q := o_Q.via hb; replace o_S := o_S.via hb; clear z0 z1 z2 z3 hb; have o_P := (OL.newg (neg := decide (dqO r < 0)) hs_P 26 rfl).via ((Below.refl _ _).alloc (Nat.le_refl _) (.cells #[.bool (decide (drO r < 0)), .slice A_T n_T c_T] 26)); have o_T := OL.newg (neg := decide (drO r < 0)) (g := w7.heap.size + 1) (hs_T.via ((Below.refl _ _).alloc (Nat.le_refl _) (.cells #[.bool (decide (dqO r < 0)), .slice A_P n_P c_P] 26))) 26 (by simp); have bw : Below w7.heap.size w7 ((w7.alloc (.cells #[.bool (decide (dqO r < 0)), .slice A_P n_P c_P] 26)).alloc (.cells #[.bool (decide (drO r < 0)), .slice A_T n_T c_T] 26)) := ((Below.refl _ _).alloc (Nat.le_refl _) _).alloc (by simp) _; replace hs_a := hs_a.via bw; replace hs_b := hs_b.via bw; replace hs_h := hs_h.via bw; replace hs_x := hs_x.via bw; replace hs_y := hs_y.via bw; replace ec := ec.via bw; replace hBB := hBB.trans (bw.mono hBB.size); replace zz := zz.via bw; replace o_Q := o_Q.via bw; replace o_S := o_S.via bw; clear bw hs_P hs_T; have z0 := zz.cell (i := 0) rfl; have z1 := zz.cell (i := 1) rfl; have z2 := zz.cell (i := 2) rfl; have z3 := zz.cell (i := 3) rfl))
        | (clear tk2; go_at_call 11; go_loud ((with_reducible refine (RG.out _ hs_h hs_x).mono ?_); rintro e w8 ⟨A_G, n_G, c_G, rfl, hs_G, hb⟩; replace hs_a := hs_a.via hb; replace hs_b := hs_b.via hb; replace hs_h := hs_h.via hb; replace hs_x := hs_x.via hb; replace hs_y := hs_y.via hb; replace ec := ec.via hb; replace hBB := hBB.trans (hb.mono hBB.size); replace zz := zz.via hb; replace o_Q := o_Q.via hb; replace o_S := o_S.via hb; replace o_P := o_P.via hb; replace o_T := o_T.via hb; clear z0 z1 z2 z3 hb; have o_G := OL.newg (neg := ngO s) hs_G 26 rfl; have bw := (Below.refl w8.heap.size w8).alloc (Nat.le_refl _) (.cells #[.bool (ngO s), .slice A_G n_G c_G] 26); replace hs_a := hs_a.via bw; replace hs_b := hs_b.via bw; replace hs_h := hs_h.via bw; replace hs_x := hs_x.via bw; replace hs_y := hs_y.via bw; replace ec := ec.via bw; replace hBB := hBB.trans (bw.mono hBB.size); replace zz := zz.via bw; replace o_Q := o_Q.via bw; replace o_S := o_S.via bw; replace o_P := o_P.via bw; replace o_T := o_T.via bw; clear bw hs_G; have z0 := zz.cell (i := 0) rfl; have z1 := zz.cell (i := 1) rfl; have z2 := zz.cell (i := 2) rfl; have z3 := zz.cell (i := 3) rfl))
        | (clear tk3; go_at_call 12; go_loud ((with_reducible refine (RH.out _ hs_h hs_x).mono ?_); rintro e w9 ⟨A_H, n_H, c_H, rfl, hs_H, hb⟩; replace hs_a := hs_a.via hb; replace hs_b := hs_b.via hb; replace hs_h := hs_h.via hb; replace hs_x := hs_x.via hb; replace hs_y := hs_y.via hb; replace ec := ec.via hb; replace hBB := hBB.trans (hb.mono hBB.size); replace zz := zz.via hb; replace o_Q := o_Q.via hb; replace o_S := o_S.via hb; replace o_P := o_P.via hb; replace o_T := o_T.via hb; replace o_G := o_G.via hb; clear z0 z1 z2 z3 hb; have o_H := OL.newg (neg := ngO s) hs_H 26 rfl; have bw := (Below.refl w9.heap.size w9).alloc (Nat.le_refl _) (.cells #[.bool (ngO s), .slice A_H n_H c_H] 26); replace hs_a := hs_a.via bw; replace hs_b := hs_b.via bw; replace hs_h := hs_h.via bw; replace hs_x := hs_x.via bw; replace hs_y := hs_y.via bw; replace ec := ec.via bw; replace hBB := hBB.trans (bw.mono hBB.size); replace zz := zz.via bw; replace o_Q := o_Q.via bw; replace o_S := o_S.via bw; replace o_P := o_P.via bw; replace o_T := o_T.via bw; replace o_G := o_G.via bw; clear bw hs_H; have z0 := zz.cell (i := 0) rfl; have z1 := zz.cell (i := 1) rfl; have z2 := zz.cell (i := 2) rfl; have z3 := zz.cell (i := 3) rfl; obtain ⟨Q_0, Q_1, hs_Q, Q_z⟩ := id o_Q; obtain ⟨S_0, S_1, hs_S, S_z⟩ := id o_S; obtain ⟨P_0, P_1, hs_P, P_z⟩ := id o_P; obtain ⟨T_0, T_1, hs_T, T_z⟩ := id o_T; obtain ⟨G_0, G_1, hs_G, G_z⟩ := id o_G; obtain ⟨H_0, H_1, hs_H, H_z⟩ := id o_H))
        | (clear tk4; go_at_call 13; go_loud ((with_reducible refine (same_one (decide (dqO r < 0)) hs_Q hs_P).mono ?_); rintro e w14 ⟨rfl, hb⟩; replace hs_a := hs_a.via hb; replace hs_b := hs_b.via hb; replace hs_h := hs_h.via hb; replace hs_x := hs_x.via hb; replace hs_y := hs_y.via hb; replace ec := ec.via hb; replace hBB := hBB.trans (hb.mono hBB.size); replace zz := zz.via hb; replace o_Q := o_Q.via hb; replace o_S := o_S.via hb; replace o_P := o_P.via hb; replace o_T := o_T.via hb; replace o_G := o_G.via hb; replace o_H := o_H.via hb; clear Q_0 Q_1 hs_Q Q_z S_0 S_1 hs_S S_z P_0 P_1 hs_P P_z T_0 T_1 hs_T T_z G_0 G_1 hs_G G_z H_0 H_1 hs_H H_z hb; obtain ⟨Q_0, Q_1, hs_Q, Q_z⟩ := id o_Q; obtain ⟨S_0, S_1, hs_S, S_z⟩ := id o_S; obtain ⟨P_0, P_1, hs_P, P_z⟩ := id o_P; obtain ⟨T_0, T_1, hs_T, T_z⟩ := id o_T; obtain ⟨G_0, G_1, hs_G, G_z⟩ := id o_G; obtain ⟨H_0, H_1, hs_H, H_z⟩ := id o_H))
        | (clear tk5; go_at_call 13; go_loud ((with_reducible refine (same_one (decide (drO r < 0)) hs_S hs_T).mono ?_); rintro e w15 ⟨rfl, hb⟩; replace hs_a := hs_a.via hb; replace hs_b := hs_b.via hb; replace hs_h := hs_h.via hb; replace hs_x := hs_x.via hb; replace hs_y := hs_y.via hb; replace ec := ec.via hb; replace hBB := hBB.trans (hb.mono hBB.size); replace zz := zz.via hb; replace o_Q := o_Q.via hb; replace o_S := o_S.via hb; replace o_P := o_P.via hb; replace o_T := o_T.via hb; replace o_G := o_G.via hb; replace o_H := o_H.via hb; clear Q_0 Q_1 hs_Q Q_z S_0 S_1 hs_S S_z P_0 P_1 hs_P P_z T_0 T_1 hs_T T_z G_0 G_1 hs_G G_z H_0 H_1 hs_H H_z hb; obtain ⟨Q_0, Q_1, hs_Q, Q_z⟩ := id o_Q; obtain ⟨S_0, S_1, hs_S, S_z⟩ := id o_S; obtain ⟨P_0, P_1, hs_P, P_z⟩ := id o_P; obtain ⟨T_0, T_1, hs_T, T_z⟩ := id o_T; obtain ⟨G_0, G_1, hs_G, G_z⟩ := id o_G; obtain ⟨H_0, H_1, hs_H, H_z⟩ := id o_H))
        | (clear tk6; go_at_call 13; go_loud ((with_reducible refine (same_one (ngO s) hs_G hs_H).mono ?_); rintro e w16 ⟨rfl, hb⟩; replace hs_a := hs_a.via hb; replace hs_b := hs_b.via hb; replace hs_h := hs_h.via hb; replace hs_x := hs_x.via hb; replace hs_y := hs_y.via hb; replace ec := ec.via hb; replace hBB := hBB.trans (hb.mono hBB.size); replace zz := zz.via hb; replace o_Q := o_Q.via hb; replace o_S := o_S.via hb; replace o_P := o_P.via hb; replace o_T := o_T.via hb; replace o_G := o_G.via hb; replace o_H := o_H.via hb; clear Q_0 Q_1 hs_Q Q_z S_0 S_1 hs_S S_z P_0 P_1 hs_P P_z T_0 T_1 hs_T T_z G_0 G_1 hs_G G_z H_0 H_1 hs_H H_z hb; obtain ⟨Q_0, Q_1, hs_Q, Q_z⟩ := id o_Q; obtain ⟨S_0, S_1, hs_S, S_z⟩ := id o_S; obtain ⟨P_0, P_1, hs_P, P_z⟩ := id o_P; obtain ⟨T_0, T_1, hs_T, T_z⟩ := id o_T; obtain ⟨G_0, G_1, hs_G, G_z⟩ := id o_G; obtain ⟨H_0, H_1, hs_H, H_z⟩ := id o_H))
        | fail "no arm")
      go_roundw
      case rel => exact ⟨6, by omega, rfl, Lib.hid ⟨hBB, ec, hs_a, hs_b, hs_h, hs_x, hs_y⟩⟩
      case measure => simp [intOf]
    · go_wp2_with fail
      go_ret
      exact ⟨rfl, hBB⟩
end Go.Proofs.YthnickjbknpmhaaGreatDoor
