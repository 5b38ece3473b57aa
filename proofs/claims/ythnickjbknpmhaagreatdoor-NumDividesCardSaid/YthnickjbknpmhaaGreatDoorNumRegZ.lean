/-
  Boxes of numbers; the contract of the law's adds.
  The contracts of the law's cut and raised.
  The regions that make numbers out of the laws' arrays, in whatever order; numbers by their digits.
-/
import Derived.Test.YthnickjbknpmhaaGreatDoorNumRefZ
import Derived.Test.YthnickjbknpmhaaGreatDoorNumIs
import Derived.Test.YthnickjbknpmhaaGreatDoorNumReg
namespace Go.Proofs.YthnickjbknpmhaaGreatDoor
open Go.RowKit Go.Shelf

/-- A box that holds a number. -/
def OL (W : World) (b : Nat) (neg : Bool) (A : Option Addr) (n c : Nat) (l : List Nat) : Prop := W.cell? ⟨b, 0, none⟩ = some (.bool neg) ∧ W.cell? ⟨b, 1, none⟩ = some (.slice A n c) ∧ Sl W W.heap.size A n c l ∧ b < W.heap.size
theorem OL.via {W W1 : World} {b n c : Nat} {neg : Bool} {A : Option Addr} {l : List Nat} (h : OL W b neg A n c l) (hb : Below W.heap.size W W1) : OL W1 b neg A n c l :=
  ⟨(hb.cell (p := ⟨b, 0, none⟩) h.2.2.2).trans h.1, (hb.cell (p := ⟨b, 1, none⟩) h.2.2.2).trans h.2.1, h.2.2.1.via hb, Nat.lt_of_lt_of_le h.2.2.2 hb.size⟩
theorem OL.newg {W : World} {neg : Bool} {g : Nat} {A : Option Addr} {n c : Nat} {l : List Nat} (h : Sl W W.heap.size A n c l) (T : TypeId) (hg : W.heap.size = g) : OL (W.alloc (.cells #[.bool neg, .slice A n c] T)) g neg A n c l := by
  subst hg
  exact ⟨by simp [go_sem], by simp [go_sem], h.via ((Below.refl _ _).alloc (Nat.le_refl _) _), by simp⟩
theorem OL.sl {W : World} {b n c : Nat} {neg : Bool} {A : Option Addr} {l : List Nat} (h : OL W b neg A n c l) : Sl W W.heap.size A n c l := h.2.2.1
theorem same_one (neg : Bool) {A A2 : Option Addr} {n n2 c c2 : Nat} {l : List Nat} {w : World} (h : Sl w w.heap.size A n c l) (h2 : Sl w w.heap.size A2 n2 c2 l) :
    Calls Tryz.prog 13 #[.agg #[.bool neg, .slice A n c], .agg #[.bool neg, .slice A2 n2 c2]] w fun e w' => e = .returned (.bool true) ∧ Below w.heap.size w w' := by
  refine (same_any neg neg h h2 (Nat.le_refl _)).mono ?_
  rintro e w' ⟨rfl, hb⟩
  exact ⟨by rw [show sameB neg l neg l = true from decide_eq_true ⟨rfl, rfl⟩], hb⟩

set_option maxRecDepth 100000 in
set_option maxHeartbeats 8000000 in
theorem adds_any (neg neg2 : Bool) {A A2 : Option Addr} {n n2 c c2 B : Nat} {l m : List Nat} {w : World} (h : Sl w B A n c l) (h2 : Sl w B A2 n2 c2 m) (hB : B ≤ w.heap.size) :
    Calls Tryz.prog 14 #[.agg #[.bool neg, .slice A n c], .agg #[.bool neg2, .slice A2 n2 c2]] w fun e w' => e = .returned (.bool true) ∧ Below w.heap.size w w' := by
  have C_s := Lib.hid (fun (W : World) (hs_a : Sl W W.heap.size A n c l) (hs_b : Sl W W.heap.size A2 n2 c2 m) => add_any neg neg2 hs_a hs_b (Nat.le_refl _))
  have C_t := Lib.hid (fun (W : World) (hs_a : Sl W W.heap.size A n c l) (hs_b : Sl W W.heap.size A2 n2 c2 m) => refadd_any neg neg2 hs_a hs_b (Nat.le_refl _))
  have C_d := Lib.hid (fun (W : World) (hs_a : Sl W W.heap.size A n c l) (hs_b : Sl W W.heap.size A2 n2 c2 m) => sub_any neg neg2 hs_a hs_b (Nat.le_refl _))
  have C_e := Lib.hid (fun (W : World) (hs_a : Sl W W.heap.size A n c l) (hs_b : Sl W W.heap.size A2 n2 c2 m) => refsub_any neg neg2 hs_a hs_b (Nat.le_refl _))
  have C_p := Lib.hid (fun (W : World) (hs_a : Sl W W.heap.size A n c l) (hs_b : Sl W W.heap.size A2 n2 c2 m) => mul_any neg neg2 hs_a hs_b (Nat.le_refl _))
  have C_q := Lib.hid (fun (W : World) (hs_a : Sl W W.heap.size A n c l) (hs_b : Sl W W.heap.size A2 n2 c2 m) => refmul_any neg neg2 hs_a hs_b (Nat.le_refl _))
  have C_n := Lib.hid (fun (W : World) (hs_a : Sl W W.heap.size A n c l) => int_any neg hs_a (Nat.le_refl _))
  have C_m := Lib.hid (fun (W : World) (hs_a : Sl W W.heap.size A n c l) => refint_any neg hs_a (Nat.le_refl _))
  have C_x := Lib.hid (fun (W : World) (hs_a : Sl W W.heap.size A n c l) => right_any neg A n c W.heap.size l W hs_a.1 (Nat.le_refl _) hs_a.2.1)
  have C_y := Lib.hid (fun (W : World) (hs_a : Sl W W.heap.size A n c l) => refright_any neg A n c W.heap.size l W hs_a.1 (Nat.le_refl _) hs_a.2.1)
  have C_z := Lib.hid (fun (W : World) (hs_a : Sl W W.heap.size A n c l) (hs_b : Sl W W.heap.size A2 n2 c2 m) => cmp_any neg neg2 hs_a hs_b (Nat.le_refl _))
  have C_w := Lib.hid (fun (W : World) (hs_a : Sl W W.heap.size A n c l) (hs_b : Sl W W.heap.size A2 n2 c2 m) => refcmp_any neg neg2 hs_a hs_b (Nat.le_refl _))
  obtain ⟨r1, hr1⟩ : ∃ r, sumS neg l neg2 m neg2 = r := ⟨_, rfl⟩
  rw [hr1] at C_s C_t
  obtain ⟨r2, hr2⟩ : ∃ r, sumS neg l neg2 m (!neg2) = r := ⟨_, rfl⟩
  rw [hr2] at C_d C_e
  obtain ⟨r3, hr3⟩ : ∃ r, mulS neg l neg2 m = r := ⟨_, rfl⟩
  rw [hr3] at C_p C_q
  obtain ⟨i1, hi1⟩ : ∃ r, intS neg l = r := ⟨_, rfl⟩
  rw [hi1] at C_n C_m
  obtain ⟨rb, hrb⟩ : ∃ r, rightB neg l = r := ⟨_, rfl⟩
  rw [hrb] at C_x C_y
  obtain ⟨cv, hcv⟩ : ∃ r, cmpS neg l neg2 m = r := ⟨_, rfl⟩
  rw [hcv] at C_z C_w
  have oa : OL ((w.alloc (.cells #[.bool neg, .slice A n c] 26)).alloc (.cells #[.bool neg2, .slice A2 n2 c2] 26)) w.heap.size neg A n c l := (OL.newg (h.more hB) 26 rfl).via ((Below.refl _ _).alloc (Nat.le_refl _) _)
  have ob : OL ((w.alloc (.cells #[.bool neg, .slice A n c] 26)).alloc (.cells #[.bool neg2, .slice A2 n2 c2] 26)) (w.heap.size + 1) neg2 A2 n2 c2 m := OL.newg ((h2.more hB).via ((Below.refl _ _).alloc (Nat.le_refl _) _)) 26 (by simp)
  have hBB : Below w.heap.size w ((w.alloc (.cells #[.bool neg, .slice A n c] 26)).alloc (.cells #[.bool neg2, .slice A2 n2 c2] 26)) := by go_grown
  clear h h2 hr1 hr2 hr3 hi1 hrb hcv
  obtain ⟨a0, a1, hs_a, az⟩ := id oa
  obtain ⟨b0, b1, hs_b, bz⟩ := id ob
  have tk0 : Hid True := trivial
  have tk1 : Hid True := trivial
  have tk2 : Hid True := trivial
  have tk3 : Hid True := trivial
  have tk4 : Hid True := trivial
  have tk5 : Hid True := trivial
  have tk6 : Hid True := trivial
  have tk7 : Hid True := trivial
  have tk8 : Hid True := trivial
  have tk9 : Hid True := trivial
  have tk10 : Hid True := trivial
  go_enter Tryz.func14, Tryz.ntmps14
  go_upto_region 12 with (first
    | (clear tk0; go_at_call 34; go_loud ((with_reducible refine (C_s.out _ hs_a hs_b).mono ?_); rintro e w1 ⟨A_s, n_s, c_s, rfl, hs_s, hb⟩; replace oa := oa.via hb; replace ob := ob.via hb; replace hBB := hBB.trans (hb.mono hBB.size); have os := OL.newg (neg := ngO r1) hs_s 26 rfl; have bw := (Below.refl w1.heap.size w1).alloc (Nat.le_refl _) (.cells #[.bool (ngO r1), .slice A_s n_s c_s] 26); replace oa := oa.via bw; replace ob := ob.via bw; replace hBB := hBB.trans (bw.mono hBB.size); clear a0 a1 hs_a az b0 b1 hs_b bz hb bw hs_s; obtain ⟨a0, a1, hs_a, az⟩ := id oa; obtain ⟨b0, b1, hs_b, bz⟩ := id ob))
    | (clear tk1; go_at_call 35; go_loud ((with_reducible refine (C_t.out _ hs_a hs_b).mono ?_); rintro e w2 ⟨A_t, n_t, c_t, rfl, hs_t, hb⟩; replace oa := oa.via hb; replace ob := ob.via hb; replace os := os.via hb; replace hBB := hBB.trans (hb.mono hBB.size); have ot := OL.newg (neg := ngO r1) hs_t 26 rfl; have bw := (Below.refl w2.heap.size w2).alloc (Nat.le_refl _) (.cells #[.bool (ngO r1), .slice A_t n_t c_t] 26); replace oa := oa.via bw; replace ob := ob.via bw; replace os := os.via bw; replace hBB := hBB.trans (bw.mono hBB.size); clear a0 a1 hs_a az b0 b1 hs_b bz hb bw hs_t; obtain ⟨a0, a1, hs_a, az⟩ := id oa; obtain ⟨b0, b1, hs_b, bz⟩ := id ob))
    | (clear tk2; go_at_call 16; go_loud ((with_reducible refine (C_d.out _ hs_a hs_b).mono ?_); rintro e w3 ⟨A_d, n_d, c_d, rfl, hs_d, hb⟩; replace oa := oa.via hb; replace ob := ob.via hb; replace os := os.via hb; replace ot := ot.via hb; replace hBB := hBB.trans (hb.mono hBB.size); have od := OL.newg (neg := ngO r2) hs_d 26 rfl; have bw := (Below.refl w3.heap.size w3).alloc (Nat.le_refl _) (.cells #[.bool (ngO r2), .slice A_d n_d c_d] 26); replace oa := oa.via bw; replace ob := ob.via bw; replace os := os.via bw; replace ot := ot.via bw; replace hBB := hBB.trans (bw.mono hBB.size); clear a0 a1 hs_a az b0 b1 hs_b bz hb bw hs_d; obtain ⟨a0, a1, hs_a, az⟩ := id oa; obtain ⟨b0, b1, hs_b, bz⟩ := id ob))
    | (clear tk3; go_at_call 36; go_loud ((with_reducible refine (C_e.out _ hs_a hs_b).mono ?_); rintro e w4 ⟨A_e, n_e, c_e, rfl, hs_e, hb⟩; replace oa := oa.via hb; replace ob := ob.via hb; replace os := os.via hb; replace ot := ot.via hb; replace od := od.via hb; replace hBB := hBB.trans (hb.mono hBB.size); have oe := OL.newg (neg := ngO r2) hs_e 26 rfl; have bw := (Below.refl w4.heap.size w4).alloc (Nat.le_refl _) (.cells #[.bool (ngO r2), .slice A_e n_e c_e] 26); replace oa := oa.via bw; replace ob := ob.via bw; replace os := os.via bw; replace ot := ot.via bw; replace od := od.via bw; replace hBB := hBB.trans (bw.mono hBB.size); clear a0 a1 hs_a az b0 b1 hs_b bz hb bw hs_e; obtain ⟨a0, a1, hs_a, az⟩ := id oa; obtain ⟨b0, b1, hs_b, bz⟩ := id ob))
    | (clear tk4; go_at_call 15; go_loud ((with_reducible refine (C_p.out _ hs_a hs_b).mono ?_); rintro e w5 ⟨A_p, n_p, c_p, rfl, hs_p, hb⟩; replace oa := oa.via hb; replace ob := ob.via hb; replace os := os.via hb; replace ot := ot.via hb; replace od := od.via hb; replace oe := oe.via hb; replace hBB := hBB.trans (hb.mono hBB.size); have op := OL.newg (neg := ngO r3) hs_p 26 rfl; have bw := (Below.refl w5.heap.size w5).alloc (Nat.le_refl _) (.cells #[.bool (ngO r3), .slice A_p n_p c_p] 26); replace oa := oa.via bw; replace ob := ob.via bw; replace os := os.via bw; replace ot := ot.via bw; replace od := od.via bw; replace oe := oe.via bw; replace hBB := hBB.trans (bw.mono hBB.size); clear a0 a1 hs_a az b0 b1 hs_b bz hb bw hs_p; obtain ⟨a0, a1, hs_a, az⟩ := id oa; obtain ⟨b0, b1, hs_b, bz⟩ := id ob))
    | (clear tk5; go_at_call 37; go_loud ((with_reducible refine (C_q.out _ hs_a hs_b).mono ?_); rintro e w6 ⟨A_q, n_q, c_q, rfl, hs_q, hb⟩; replace oa := oa.via hb; replace ob := ob.via hb; replace os := os.via hb; replace ot := ot.via hb; replace od := od.via hb; replace oe := oe.via hb; replace op := op.via hb; replace hBB := hBB.trans (hb.mono hBB.size); have oq := OL.newg (neg := ngO r3) hs_q 26 rfl; have bw := (Below.refl w6.heap.size w6).alloc (Nat.le_refl _) (.cells #[.bool (ngO r3), .slice A_q n_q c_q] 26); replace oa := oa.via bw; replace ob := ob.via bw; replace os := os.via bw; replace ot := ot.via bw; replace od := od.via bw; replace oe := oe.via bw; replace op := op.via bw; replace hBB := hBB.trans (bw.mono hBB.size); clear a0 a1 hs_a az b0 b1 hs_b bz hb bw hs_q; obtain ⟨a0, a1, hs_a, az⟩ := id oa; obtain ⟨b0, b1, hs_b, bz⟩ := id ob))
    | (clear tk6; go_at_call 21; go_loud ((with_reducible refine (C_n.out _ hs_a).mono ?_); rintro e w7 ⟨rfl, hb⟩; replace oa := oa.via hb; replace ob := ob.via hb; replace os := os.via hb; replace ot := ot.via hb; replace od := od.via hb; replace oe := oe.via hb; replace op := op.via hb; replace oq := oq.via hb; replace hBB := hBB.trans (hb.mono hBB.size); clear a0 a1 hs_a az b0 b1 hs_b bz hb; obtain ⟨a0, a1, hs_a, az⟩ := id oa; obtain ⟨b0, b1, hs_b, bz⟩ := id ob; skip))
    | (clear tk7; go_at_call 38; go_loud ((with_reducible refine (C_m.out _ hs_a).mono ?_); rintro e w8 ⟨rfl, hb⟩; replace oa := oa.via hb; replace ob := ob.via hb; replace os := os.via hb; replace ot := ot.via hb; replace od := od.via hb; replace oe := oe.via hb; replace op := op.via hb; replace oq := oq.via hb; replace hBB := hBB.trans (hb.mono hBB.size); clear a0 a1 hs_a az b0 b1 hs_b bz hb; obtain ⟨a0, a1, hs_a, az⟩ := id oa; obtain ⟨b0, b1, hs_b, bz⟩ := id ob; obtain ⟨s0, s1, hs_s, sz⟩ := id os; obtain ⟨t0, t1, hs_t, tz⟩ := id ot; obtain ⟨d0, d1, hs_d, dz⟩ := id od; obtain ⟨e0, e1, hs_e, ez⟩ := id oe; obtain ⟨p0, p1, hs_p, pz⟩ := id op; obtain ⟨q0, q1, hs_q, qz⟩ := id oq))
    | (clear tk8; go_at_call 13; go_loud ((with_reducible refine (same_one (ngO r1) hs_s hs_t).mono ?_); rintro e w9 ⟨rfl, hb⟩; replace oa := oa.via hb; replace ob := ob.via hb; replace os := os.via hb; replace ot := ot.via hb; replace od := od.via hb; replace oe := oe.via hb; replace op := op.via hb; replace oq := oq.via hb; replace hBB := hBB.trans (hb.mono hBB.size); clear a0 a1 hs_a az b0 b1 hs_b bz hb; clear s0 s1 hs_s sz t0 t1 hs_t tz d0 d1 hs_d dz e0 e1 hs_e ez p0 p1 hs_p pz q0 q1 hs_q qz; obtain ⟨a0, a1, hs_a, az⟩ := id oa; obtain ⟨b0, b1, hs_b, bz⟩ := id ob; obtain ⟨s0, s1, hs_s, sz⟩ := id os; obtain ⟨t0, t1, hs_t, tz⟩ := id ot; obtain ⟨d0, d1, hs_d, dz⟩ := id od; obtain ⟨e0, e1, hs_e, ez⟩ := id oe; obtain ⟨p0, p1, hs_p, pz⟩ := id op; obtain ⟨q0, q1, hs_q, qz⟩ := id oq))
    | (clear tk9; go_at_call 13; go_loud ((with_reducible refine (same_one (ngO r2) hs_d hs_e).mono ?_); rintro e w10 ⟨rfl, hb⟩; replace oa := oa.via hb; replace ob := ob.via hb; replace os := os.via hb; replace ot := ot.via hb; replace od := od.via hb; replace oe := oe.via hb; replace op := op.via hb; replace oq := oq.via hb; replace hBB := hBB.trans (hb.mono hBB.size); clear a0 a1 hs_a az b0 b1 hs_b bz hb; clear s0 s1 hs_s sz t0 t1 hs_t tz d0 d1 hs_d dz e0 e1 hs_e ez p0 p1 hs_p pz q0 q1 hs_q qz; obtain ⟨a0, a1, hs_a, az⟩ := id oa; obtain ⟨b0, b1, hs_b, bz⟩ := id ob; obtain ⟨s0, s1, hs_s, sz⟩ := id os; obtain ⟨t0, t1, hs_t, tz⟩ := id ot; obtain ⟨d0, d1, hs_d, dz⟩ := id od; obtain ⟨e0, e1, hs_e, ez⟩ := id oe; obtain ⟨p0, p1, hs_p, pz⟩ := id op; obtain ⟨q0, q1, hs_q, qz⟩ := id oq))
    | (clear tk10; go_at_call 13; go_loud ((with_reducible refine (same_one (ngO r3) hs_p hs_q).mono ?_); rintro e w11 ⟨rfl, hb⟩; replace oa := oa.via hb; replace ob := ob.via hb; replace os := os.via hb; replace ot := ot.via hb; replace od := od.via hb; replace oe := oe.via hb; replace op := op.via hb; replace oq := oq.via hb; replace hBB := hBB.trans (hb.mono hBB.size); clear a0 a1 hs_a az b0 b1 hs_b bz hb; clear s0 s1 hs_s sz t0 t1 hs_t tz d0 d1 hs_d dz e0 e1 hs_e ez p0 p1 hs_p pz q0 q1 hs_q qz; obtain ⟨a0, a1, hs_a, az⟩ := id oa; obtain ⟨b0, b1, hs_b, bz⟩ := id ob; obtain ⟨s0, s1, hs_s, sz⟩ := id os; obtain ⟨t0, t1, hs_t, tz⟩ := id ot; obtain ⟨d0, d1, hs_d, dz⟩ := id od; obtain ⟨e0, e1, hs_e, ez⟩ := id oe; obtain ⟨p0, p1, hs_p, pz⟩ := id op; obtain ⟨q0, q1, hs_q, qz⟩ := id oq))
    | fail "no arm")
  clear os ot od oe op oq s0 s1 hs_s sz t0 t1 hs_t tz d0 d1 hs_d dz e0 e1 hs_e ez p0 p1 hs_p pz q0 q1 hs_q qz C_s C_t C_d C_e C_p C_q C_n C_m
  have v0 := a0
  have v1 := a1
  have v2 := b0
  have v3 := b1
  clear a0 a1 hs_a az b0 b1 hs_b bz
  replace oa := oa.via (Below.drew (Below.refl _ _))
  replace ob := ob.via (Below.drew (Below.refl _ _))
  replace hBB := hBB.drew
  obtain ⟨a0, a1, hs_a, az⟩ := id oa
  obtain ⟨b0, b1, hs_b, bz⟩ := id ob
  go_region_held3 (fun W => W.cell? ⟨w.heap.size, 0, none⟩ = some (.bool neg) ∧ W.cell? ⟨w.heap.size, 1, none⟩ = some (.slice A n c) ∧ W.cell? ⟨w.heap.size + 1, 0, none⟩ = some (.bool neg2) ∧ W.cell? ⟨w.heap.size + 1, 1, none⟩ = some (.slice A2 n2 c2))
    (first | exact ⟨v0, v1, v2, v3⟩ | exact ⟨a0, a1, b0, b1⟩)
    (first
      | (go_at_call 24; go_loud ((with_reducible refine (C_x.out _ hs_a).mono ?_); rintro e w20 ⟨rfl, hb⟩; replace oa := oa.via hb; replace ob := ob.via hb; replace hBB := hBB.trans (hb.mono hBB.size); clear a0 a1 hs_a az b0 b1 hs_b bz hb; obtain ⟨a0, a1, hs_a, az⟩ := id oa; obtain ⟨b0, b1, hs_b, bz⟩ := id ob))
      | (go_at_call 29; go_loud ((with_reducible refine (C_y.out _ hs_a).mono ?_); rintro e w21 ⟨rfl, hb⟩; replace oa := oa.via hb; replace ob := ob.via hb; replace hBB := hBB.trans (hb.mono hBB.size); clear a0 a1 hs_a az b0 b1 hs_b bz hb; obtain ⟨a0, a1, hs_a, az⟩ := id oa; obtain ⟨b0, b1, hs_b, bz⟩ := id ob))
      | (go_at_call 39; go_loud ((with_reducible refine (C_z.out _ hs_a hs_b).mono ?_); rintro e w22 ⟨rfl, hb⟩; replace oa := oa.via hb; replace ob := ob.via hb; replace hBB := hBB.trans (hb.mono hBB.size); clear a0 a1 hs_a az b0 b1 hs_b bz hb; obtain ⟨a0, a1, hs_a, az⟩ := id oa; obtain ⟨b0, b1, hs_b, bz⟩ := id ob))
      | (go_at_call 40; go_loud ((with_reducible refine (C_w.out _ hs_a hs_b).mono ?_); rintro e w23 ⟨rfl, hb⟩; replace oa := oa.via hb; replace ob := ob.via hb; replace hBB := hBB.trans (hb.mono hBB.size); clear a0 a1 hs_a az b0 b1 hs_b bz hb; obtain ⟨a0, a1, hs_a, az⟩ := id oa; obtain ⟨b0, b1, hs_b, bz⟩ := id ob))
      | fail "no arm")
  all_goals
    go_wp2_with fail
    go_ret
    exact ⟨rfl, hBB⟩
end Go.Proofs.YthnickjbknpmhaaGreatDoor

namespace Go.Proofs.YthnickjbknpmhaaGreatDoor
open Go.RowKit Go.Shelf

set_option maxRecDepth 100000 in
set_option maxHeartbeats 2000000 in
theorem cut_at (neg : Bool) (A : Option Addr) (n c m k : Nat) (w : World) (hn : n ≤ c) (_ : c ≤ 9223372036854775807) (hk : min n m = k) :
    Calls Tryz.prog 8 #[.agg #[.bool neg, .slice A n c], .int .i64 (m : Nat)] w fun e w' => e = .returned (.agg #[.bool neg, .slice A k c]) ∧ Below w.heap.size w w' := by
  have s0 := S1.start (w := w) (neg := neg) (A := A) (n := n) (c := c)
  have hmin : min (n : Int) (m : Int) = (k : Int) := by omega
  have hkn : (k : Int) ≤ n := by omega
  go_enter Tryz.func8, Tryz.ntmps8
  go_upto_region 1 with fail
  go_region
  all_goals
    go_wp2
    refine bodyPost_ret (v := .agg #[.bool neg, .slice A k c]) ?_ rfl ⟨rfl, ?_⟩
    · simp [results, Tryz.f8, go_sem]
    · exact ((Below.refl _ _).alloc (Nat.le_refl _) _ |>.alloc (by simp) _).drew
theorem cut_any (neg : Bool) {A : Option Addr} {n c : Nat} (m : Nat) {l : List Nat} {w : World} (h : Sl w w.heap.size A n c l) :
    Calls Tryz.prog 8 #[.agg #[.bool neg, .slice A n c], .int .i64 (m : Nat)] w fun e w' => ∃ k, e = .returned (.agg #[.bool neg, .slice A k c]) ∧ Sl w' w'.heap.size A k c (l.take m) ∧ Below w.heap.size w w' := by
  refine (cut_at neg A n c m (min n m) w h.2.1 h.2.2 rfl).mono ?_
  rintro e w' ⟨rfl, hb⟩
  refine ⟨_, rfl, ?_, hb⟩
  have h2 := (h.take (k := min n m) (by omega)).via hb
  rwa [show l.take (min n m) = l.take m by
    rcases Nat.le_total n m with h3 | h3
    · rw [Nat.min_eq_left h3, List.take_of_length_le (by rw [h.len]; omega), List.take_of_length_le (by rw [h.len]; omega)]
    · rw [Nat.min_eq_right h3]] at h2

/-- What raised returns: some digits. -/
def RetL (neg : Bool) (w : World) (e : Ending) (w' : World) : Prop := ∃ A n c l, e = .returned (.agg #[.bool neg, .slice A n c]) ∧ Sl w' w'.heap.size A n c l ∧ Below w.heap.size w w'

set_option maxRecDepth 100000 in
set_option maxHeartbeats 2000000 in
theorem raised_nil (neg : Bool) {A : Option Addr} {c B k : Nat} {w : World} (h : Sl w B A 0 c []) (hB : B ≤ w.heap.size) :
    Calls Tryz.prog 7 #[.agg #[.bool neg, .slice A 0 c], .int .i64 (k : Nat)] w (RetL neg w) := by
  have s0 := S1.start (w := w) (neg := neg) (A := A) (n := 0) (c := c)
  have h2 := (h.more hB).below (w' := (w.alloc (.cells #[.bool neg, .slice A 0 c] 26)).alloc (.cells #[.bool neg, .slice A 0 c] 26)) (by go_grown)
  have h3 := Lib.hid (h2.more (B' := ((w.alloc (.cells #[.bool neg, .slice A 0 c] 26)).alloc (.cells #[.bool neg, .slice A 0 c] 26)).heap.size) (by simp; omega))
  clear h h2
  go_enter Tryz.func7, Tryz.ntmps7
  go_wp2_with fail
  refine bodyPost_ret (v := .agg #[.bool neg, .slice A 0 c]) ?_ rfl ⟨A, 0, c, [], rfl, h3.out, ?_⟩
  · simp [results, Tryz.f7, go_sem]
  · go_grown

theorem DBk.own {w : World} {base g : Nat} {l : List Nat} (h : DBk w g 40 l) (hb : base ≤ g) (hl : l.length ≤ 1000000) {n : Nat} (hn : l.length = n) : w.ownsRow base 40 1 (.slice (some ⟨g, 0, none⟩) n n) n (u32s l) := by
  subst hn
  exact ⟨by rw [u32s_length, Nat.mul_one], .inr ⟨g, l.length, (u32s l).toArray, rfl, hb, h, Nat.le_refl _, by unfold maxLen; omega, by simp [u32s_length], List.take_of_length_le (by simp [u32s_length])⟩⟩

set_option maxRecDepth 100000 in
set_option maxHeartbeats 2000000 in
theorem raised_some (neg : Bool) {A : Option Addr} {n c B k : Nat} {l : List Nat} {w : World} (h : Sl w B A n c l) (hB : B ≤ w.heap.size) (hn : 0 < n) (hn2 : n ≤ 1000) (hk : k ≤ 1000) :
    Calls Tryz.prog 7 #[.agg #[.bool neg, .slice A n c], .int .i64 (k : Nat)] w (RetL neg w) := by
  obtain ⟨ad, rfl, _⟩ := h.at_ (k := 0) hn
  obtain ⟨i0, hi, hz0, hz1, hzb⟩ := info_parts Tryz.infoU32
  have H := Lib.hid (h.more hB)
  have hlen := h.len
  have hne : ((n : Int) == 0) = false := by simp; omega
  have hmk := run_make_u32 k (by omega)
  clear h
  go_enter Tryz.func7, Tryz.ntmps7
  go_upto_region 3 with fail
  have s0 : S1 w neg (some ad) n c ((w.alloc (.cells #[.bool neg, .slice (some ad) n c] 26)).alloc (.cells #[.bool false, .slice none 0 0] 26)) := S1.start.via ((Below.refl _ _).alloc (Nat.le_refl _) _)
  obtain ⟨a0, a1⟩ := s0.facts
  have r0 : ((w.alloc (.cells #[.bool neg, .slice (some ad) n c] 26)).alloc (.cells #[.bool false, .slice none 0 0] 26)).cell? ⟨w.heap.size + 1, 0, none⟩ = some (.bool false) := by simp [go_sem]
  have r1 : ((w.alloc (.cells #[.bool neg, .slice (some ad) n c] 26)).alloc (.cells #[.bool false, .slice none 0 0] 26)).cell? ⟨w.heap.size + 1, 1, none⟩ = some (.slice none 0 0) := by simp [go_sem]
  have rf : ∀ i, ((w.alloc (.cells #[.bool neg, .slice (some ad) n c] 26)).alloc (.cells #[.bool false, .slice none 0 0] 26)).frozen? ⟨w.heap.size + 1, i, none⟩ = false := by intro i; simp [go_sem]
  have hz2 : ((w.alloc (.cells #[.bool neg, .slice (some ad) n c] 26)).alloc (.cells #[.bool false, .slice none 0 0] 26)).heap.size = w.heap.size + 2 := by simp
  obtain ⟨W0, hW0⟩ : ∃ W0, ((w.alloc (.cells #[.bool neg, .slice (some ad) n c] 26)).alloc (.cells #[.bool false, .slice none 0 0] 26)) = W0 := ⟨_, rfl⟩
  rw [hW0] at s0 a0 a1 r0 r1 rf hz2 ⊢
  clear hW0
  have hbd : Below w.heap.size w (W0.alloc (.cells (madeCells #[.int .u32 0] k) 40)).drew := (s0.below.alloc s0.below.size _).drew
  have sd : S1 w neg (some ad) n c (W0.alloc (.cells (madeCells #[.int .u32 0] k) 40)).drew := s0.via (((Below.refl _ _).alloc (Nat.le_refl _) _).drew)
  have bd : Below (w.heap.size + 2) W0 (W0.alloc (.cells (madeCells #[.int .u32 0] k) 40)).drew := ((Below.refl _ _).alloc (by omega) _).drew
  have dk : DBk (W0.alloc (.cells (madeCells #[.int .u32 0] k) 40)).drew (w.heap.size + 2) 40 (List.replicate k 0) := by
    have := DBk.new W0 40 k
    rw [hz2] at this
    exact this
  have hown := dk.own (base := w.heap.size + 2) (Nat.le_refl _) (by simp; omega) (n := k) (by simp)
  have hnews := (H.out.below hbd).news hn
  have hnl : (u32s l).length = n * 1 := by rw [u32s_length, hlen, Nat.mul_one]
  have hmx : k + n ≤ maxLen := by unfold maxLen; omega
  have hby2 : (k + n) * 4 ≤ 140737488355328 := by omega
  have hbs : w.heap.size + 2 ≤ (W0.alloc (.cells (madeCells #[.int .u32 0] k) 40)).drew.heap.size := by simp [World.drew]; omega
  obtain ⟨v0, v1⟩ := sd.facts
  have w0 : (W0.alloc (.cells (madeCells #[.int .u32 0] k) 40)).cell? ⟨w.heap.size, 0, none⟩ = some (.bool neg) := v0
  have w1' : (W0.alloc (.cells (madeCells #[.int .u32 0] k) 40)).cell? ⟨w.heap.size, 1, none⟩ = some (.slice (some ad) n c) := v1
  have HD := Lib.hid H.out.dig
  go_region_held3 (fun W => W.cell? ⟨w.heap.size, 0, none⟩ = some (.bool neg) ∧ W.cell? ⟨w.heap.size, 1, none⟩ = some (.slice (some ad) n c))
    (first | exact ⟨a0, a1⟩ | exact ⟨v0, v1⟩ | exact ⟨w0, w1'⟩ | exact ⟨e0, e1⟩ | (simp [go_sem]; exact ⟨e0, e1⟩))
    (first
      | ((refine step_append_lies _ rfl _ _ 24 rfl (w.heap.size + 2) 40 i0 (.int .u32 0) 1 4 Tryz.underlying24 hi hz0 hz1 hzb rfl (by decide) _ _ _ rfl hown ad n c (u32s l) rfl hnl hnews u32s_cell hn hmx hby2 hbs _ rfl ?_; intro g cap w1 hown' hgrow _ hlt; have hg1 : Below (w.heap.size + 2) W0 w1 := below_of_grown bd hgrow hbs (Nat.le_refl _); have s1 : S1 w neg (some ad) n c w1 := s0.trans (hg1.mono (by omega)); obtain ⟨e0, e1⟩ := s1.facts; have r2 := (hg1.cell (p := ⟨w.heap.size + 1, 0, none⟩) (by simp)).trans r0; have r3 := (hg1.cell (p := ⟨w.heap.size + 1, 1, none⟩) (by simp)).trans r1; have rf2 : ∀ i, w1.frozen? ⟨w.heap.size + 1, i, none⟩ = false := (fun i => (hg1.frozen (p := ⟨w.heap.size + 1, i, none⟩) (by simp)).trans (rf i)); have HO := Lib.hid hown'; have hzz : w.heap.size + 1 < w1.heap.size := (by have := hg1.size; omega); clear hown' hgrow hlt))
      | fail "no arm")
  all_goals
    go_wp2_with fail
    have hO : OwnD w1 (w.heap.size + 2) (.slice (some ⟨g, 0, none⟩) (k + n) cap) (List.replicate k 0 ++ l) := by
      refine ⟨?_, dig_append.2 ⟨dig_zeros k, HD.out⟩⟩
      rw [List.length_append, List.length_replicate, hlen, show u32s (List.replicate k 0 ++ l) = u32s (List.replicate k 0) ++ u32s l by simp [u32s]]
      exact HO.out
    obtain ⟨A2, c2, e, hs, _⟩ := hO.sl
    obtain ⟨rfl, h3, rfl⟩ := slice_inj e
    rw [← h3] at hs
    obtain ⟨q0, q1⟩ := two_set (.bool neg) (.slice (some ⟨g, 0, none⟩) (k + n) cap) r2 r3
    refine bodyPost_ret (v := .agg #[.bool neg, .slice (some ⟨g, 0, none⟩) (k + n) cap]) ?_ rfl ⟨_, _, _, _, rfl, hs.stored r2 r3 _ _, (s1.below.setCell (by simp) _).setCell (by simp) _⟩
    simp [results, Tryz.f7, go_sem, q0, q1]
end Go.Proofs.YthnickjbknpmhaaGreatDoor

namespace Go.Proofs.YthnickjbknpmhaaGreatDoor
open Go.RowKit Go.Shelf

/-- A call returns a number of some digits. -/
def NL (neg : Bool) (l : List Nat) (w : World) (e : Ending) (w' : World) : Prop := ∃ A n c, e = .returned (.agg #[.bool neg, .slice A n c]) ∧ Sl w' w'.heap.size A n c l ∧ Below w.heap.size w w'
theorem wanted_none {o : Oper} {y : Nat → Option Bool} (h : o.guard = none) : Region.wanted o y = true := by unfold Region.wanted; rw [h]
theorem getD_set_ne {L : Array Bool} {i j : Nat} {b : Bool} (h : j ≠ i) : (L.setIfInBounds i true).getD j b = L.getD j b := by
  simp only [Array.getD_eq_getD_getElem?]
  rw [Array.getElem?_setIfInBounds_ne (Ne.symm h)]
/-- A box that was laid, not yet written. -/
def FB (W : World) (q : Nat) : Prop := W.cell? ⟨q, 0, none⟩ = some (.bool false) ∧ W.cell? ⟨q, 1, none⟩ = some (.slice none 0 0) ∧ (∀ i, W.frozen? ⟨q, i, none⟩ = false) ∧ q < W.heap.size
theorem FB.via {W W1 : World} {q : Nat} (h : FB W q) (hb : Below W.heap.size W W1) : FB W1 q :=
  ⟨(hb.cell (p := ⟨q, 0, none⟩) h.2.2.2).trans h.1, (hb.cell (p := ⟨q, 1, none⟩) h.2.2.2).trans h.2.1, fun i => (hb.frozen (p := ⟨q, i, none⟩) h.2.2.2).trans (h.2.2.1 i), Nat.lt_of_lt_of_le h.2.2.2 hb.size⟩
theorem FB.new (W : World) (T : TypeId) : FB (W.alloc (.cells #[.bool false, .slice none 0 0] T)) W.heap.size := ⟨by simp [go_sem], by simp [go_sem], fun i => by simp [go_sem], by simp⟩
/-- A number is stored into a box: what becomes of all others. -/
def put (W : World) (q : Nat) (g : Bool) (A : Option Addr) (n c : Nat) : World := (W.setCell ⟨q, 0, none⟩ (.bool g)).setCell ⟨q, 1, none⟩ (.slice A n c)
section
variable {W : World} {q q' n c n2 c2 : Nat} {g g2 : Bool} {A A2 : Option Addr} {l : List Nat}
theorem put_size : (put W q g A n c).heap.size = W.heap.size := by simp [put, World.setCell]
theorem put_cell (hq : q' ≠ q) (i : Nat) : (put W q g A n c).cell? ⟨q', i, none⟩ = W.cell? ⟨q', i, none⟩ := by
  unfold put
  rw [World.cell?_setCell_other _ _ _ _ (fun e => hq (congrArg Addr.block e.symm)), World.cell?_setCell_other _ _ _ _ (fun e => hq (congrArg Addr.block e.symm))]
theorem put_sl (hF : FB W q) (h : Sl W W.heap.size A2 n2 c2 l) : Sl (put W q g A n c) (put W q g A n c).heap.size A2 n2 c2 l := h.stored hF.1 hF.2.1 _ _
theorem put_ol (hF : FB W q) (hq : q' ≠ q) (h : OL W q' g2 A2 n2 c2 l) : OL (put W q g A n c) q' g2 A2 n2 c2 l :=
  ⟨(put_cell hq 0).trans h.1, (put_cell hq 1).trans h.2.1, put_sl hF h.2.2.1, by rw [put_size]; exact h.2.2.2⟩
theorem put_fb (hq : q' ≠ q) (h : FB W q') : FB (put W q g A n c) q' :=
  ⟨(put_cell hq 0).trans h.1, (put_cell hq 1).trans h.2.1, fun i => by rw [← h.2.2.1 i]; simp [put, World.frozen?, World.setCell, Array.getElem?_modify, Ne.symm hq], by rw [put_size]; exact h.2.2.2⟩
theorem put_newl (hF : FB W q) (h : Sl W W.heap.size A n c l) : OL (put W q g A n c) q g A n c l := by
  obtain ⟨t0, t1⟩ := two_set (.bool g) (.slice A n c) hF.1 hF.2.1
  refine ⟨?_, t1, put_sl hF h, by rw [put_size]; exact hF.2.2.2⟩
  unfold put
  rw [World.cell?_setCell_other _ _ _ _ (by simp), t0]
end
/-- The memory since a world, in which an array lies. -/
def AN (w0 : World) (pb : Nat) (arr : Array Value) (W : World) : Prop := Below w0.heap.size w0 W ∧ (∀ i u, arr[i]? = some u → w0.cell? ⟨pb, i, none⟩ = some u) ∧ pb < w0.heap.size
section
variable {w0 W W1 : World} {pb : Nat} {arr : Array Value}
theorem AN.size (h : AN w0 pb arr W) : w0.heap.size ≤ W.heap.size := h.1.size
theorem AN.via (h : AN w0 pb arr W) (hb : Below W.heap.size W W1) : AN w0 pb arr W1 := ⟨h.1.trans (hb.mono h.size), h.2⟩
theorem AN.drew (h : AN w0 pb arr W) : AN w0 pb arr W.drew := ⟨h.1.drew, h.2⟩
theorem AN.put (h : AN w0 pb arr W) {q : Nat} (hq : w0.heap.size ≤ q) (g : Bool) (A : Option Addr) (n c : Nat) : AN w0 pb arr (put W q g A n c) := ⟨(h.1.setCell hq _).setCell hq _, h.2⟩
theorem AN.below (h : AN w0 pb arr W) : Below w0.heap.size w0 W := h.1
theorem AN.cell (h : AN w0 pb arr W) {i : Nat} {u : Value} (hu : arr[i]? = some u) : W.cell? ⟨pb, i, none⟩ = some u := (h.1.cell (p := ⟨pb, i, none⟩) h.2.2).trans (h.2.1 i u hu)
end
def HoldsL (u : Value) (W : World) (g : Bool) (l : List Nat) : Prop := ∃ A n c, u = .agg #[.bool g, .slice A n c] ∧ Sl W W.heap.size A n c l
theorem HoldsL.via {u : Value} {W W1 : World} {g : Bool} {l : List Nat} (h : HoldsL u W g l) (hb : Below W.heap.size W W1) : HoldsL u W1 g l := by
  obtain ⟨A, n, c, e, hs⟩ := h
  exact ⟨A, n, c, e, hs.via hb⟩
def HoldsC (u : Value) (W : World) (z : Nat) : Prop := ∃ q, u = .pointer (some ⟨q, 0, none⟩) ∧ FB W q ∧ z ≤ q
theorem HoldsC.via {u : Value} {W W1 : World} {z : Nat} (h : HoldsC u W z) (hb : Below W.heap.size W W1) : HoldsC u W1 z := by
  obtain ⟨q, e, hf, hq⟩ := h
  exact ⟨q, e, hf.via hb, hq⟩

/-- What holds of an operation of the region that has been carried out: of its value. -/
def admFact (w0 : World) (pb : Nat) (A0 : Option Addr) (k0 d0 : Nat) (g0 : Bool) (v0 : List Nat) (A1 : Option Addr) (k1 d1 : Nat) (g1 : Bool) (v1 : List Nat) (j : Nat) (u : Value) (W : World) : Prop := match j with
  | 0 => u = .pointer (some ⟨pb, 0, none⟩)
  | 1 => u = .slice A0 k0 d0
  | 2 => HoldsL u W g0 v0
  | 3 => u = .pointer (some ⟨pb, 1, none⟩)
  | 4 => u = .slice A1 k1 d1
  | 5 => HoldsL u W g1 v1
  | 6 => HoldsC u W w0.heap.size
  | 7 => HoldsC u W w0.heap.size
  | _ => True
def admSlot (j : Nat) : Nat := match j with
  | 0 => 16
  | 1 => 17
  | 2 => 18
  | 3 => 19
  | 4 => 20
  | 5 => 21
  | 6 => 8
  | 7 => 9
  | _ => 0
theorem adm_via {w0 W W1 : World} {pb : Nat} {A0 : Option Addr} {k0 d0 : Nat} {g0 : Bool} {v0 : List Nat} {A1 : Option Addr} {k1 d1 : Nat} {g1 : Bool} {v1 : List Nat} {j : Nat} {u : Value} (h : admFact w0 pb A0 k0 d0 g0 v0 A1 k1 d1 g1 v1 j u W) (hb : Below W.heap.size W W1) : admFact w0 pb A0 k0 d0 g0 v0 A1 k1 d1 g1 v1 j u W1 := by
  unfold admFact at h ⊢
  split <;> first | exact h | exact HoldsL.via h hb | exact HoldsC.via h hb | trivial | fail "no"
theorem adm_inj : ∀ x, x < 8 → ∀ y, y < 8 → x ≠ y → admSlot x ≠ admSlot y := by decide
theorem adm_upd {w0 W W1 : World} {pb : Nat} {A0 : Option Addr} {k0 d0 : Nat} {g0 : Bool} {v0 : List Nat} {A1 : Option Addr} {k1 d1 : Nat} {g1 : Bool} {v1 : List Nat} {f : Nat → Value} {L : Array Bool} {i : Nat} {v : Value} (hi : i < 8) (hl : L.getD i true = false) (hF : ∀ j, j < 8 → L.getD j false = true → admFact w0 pb A0 k0 d0 g0 v0 A1 k1 d1 g1 v1 j (f (admSlot j)) W) (hb : Below W.heap.size W W1) (hv : admFact w0 pb A0 k0 d0 g0 v0 A1 k1 d1 g1 v1 i v W1) :
    ∀ j, j < 8 → (L.setIfInBounds i true).getD j false = true → admFact w0 pb A0 k0 d0 g0 v0 A1 k1 d1 g1 v1 j (upd f (admSlot i) v (admSlot j)) W1 := by
  intro j hj h
  by_cases hji : j = i
  · subst hji; rw [upd_same]; exact hv
  · rw [upd_other (adm_inj j hj i hi hji)]
    rcases getD_set h with h | h
    · exact absurd h hji
    · exact adm_via (hF j hj h) hb
theorem adm_dist {f : Nat → Value} {L : Array Bool} {i : Nat} {v : Value} (hi : i < 8) (hn : i < 6 ∨ ∀ x, 6 ≤ x → x < 8 → x ≠ i → L.getD x false = true → f (admSlot x) ≠ v) (hD : ∀ x y, 6 ≤ x → x < y → y < 8 → L.getD x false = true → L.getD y false = true → f (admSlot x) ≠ f (admSlot y)) :
    ∀ x y, 6 ≤ x → x < y → y < 8 → (L.setIfInBounds i true).getD x false = true → (L.setIfInBounds i true).getD y false = true → upd f (admSlot i) v (admSlot x) ≠ upd f (admSlot i) v (admSlot y) := by
  intro x y h1 h2 h3 hx hy
  by_cases hxi : x = i
  · subst hxi
    rw [upd_same, upd_other (adm_inj y h3 x hi (by omega))]
    rcases getD_set hy with h | h
    · omega
    · rcases hn with hn | hn
      · omega
      · exact Ne.symm (hn y (by omega) h3 (by omega) h)
  · rw [upd_other (adm_inj x (by omega) i hi hxi)]
    rcases getD_set hx with h | hx2
    · exact absurd h hxi
    · by_cases hyi : y = i
      · subst hyi
        rw [upd_same]
        rcases hn with hn | hn
        · omega
        · exact hn x h1 (by omega) hxi hx2
      · rw [upd_other (adm_inj y h3 i hi hyi)]
        rcases getD_set hy with h | hy2
        · exact absurd h hyi
        · exact hD x y h1 h2 h3 hx2 hy2
def admPh0 (w0 : World) (g0 : Bool) (v0 : List Nat) (g1 : Bool) (v1 : List Nat) (f : Nat → Value) (W : World) : Prop := ∃ q0 a0 n0 c0 q1 a1 n1 c1, f 8 = .pointer (some ⟨q0, 0, none⟩) ∧ f 18 = .agg #[.bool g0, .slice a0 n0 c0] ∧ Sl W W.heap.size a0 n0 c0 (v0) ∧ FB W q0 ∧ w0.heap.size ≤ q0 ∧ f 9 = .pointer (some ⟨q1, 0, none⟩) ∧ f 21 = .agg #[.bool g1, .slice a1 n1 c1] ∧ Sl W W.heap.size a1 n1 c1 (v1) ∧ FB W q1 ∧ w0.heap.size ≤ q1 ∧ q0 ≠ q1
def admPh1 (w0 : World) (g0 : Bool) (v0 : List Nat) (g1 : Bool) (v1 : List Nat) (f : Nat → Value) (W : World) : Prop := ∃ q0 a0 n0 c0 q1 a1 n1 c1, f 8 = .pointer (some ⟨q0, 0, none⟩) ∧ f 18 = .agg #[.bool g0, .slice a0 n0 c0] ∧ Sl W W.heap.size a0 n0 c0 (v0) ∧ OL W q0 g0 a0 n0 c0 v0 ∧ w0.heap.size ≤ q0 ∧ f 9 = .pointer (some ⟨q1, 0, none⟩) ∧ f 21 = .agg #[.bool g1, .slice a1 n1 c1] ∧ Sl W W.heap.size a1 n1 c1 (v1) ∧ FB W q1 ∧ w0.heap.size ≤ q1 ∧ q0 ≠ q1
def admPh2 (w0 : World) (g0 : Bool) (v0 : List Nat) (g1 : Bool) (v1 : List Nat) (f : Nat → Value) (W : World) : Prop := ∃ q0 a0 n0 c0 q1 a1 n1 c1, f 8 = .pointer (some ⟨q0, 0, none⟩) ∧ f 18 = .agg #[.bool g0, .slice a0 n0 c0] ∧ Sl W W.heap.size a0 n0 c0 (v0) ∧ OL W q0 g0 a0 n0 c0 v0 ∧ w0.heap.size ≤ q0 ∧ f 9 = .pointer (some ⟨q1, 0, none⟩) ∧ f 21 = .agg #[.bool g1, .slice a1 n1 c1] ∧ Sl W W.heap.size a1 n1 c1 (v1) ∧ OL W q1 g1 a1 n1 c1 v1 ∧ w0.heap.size ≤ q1 ∧ q0 ≠ q1
def admInv (t : Array Value) (df : List Deferred) (w0 : World) (pb : Nat) (A0 : Option Addr) (k0 d0 : Nat) (g0 : Bool) (v0 : List Nat) (A1 : Option Addr) (k1 d1 : Nat) (g1 : Bool) (v1 : List Nat) (L : Array Bool) (a : Act) (W : World) : Prop :=
  ∃ f, a = ⟨patch t [16, 17, 18, 19, 20, 21, 8, 9] f, df⟩ ∧ AN w0 pb #[.slice A0 k0 d0, .slice A1 k1 d1] W ∧
    ((L.getD 8 false = false ∧ (∀ j, j < 8 → L.getD j false = true → admFact w0 pb A0 k0 d0 g0 v0 A1 k1 d1 g1 v1 j (f (admSlot j)) W) ∧ (∀ x y, 6 ≤ x → x < y → y < 8 → L.getD x false = true → L.getD y false = true → f (admSlot x) ≠ f (admSlot y))) ∨ ((∀ j, j < 9 → L.getD j false = true) ∧ admPh1 w0 g0 v0 g1 v1 f W ∧ L.getD 9 false = false) ∨ ((∀ j, j < 10 → L.getD j false = true) ∧ admPh2 w0 g0 v0 g1 v1 f W))
set_option maxRecDepth 100000 in
set_option maxHeartbeats 4000000 in
theorem adm_region {ops : Array Oper} {Q : Exit → Act → World → Prop} {id : Nat} (t : Array Value) (df : List Deferred) (w0 W : World) (pb : Nat) (A0 : Option Addr) (k0 d0 : Nat) (g0 : Bool) (v0 : List Nat) (A1 : Option Addr) (k1 d1 : Nat) (g1 : Bool) (v1 : List Nat)
    (hsz : ops.size = 10) (hback : backB ops = true) (hts : 21 < t.size) (hpa : t.getD 3 undef = .pointer (some ⟨pb, 0, none⟩)) (hAM : AN w0 pb #[.slice A0 k0 d0, .slice A1 k1 d1] W)
    (M0 : ∀ (W : World), Below w0.heap.size w0 W → Calls Tryz.prog 6 #[.slice A0 k0 d0] W (NL g0 v0 W))
    (M1 : ∀ (W : World), Below w0.heap.size w0 W → Calls Tryz.prog 6 #[.slice A1 k1 d1] W (NL g1 v1 W))
    (o0 : opIs ops 0 (some 16) (.indexAddr 23 (.tmp 3) (.const (.int .i64 0))))
    (o1 : opIs ops 1 (some 17) (.load 22 (.tmp 16)))
    (o2 : opIs ops 2 (some 18) (.call { callee := .value (.func 6), args := #[.tmp 17], argTypes := #[22] }))
    (o3 : opIs ops 3 (some 19) (.indexAddr 23 (.tmp 3) (.const (.int .i64 1))))
    (o4 : opIs ops 4 (some 20) (.load 22 (.tmp 19)))
    (o5 : opIs ops 5 (some 21) (.call { callee := .value (.func 6), args := #[.tmp 20], argTypes := #[22] }))
    (o6 : opIs ops 6 (some 8) (.alloc 26))
    (o7 : opIs ops 7 (some 9) (.alloc 26))
    (o8 : opIs ops 8 none (.store 26 (.tmp 8) (.tmp 18)))
    (o9 : opIs ops 9 none (.store 26 (.tmp 9) (.tmp 21)))
    (p1_0 : depB ops 1 0 = true)
    (p2_1 : depB ops 2 1 = true)
    (p4_3 : depB ops 4 3 = true)
    (p5_4 : depB ops 5 4 = true)
    (p5_2 : depB ops 5 2 = true)
    (p8_5 : depB ops 8 5 = true)
    (p8_6 : depB ops 8 6 = true)
    (p8_7 : depB ops 8 7 = true)
    (p9_8 : depB ops 9 8 = true)
    (hQ : ∀ f W, AN w0 pb #[.slice A0 k0 d0, .slice A1 k1 d1] W → admPh2 w0 g0 v0 g1 v1 f W → Q .normal ⟨patch t [16, 17, 18, 19, 20, 21, 8, 9] f, df⟩ W) : (Code.region id ops true).wp Tryz.prog Q ⟨t, df⟩ W := by
  refine wp_region_inv (by kernel_rfl) hback (admInv t df w0 pb A0 k0 d0 g0 v0 A1 k1 d1 g1 v1) ?_ ?_ ?_
  · refine ⟨_, congrArg (fun x => (⟨x, df⟩ : Act)) (patch_start t [16, 17, 18, 19, 20, 21, 8, 9]).symm, hAM.drew, .inl ⟨by simp [Array.getD, hsz], fun j _ h => ?_, fun x y _ _ _ h => ?_⟩⟩
    · simp [Array.getD] at h
    · simp [Array.getD] at h
  · rintro L a W i o ho hz hc hl hd ⟨f, rfl, hA, hI⟩
    have hi : i < 10 := by have := (Array.getElem?_eq_some_iff.1 ho).1; omega
    have no : ∀ {n : Nat}, (∀ j, j < n → L.getD j false = true) → i < n → False := fun h h2 => by
      have h3 := h i h2
      rw [getD_lt (c := true) (by omega), hl] at h3; cases h3
    obtain ⟨dst, op, ty, pos, after, guard⟩ := o
    match i, hi with
    | 0, _ =>
      have e := o0
      unfold opIs at e
      rw [ho] at e
      simp only [Option.map_some, Option.some.injEq, Prod.mk.injEq] at e
      obtain ⟨rfl, rfl, rfl⟩ := e
      rcases hI with ⟨hs, hF, hD⟩ | ⟨hall, _⟩ | ⟨hall, _⟩
      · refine wpOp_step ho (fun K hK => ?_)
        rw [if_pos (wanted_none rfl)]
        have x0 : (patch t [16, 17, 18, 19, 20, 21, 8, 9] f).getD 3 undef = .pointer (some ⟨pb, 0, none⟩) := (patch_out (by decide)).trans hpa
        go_simp
        refine hK _ _ ⟨upd f 16 (.pointer (some ⟨pb, 0, none⟩)), by rw [patch_set (by decide)], hA, .inl ⟨?_, adm_upd (i := 0) (by omega) hl hF (Below.refl _ _) rfl, adm_dist (i := 0) (by omega) (.inl (by omega)) hD⟩⟩
        rw [getD_set_ne (by omega)]; exact hs
      · exact (no hall (by omega)).elim
      · exact (no hall (by omega)).elim
    | 1, _ =>
      have e := o1
      unfold opIs at e
      rw [ho] at e
      simp only [Option.map_some, Option.some.injEq, Prod.mk.injEq] at e
      obtain ⟨rfl, rfl, rfl⟩ := e
      rcases hI with ⟨hs, hF, hD⟩ | ⟨hall, _⟩ | ⟨hall, _⟩
      · refine wpOp_step ho (fun K hK => ?_)
        rw [if_pos (wanted_none rfl)]
        have x0 : (patch t [16, 17, 18, 19, 20, 21, 8, 9] f).getD 16 undef = .pointer (some ⟨pb, 0, none⟩) := (patch_get (by omega) (by decide)).trans (hF 0 (by omega) (hd 0 p1_0))
        have x1 : W.cell? ⟨pb, 0, none⟩ = some (.slice A0 k0 d0) := hA.cell (i := 0) rfl
        go_simp
        refine hK _ _ ⟨upd f 17 (.slice A0 k0 d0), by rw [patch_set (by decide)], hA, .inl ⟨?_, adm_upd (i := 1) (by omega) hl hF (Below.refl _ _) rfl, adm_dist (i := 1) (by omega) (.inl (by omega)) hD⟩⟩
        rw [getD_set_ne (by omega)]; exact hs
      · exact (no hall (by omega)).elim
      · exact (no hall (by omega)).elim
    | 2, _ =>
      have e := o2
      unfold opIs at e
      rw [ho] at e
      simp only [Option.map_some, Option.some.injEq, Prod.mk.injEq] at e
      obtain ⟨rfl, rfl, rfl⟩ := e
      rcases hI with ⟨hs, hF, hD⟩ | ⟨hall, _⟩ | ⟨hall, _⟩
      · refine wpOp_step ho (fun K hK => ?_)
        rw [if_pos (wanted_none rfl)]
        have x0 : (patch t [16, 17, 18, 19, 20, 21, 8, 9] f).getD 17 undef = .slice A0 k0 d0 := (patch_get (by omega) (by decide)).trans (hF 1 (by omega) (hd 1 p2_1))
        go_simp
        refine (M0 W hA.below).mono ?_
        rintro e w1 ⟨A, n, c, rfl, hsl, hb⟩
        refine hK _ _ ⟨upd f 18 (.agg #[.bool g0, .slice A n c]), by rw [patch_set (by decide)], hA.via hb, .inl ⟨?_, adm_upd (i := 2) (by omega) hl hF hb ⟨A, n, c, rfl, hsl⟩, adm_dist (i := 2) (by omega) (.inl (by omega)) hD⟩⟩
        rw [getD_set_ne (by omega)]; exact hs
      · exact (no hall (by omega)).elim
      · exact (no hall (by omega)).elim
    | 3, _ =>
      have e := o3
      unfold opIs at e
      rw [ho] at e
      simp only [Option.map_some, Option.some.injEq, Prod.mk.injEq] at e
      obtain ⟨rfl, rfl, rfl⟩ := e
      rcases hI with ⟨hs, hF, hD⟩ | ⟨hall, _⟩ | ⟨hall, _⟩
      · refine wpOp_step ho (fun K hK => ?_)
        rw [if_pos (wanted_none rfl)]
        have x0 : (patch t [16, 17, 18, 19, 20, 21, 8, 9] f).getD 3 undef = .pointer (some ⟨pb, 0, none⟩) := (patch_out (by decide)).trans hpa
        go_simp
        refine hK _ _ ⟨upd f 19 (.pointer (some ⟨pb, 1, none⟩)), by rw [patch_set (by decide)], hA, .inl ⟨?_, adm_upd (i := 3) (by omega) hl hF (Below.refl _ _) rfl, adm_dist (i := 3) (by omega) (.inl (by omega)) hD⟩⟩
        rw [getD_set_ne (by omega)]; exact hs
      · exact (no hall (by omega)).elim
      · exact (no hall (by omega)).elim
    | 4, _ =>
      have e := o4
      unfold opIs at e
      rw [ho] at e
      simp only [Option.map_some, Option.some.injEq, Prod.mk.injEq] at e
      obtain ⟨rfl, rfl, rfl⟩ := e
      rcases hI with ⟨hs, hF, hD⟩ | ⟨hall, _⟩ | ⟨hall, _⟩
      · refine wpOp_step ho (fun K hK => ?_)
        rw [if_pos (wanted_none rfl)]
        have x0 : (patch t [16, 17, 18, 19, 20, 21, 8, 9] f).getD 19 undef = .pointer (some ⟨pb, 1, none⟩) := (patch_get (by omega) (by decide)).trans (hF 3 (by omega) (hd 3 p4_3))
        have x1 : W.cell? ⟨pb, 1, none⟩ = some (.slice A1 k1 d1) := hA.cell (i := 1) rfl
        go_simp
        refine hK _ _ ⟨upd f 20 (.slice A1 k1 d1), by rw [patch_set (by decide)], hA, .inl ⟨?_, adm_upd (i := 4) (by omega) hl hF (Below.refl _ _) rfl, adm_dist (i := 4) (by omega) (.inl (by omega)) hD⟩⟩
        rw [getD_set_ne (by omega)]; exact hs
      · exact (no hall (by omega)).elim
      · exact (no hall (by omega)).elim
    | 5, _ =>
      have e := o5
      unfold opIs at e
      rw [ho] at e
      simp only [Option.map_some, Option.some.injEq, Prod.mk.injEq] at e
      obtain ⟨rfl, rfl, rfl⟩ := e
      rcases hI with ⟨hs, hF, hD⟩ | ⟨hall, _⟩ | ⟨hall, _⟩
      · refine wpOp_step ho (fun K hK => ?_)
        rw [if_pos (wanted_none rfl)]
        have x0 : (patch t [16, 17, 18, 19, 20, 21, 8, 9] f).getD 20 undef = .slice A1 k1 d1 := (patch_get (by omega) (by decide)).trans (hF 4 (by omega) (hd 4 p5_4))
        go_simp
        refine (M1 W hA.below).mono ?_
        rintro e w1 ⟨A, n, c, rfl, hsl, hb⟩
        refine hK _ _ ⟨upd f 21 (.agg #[.bool g1, .slice A n c]), by rw [patch_set (by decide)], hA.via hb, .inl ⟨?_, adm_upd (i := 5) (by omega) hl hF hb ⟨A, n, c, rfl, hsl⟩, adm_dist (i := 5) (by omega) (.inl (by omega)) hD⟩⟩
        rw [getD_set_ne (by omega)]; exact hs
      · exact (no hall (by omega)).elim
      · exact (no hall (by omega)).elim
    | 6, _ =>
      have e := o6
      unfold opIs at e
      rw [ho] at e
      simp only [Option.map_some, Option.some.injEq, Prod.mk.injEq] at e
      obtain ⟨rfl, rfl, rfl⟩ := e
      rcases hI with ⟨hs, hF, hD⟩ | ⟨hall, _⟩ | ⟨hall, _⟩
      · refine wpOp_step ho (fun K hK => ?_)
        rw [if_pos (wanted_none rfl)]
        go_simp
        have hb : Below W.heap.size W (W.alloc (.cells #[.bool false, .slice none 0 0] 26)) := (Below.refl _ _).alloc (Nat.le_refl _) _
        refine hK _ _ ⟨upd f 8 (.pointer (some ⟨W.heap.size, 0, none⟩)), by rw [patch_set (by decide)], hA.via hb, .inl ⟨?_, adm_upd (i := 6) (by omega) hl hF hb ⟨_, rfl, FB.new _ _, hA.size⟩, adm_dist (i := 6) (by omega) (.inr fun x h1 h2 _ h3 e => ?_) hD⟩⟩
        · rw [getD_set_ne (by omega)]; exact hs
        · have h4 : HoldsC (f (admSlot x)) W w0.heap.size := by
            have := hF x h2 h3
            match x, h1, h2 with
            | 6, _, _ => exact this
            | 7, _, _ => exact this
          obtain ⟨q, e2, h5, _⟩ := h4
          rw [e] at e2
          cases e2
          exact absurd h5.2.2.2 (by omega)
      · exact (no hall (by omega)).elim
      · exact (no hall (by omega)).elim
    | 7, _ =>
      have e := o7
      unfold opIs at e
      rw [ho] at e
      simp only [Option.map_some, Option.some.injEq, Prod.mk.injEq] at e
      obtain ⟨rfl, rfl, rfl⟩ := e
      rcases hI with ⟨hs, hF, hD⟩ | ⟨hall, _⟩ | ⟨hall, _⟩
      · refine wpOp_step ho (fun K hK => ?_)
        rw [if_pos (wanted_none rfl)]
        go_simp
        have hb : Below W.heap.size W (W.alloc (.cells #[.bool false, .slice none 0 0] 26)) := (Below.refl _ _).alloc (Nat.le_refl _) _
        refine hK _ _ ⟨upd f 9 (.pointer (some ⟨W.heap.size, 0, none⟩)), by rw [patch_set (by decide)], hA.via hb, .inl ⟨?_, adm_upd (i := 7) (by omega) hl hF hb ⟨_, rfl, FB.new _ _, hA.size⟩, adm_dist (i := 7) (by omega) (.inr fun x h1 h2 _ h3 e => ?_) hD⟩⟩
        · rw [getD_set_ne (by omega)]; exact hs
        · have h4 : HoldsC (f (admSlot x)) W w0.heap.size := by
            have := hF x h2 h3
            match x, h1, h2 with
            | 6, _, _ => exact this
            | 7, _, _ => exact this
          obtain ⟨q, e2, h5, _⟩ := h4
          rw [e] at e2
          cases e2
          exact absurd h5.2.2.2 (by omega)
      · exact (no hall (by omega)).elim
      · exact (no hall (by omega)).elim
    | 8, _ =>
      have e := o8
      unfold opIs at e
      rw [ho] at e
      simp only [Option.map_some, Option.some.injEq, Prod.mk.injEq] at e
      obtain ⟨rfl, rfl, rfl⟩ := e
      rcases hI with ⟨hs, hF, hD⟩ | ⟨hall, _⟩ | ⟨hall, _⟩
      · have hall : ∀ j, j < 8 → L.getD j false = true := by
          have y5 := hd 5 p8_5
          have y6 := hd 6 p8_6
          have y7 := hd 7 p8_7
          have y4 := hc 5 4 p5_4 (by rw [getD_lt (c := false) (by omega)]; exact y5) (by omega)
          have y3 := hc 4 3 p4_3 (by rw [getD_lt (c := false) (by omega)]; exact y4) (by omega)
          have y2 := hc 5 2 p5_2 (by rw [getD_lt (c := false) (by omega)]; exact y5) (by omega)
          have y1 := hc 2 1 p2_1 (by rw [getD_lt (c := false) (by omega)]; exact y2) (by omega)
          have y0 := hc 1 0 p1_0 (by rw [getD_lt (c := false) (by omega)]; exact y1) (by omega)
          intro j hj
          match j, hj with
          | 0, _ => exact y0
          | 1, _ => exact y1
          | 2, _ => exact y2
          | 3, _ => exact y3
          | 4, _ => exact y4
          | 5, _ => exact y5
          | 6, _ => exact y6
          | 7, _ => exact y7
        obtain ⟨q0, z0, fb0, hq0⟩ : HoldsC (f 8) W w0.heap.size := hF 6 (by omega) (hall 6 (by omega))
        obtain ⟨a0, n0, c0, r0, sl0⟩ : HoldsL (f 18) W g0 v0 := hF 2 (by omega) (hall 2 (by omega))
        obtain ⟨q1, z1, fb1, hq1⟩ : HoldsC (f 9) W w0.heap.size := hF 7 (by omega) (hall 7 (by omega))
        obtain ⟨a1, n1, c1, r1, sl1⟩ : HoldsL (f 21) W g1 v1 := hF 5 (by omega) (hall 5 (by omega))
        have hn01 : q0 ≠ q1 := fun e => hD 6 7 (by omega) (by omega) (by omega) (hall 6 (by omega)) (hall 7 (by omega)) (show f 8 = f 9 by rw [z0, z1, e])
        have hall2 : ∀ j, j < 9 → (L.setIfInBounds 8 true).getD j false = true := fun j hj => by
          by_cases h : j = 8
          · subst h; exact getD_set_self (by omega)
          · exact getD_set_of (hall j (by omega))
        refine wpOp_step ho (fun K hK => ?_)
        rw [if_pos (wanted_none rfl)]
        have x0 : (patch t [16, 17, 18, 19, 20, 21, 8, 9] f).getD 8 undef = .pointer (some ⟨q0, 0, none⟩) := (patch_get (by omega) (by decide)).trans z0
        have x1 : (patch t [16, 17, 18, 19, 20, 21, 8, 9] f).getD 18 undef = .agg #[.bool g0, .slice a0 n0 c0] := (patch_get (by omega) (by decide)).trans r0
        have hfb := fb0
        obtain ⟨w1, w2, w3, w4⟩ := hfb
        go_simp
        refine hK _ _ ⟨f, rfl, hA.put hq0 g0 a0 n0 c0, .inr (.inl ⟨hall2, ⟨_, _, _, _, _, _, _, _, z0, r0, put_sl fb0 sl0, put_newl fb0 sl0, hq0, z1, r1, put_sl fb0 sl1, put_fb (Ne.symm hn01) fb1, hq1, hn01⟩, ?_⟩)⟩
        rw [getD_set_ne (by omega)]
        cases hx : L.getD 9 false with
        | false => rfl
        | true =>
          have h9 := hc 9 8 p9_8 (by rw [getD_lt (c := false) (by omega)]; exact hx) (by omega)
          rw [getD_lt (c := true) (by omega), hl] at h9; cases h9
      · exact (no hall (by omega)).elim
      · exact (no hall (by omega)).elim
    | 9, _ =>
      have e := o9
      unfold opIs at e
      rw [ho] at e
      simp only [Option.map_some, Option.some.injEq, Prod.mk.injEq] at e
      obtain ⟨rfl, rfl, rfl⟩ := e
      have hdp := hd 8 p9_8
      rcases hI with ⟨hs, hF, hD⟩ | ⟨hall, hP, hno⟩ | ⟨hall, _⟩
      · rw [hs] at hdp; cases hdp
      · obtain ⟨q0, a0, n0, c0, q1, a1, n1, c1, z0, r0, sl0, ob0, hq0, z1, r1, sl1, fb1, hq1, hn01⟩ := hP
        have hall2 : ∀ j, j < 10 → (L.setIfInBounds 9 true).getD j false = true := fun j hj => by
          by_cases h : j = 9
          · subst h; exact getD_set_self (by omega)
          · exact getD_set_of (hall j (by omega))
        refine wpOp_step ho (fun K hK => ?_)
        rw [if_pos (wanted_none rfl)]
        have x0 : (patch t [16, 17, 18, 19, 20, 21, 8, 9] f).getD 9 undef = .pointer (some ⟨q1, 0, none⟩) := (patch_get (by omega) (by decide)).trans z1
        have x1 : (patch t [16, 17, 18, 19, 20, 21, 8, 9] f).getD 21 undef = .agg #[.bool g1, .slice a1 n1 c1] := (patch_get (by omega) (by decide)).trans r1
        have hfb := fb1
        obtain ⟨w1, w2, w3, w4⟩ := hfb
        go_simp
        refine hK _ _ ⟨f, rfl, hA.put hq1 g1 a1 n1 c1, .inr (.inr (⟨hall2, ⟨_, _, _, _, _, _, _, _, z0, r0, put_sl fb1 sl0, put_ol fb1 hn01 ob0, hq0, z1, r1, put_sl fb1 sl1, put_newl fb1 sl1, hq1, hn01⟩⟩))⟩
      · exact (no hall (by omega)).elim
  · rintro L a W hL ⟨f, rfl, hA, h⟩
    rcases h with ⟨h, _⟩ | ⟨_, _, h⟩ | ⟨_, h⟩
    · rw [hL 8 (by omega)] at h; cases h
    · rw [hL 9 (by omega)] at h; cases h
    · exact hQ f W hA h
/-- What holds of an operation of the region that has been carried out: of its value. -/
def adcFact (w0 : World) (pb : Nat) (A0 : Option Addr) (k0 d0 : Nat) (g0 : Bool) (v0 : List Nat) (A1 : Option Addr) (k1 d1 : Nat) (g1 : Bool) (v1 : List Nat) (j : Nat) (u : Value) (W : World) : Prop := match j with
  | 0 => u = .pointer (some ⟨pb, 0, none⟩)
  | 1 => u = .agg #[.bool g0, .slice A0 k0 d0]
  | 2 => HoldsL u W g0 v0
  | 3 => u = .pointer (some ⟨pb, 2, none⟩)
  | 4 => u = .agg #[.bool g1, .slice A1 k1 d1]
  | 5 => HoldsL u W g1 v1
  | 6 => HoldsC u W w0.heap.size
  | 7 => HoldsC u W w0.heap.size
  | _ => True
def adcSlot (j : Nat) : Nat := match j with
  | 0 => 27
  | 1 => 28
  | 2 => 29
  | 3 => 30
  | 4 => 31
  | 5 => 32
  | 6 => 11
  | 7 => 12
  | _ => 0
theorem adc_via {w0 W W1 : World} {pb : Nat} {A0 : Option Addr} {k0 d0 : Nat} {g0 : Bool} {v0 : List Nat} {A1 : Option Addr} {k1 d1 : Nat} {g1 : Bool} {v1 : List Nat} {j : Nat} {u : Value} (h : adcFact w0 pb A0 k0 d0 g0 v0 A1 k1 d1 g1 v1 j u W) (hb : Below W.heap.size W W1) : adcFact w0 pb A0 k0 d0 g0 v0 A1 k1 d1 g1 v1 j u W1 := by
  unfold adcFact at h ⊢
  split <;> first | exact h | exact HoldsL.via h hb | exact HoldsC.via h hb | trivial | fail "no"
theorem adc_inj : ∀ x, x < 8 → ∀ y, y < 8 → x ≠ y → adcSlot x ≠ adcSlot y := by decide
theorem adc_upd {w0 W W1 : World} {pb : Nat} {A0 : Option Addr} {k0 d0 : Nat} {g0 : Bool} {v0 : List Nat} {A1 : Option Addr} {k1 d1 : Nat} {g1 : Bool} {v1 : List Nat} {f : Nat → Value} {L : Array Bool} {i : Nat} {v : Value} (hi : i < 8) (hl : L.getD i true = false) (hF : ∀ j, j < 8 → L.getD j false = true → adcFact w0 pb A0 k0 d0 g0 v0 A1 k1 d1 g1 v1 j (f (adcSlot j)) W) (hb : Below W.heap.size W W1) (hv : adcFact w0 pb A0 k0 d0 g0 v0 A1 k1 d1 g1 v1 i v W1) :
    ∀ j, j < 8 → (L.setIfInBounds i true).getD j false = true → adcFact w0 pb A0 k0 d0 g0 v0 A1 k1 d1 g1 v1 j (upd f (adcSlot i) v (adcSlot j)) W1 := by
  intro j hj h
  by_cases hji : j = i
  · subst hji; rw [upd_same]; exact hv
  · rw [upd_other (adc_inj j hj i hi hji)]
    rcases getD_set h with h | h
    · exact absurd h hji
    · exact adc_via (hF j hj h) hb
theorem adc_dist {f : Nat → Value} {L : Array Bool} {i : Nat} {v : Value} (hi : i < 8) (hn : i < 6 ∨ ∀ x, 6 ≤ x → x < 8 → x ≠ i → L.getD x false = true → f (adcSlot x) ≠ v) (hD : ∀ x y, 6 ≤ x → x < y → y < 8 → L.getD x false = true → L.getD y false = true → f (adcSlot x) ≠ f (adcSlot y)) :
    ∀ x y, 6 ≤ x → x < y → y < 8 → (L.setIfInBounds i true).getD x false = true → (L.setIfInBounds i true).getD y false = true → upd f (adcSlot i) v (adcSlot x) ≠ upd f (adcSlot i) v (adcSlot y) := by
  intro x y h1 h2 h3 hx hy
  by_cases hxi : x = i
  · subst hxi
    rw [upd_same, upd_other (adc_inj y h3 x hi (by omega))]
    rcases getD_set hy with h | h
    · omega
    · rcases hn with hn | hn
      · omega
      · exact Ne.symm (hn y (by omega) h3 (by omega) h)
  · rw [upd_other (adc_inj x (by omega) i hi hxi)]
    rcases getD_set hx with h | hx2
    · exact absurd h hxi
    · by_cases hyi : y = i
      · subst hyi
        rw [upd_same]
        rcases hn with hn | hn
        · omega
        · exact hn x h1 (by omega) hxi hx2
      · rw [upd_other (adc_inj y h3 i hi hyi)]
        rcases getD_set hy with h | hy2
        · exact absurd h hyi
        · exact hD x y h1 h2 h3 hx2 hy2
def adcPh0 (w0 : World) (g0 : Bool) (v0 : List Nat) (g1 : Bool) (v1 : List Nat) (f : Nat → Value) (W : World) : Prop := ∃ q0 a0 n0 c0 q1 a1 n1 c1, f 11 = .pointer (some ⟨q0, 0, none⟩) ∧ f 29 = .agg #[.bool g0, .slice a0 n0 c0] ∧ Sl W W.heap.size a0 n0 c0 (v0) ∧ FB W q0 ∧ w0.heap.size ≤ q0 ∧ f 12 = .pointer (some ⟨q1, 0, none⟩) ∧ f 32 = .agg #[.bool g1, .slice a1 n1 c1] ∧ Sl W W.heap.size a1 n1 c1 (v1) ∧ FB W q1 ∧ w0.heap.size ≤ q1 ∧ q0 ≠ q1
def adcPh1 (w0 : World) (g0 : Bool) (v0 : List Nat) (g1 : Bool) (v1 : List Nat) (f : Nat → Value) (W : World) : Prop := ∃ q0 a0 n0 c0 q1 a1 n1 c1, f 11 = .pointer (some ⟨q0, 0, none⟩) ∧ f 29 = .agg #[.bool g0, .slice a0 n0 c0] ∧ Sl W W.heap.size a0 n0 c0 (v0) ∧ OL W q0 g0 a0 n0 c0 v0 ∧ w0.heap.size ≤ q0 ∧ f 12 = .pointer (some ⟨q1, 0, none⟩) ∧ f 32 = .agg #[.bool g1, .slice a1 n1 c1] ∧ Sl W W.heap.size a1 n1 c1 (v1) ∧ FB W q1 ∧ w0.heap.size ≤ q1 ∧ q0 ≠ q1
def adcPh2 (w0 : World) (g0 : Bool) (v0 : List Nat) (g1 : Bool) (v1 : List Nat) (f : Nat → Value) (W : World) : Prop := ∃ q0 a0 n0 c0 q1 a1 n1 c1, f 11 = .pointer (some ⟨q0, 0, none⟩) ∧ f 29 = .agg #[.bool g0, .slice a0 n0 c0] ∧ Sl W W.heap.size a0 n0 c0 (v0) ∧ OL W q0 g0 a0 n0 c0 v0 ∧ w0.heap.size ≤ q0 ∧ f 12 = .pointer (some ⟨q1, 0, none⟩) ∧ f 32 = .agg #[.bool g1, .slice a1 n1 c1] ∧ Sl W W.heap.size a1 n1 c1 (v1) ∧ OL W q1 g1 a1 n1 c1 v1 ∧ w0.heap.size ≤ q1 ∧ q0 ≠ q1
def adcInv (t : Array Value) (df : List Deferred) (w0 : World) (pb : Nat) (A0 : Option Addr) (k0 d0 : Nat) (g0 : Bool) (v0 : List Nat) (A1 : Option Addr) (k1 d1 : Nat) (g1 : Bool) (v1 : List Nat) (L : Array Bool) (a : Act) (W : World) : Prop :=
  ∃ f, a = ⟨patch t [27, 28, 29, 30, 31, 32, 11, 12] f, df⟩ ∧ AN w0 pb #[.bool g0, .slice A0 k0 d0, .bool g1, .slice A1 k1 d1] W ∧
    ((L.getD 8 false = false ∧ (∀ j, j < 8 → L.getD j false = true → adcFact w0 pb A0 k0 d0 g0 v0 A1 k1 d1 g1 v1 j (f (adcSlot j)) W) ∧ (∀ x y, 6 ≤ x → x < y → y < 8 → L.getD x false = true → L.getD y false = true → f (adcSlot x) ≠ f (adcSlot y))) ∨ ((∀ j, j < 9 → L.getD j false = true) ∧ adcPh1 w0 g0 v0 g1 v1 f W ∧ L.getD 9 false = false) ∨ ((∀ j, j < 10 → L.getD j false = true) ∧ adcPh2 w0 g0 v0 g1 v1 f W))
set_option maxRecDepth 100000 in
set_option maxHeartbeats 4000000 in
theorem adc_region {ops : Array Oper} {Q : Exit → Act → World → Prop} {id : Nat} (t : Array Value) (df : List Deferred) (w0 W : World) (pb : Nat) (A0 : Option Addr) (k0 d0 : Nat) (g0 : Bool) (v0 : List Nat) (A1 : Option Addr) (k1 d1 : Nat) (g1 : Bool) (v1 : List Nat)
    (hsz : ops.size = 10) (hback : backB ops = true) (hts : 32 < t.size) (hpa : t.getD 5 undef = .pointer (some ⟨pb, 0, none⟩)) (hAM : AN w0 pb #[.bool g0, .slice A0 k0 d0, .bool g1, .slice A1 k1 d1] W)
    (M0 : ∀ (W : World), Below w0.heap.size w0 W → Calls Tryz.prog 8 #[.agg #[.bool g0, .slice A0 k0 d0], .int .i64 68] W (NL g0 v0 W))
    (M1 : ∀ (W : World), Below w0.heap.size w0 W → Calls Tryz.prog 8 #[.agg #[.bool g1, .slice A1 k1 d1], .int .i64 68] W (NL g1 v1 W))
    (o0 : opIs ops 0 (some 27) (.indexAddr 27 (.tmp 5) (.const (.int .i64 0))))
    (o1 : opIs ops 1 (some 28) (.load 26 (.tmp 27)))
    (o2 : opIs ops 2 (some 29) (.call { callee := .value (.func 8), args := #[.tmp 28, .const (.int .i64 68)], argTypes := #[26, 3] }))
    (o3 : opIs ops 3 (some 30) (.indexAddr 27 (.tmp 5) (.const (.int .i64 1))))
    (o4 : opIs ops 4 (some 31) (.load 26 (.tmp 30)))
    (o5 : opIs ops 5 (some 32) (.call { callee := .value (.func 8), args := #[.tmp 31, .const (.int .i64 68)], argTypes := #[26, 3] }))
    (o6 : opIs ops 6 (some 11) (.alloc 26))
    (o7 : opIs ops 7 (some 12) (.alloc 26))
    (o8 : opIs ops 8 none (.store 26 (.tmp 11) (.tmp 29)))
    (o9 : opIs ops 9 none (.store 26 (.tmp 12) (.tmp 32)))
    (p1_0 : depB ops 1 0 = true)
    (p2_1 : depB ops 2 1 = true)
    (p4_3 : depB ops 4 3 = true)
    (p5_4 : depB ops 5 4 = true)
    (p5_2 : depB ops 5 2 = true)
    (p8_5 : depB ops 8 5 = true)
    (p8_6 : depB ops 8 6 = true)
    (p8_7 : depB ops 8 7 = true)
    (p9_8 : depB ops 9 8 = true)
    (hQ : ∀ f W, AN w0 pb #[.bool g0, .slice A0 k0 d0, .bool g1, .slice A1 k1 d1] W → adcPh2 w0 g0 v0 g1 v1 f W → Q .normal ⟨patch t [27, 28, 29, 30, 31, 32, 11, 12] f, df⟩ W) : (Code.region id ops true).wp Tryz.prog Q ⟨t, df⟩ W := by
  refine wp_region_inv (by kernel_rfl) hback (adcInv t df w0 pb A0 k0 d0 g0 v0 A1 k1 d1 g1 v1) ?_ ?_ ?_
  · refine ⟨_, congrArg (fun x => (⟨x, df⟩ : Act)) (patch_start t [27, 28, 29, 30, 31, 32, 11, 12]).symm, hAM.drew, .inl ⟨by simp [Array.getD, hsz], fun j _ h => ?_, fun x y _ _ _ h => ?_⟩⟩
    · simp [Array.getD] at h
    · simp [Array.getD] at h
  · rintro L a W i o ho hz hc hl hd ⟨f, rfl, hA, hI⟩
    have hi : i < 10 := by have := (Array.getElem?_eq_some_iff.1 ho).1; omega
    have no : ∀ {n : Nat}, (∀ j, j < n → L.getD j false = true) → i < n → False := fun h h2 => by
      have h3 := h i h2
      rw [getD_lt (c := true) (by omega), hl] at h3; cases h3
    obtain ⟨dst, op, ty, pos, after, guard⟩ := o
    match i, hi with
    | 0, _ =>
      have e := o0
      unfold opIs at e
      rw [ho] at e
      simp only [Option.map_some, Option.some.injEq, Prod.mk.injEq] at e
      obtain ⟨rfl, rfl, rfl⟩ := e
      rcases hI with ⟨hs, hF, hD⟩ | ⟨hall, _⟩ | ⟨hall, _⟩
      · refine wpOp_step ho (fun K hK => ?_)
        rw [if_pos (wanted_none rfl)]
        have x0 : (patch t [27, 28, 29, 30, 31, 32, 11, 12] f).getD 5 undef = .pointer (some ⟨pb, 0, none⟩) := (patch_out (by decide)).trans hpa
        go_simp
        refine hK _ _ ⟨upd f 27 (.pointer (some ⟨pb, 0, none⟩)), by rw [patch_set (by decide)], hA, .inl ⟨?_, adc_upd (i := 0) (by omega) hl hF (Below.refl _ _) rfl, adc_dist (i := 0) (by omega) (.inl (by omega)) hD⟩⟩
        rw [getD_set_ne (by omega)]; exact hs
      · exact (no hall (by omega)).elim
      · exact (no hall (by omega)).elim
    | 1, _ =>
      have e := o1
      unfold opIs at e
      rw [ho] at e
      simp only [Option.map_some, Option.some.injEq, Prod.mk.injEq] at e
      obtain ⟨rfl, rfl, rfl⟩ := e
      rcases hI with ⟨hs, hF, hD⟩ | ⟨hall, _⟩ | ⟨hall, _⟩
      · refine wpOp_step ho (fun K hK => ?_)
        rw [if_pos (wanted_none rfl)]
        have x0 : (patch t [27, 28, 29, 30, 31, 32, 11, 12] f).getD 27 undef = .pointer (some ⟨pb, 0, none⟩) := (patch_get (by omega) (by decide)).trans (hF 0 (by omega) (hd 0 p1_0))
        have x1 : W.cell? ⟨pb, 0, none⟩ = some (.bool g0) := hA.cell (i := 0) rfl
        have x2 : W.cell? ⟨pb, 1, none⟩ = some (.slice A0 k0 d0) := hA.cell (i := 1) rfl
        go_simp
        refine hK _ _ ⟨upd f 28 (.agg #[.bool g0, .slice A0 k0 d0]), by rw [patch_set (by decide)], hA, .inl ⟨?_, adc_upd (i := 1) (by omega) hl hF (Below.refl _ _) rfl, adc_dist (i := 1) (by omega) (.inl (by omega)) hD⟩⟩
        rw [getD_set_ne (by omega)]; exact hs
      · exact (no hall (by omega)).elim
      · exact (no hall (by omega)).elim
    | 2, _ =>
      have e := o2
      unfold opIs at e
      rw [ho] at e
      simp only [Option.map_some, Option.some.injEq, Prod.mk.injEq] at e
      obtain ⟨rfl, rfl, rfl⟩ := e
      rcases hI with ⟨hs, hF, hD⟩ | ⟨hall, _⟩ | ⟨hall, _⟩
      · refine wpOp_step ho (fun K hK => ?_)
        rw [if_pos (wanted_none rfl)]
        have x0 : (patch t [27, 28, 29, 30, 31, 32, 11, 12] f).getD 28 undef = .agg #[.bool g0, .slice A0 k0 d0] := (patch_get (by omega) (by decide)).trans (hF 1 (by omega) (hd 1 p2_1))
        go_simp
        refine (M0 W hA.below).mono ?_
        rintro e w1 ⟨A, n, c, rfl, hsl, hb⟩
        refine hK _ _ ⟨upd f 29 (.agg #[.bool g0, .slice A n c]), by rw [patch_set (by decide)], hA.via hb, .inl ⟨?_, adc_upd (i := 2) (by omega) hl hF hb ⟨A, n, c, rfl, hsl⟩, adc_dist (i := 2) (by omega) (.inl (by omega)) hD⟩⟩
        rw [getD_set_ne (by omega)]; exact hs
      · exact (no hall (by omega)).elim
      · exact (no hall (by omega)).elim
    | 3, _ =>
      have e := o3
      unfold opIs at e
      rw [ho] at e
      simp only [Option.map_some, Option.some.injEq, Prod.mk.injEq] at e
      obtain ⟨rfl, rfl, rfl⟩ := e
      rcases hI with ⟨hs, hF, hD⟩ | ⟨hall, _⟩ | ⟨hall, _⟩
      · refine wpOp_step ho (fun K hK => ?_)
        rw [if_pos (wanted_none rfl)]
        have x0 : (patch t [27, 28, 29, 30, 31, 32, 11, 12] f).getD 5 undef = .pointer (some ⟨pb, 0, none⟩) := (patch_out (by decide)).trans hpa
        go_simp
        refine hK _ _ ⟨upd f 30 (.pointer (some ⟨pb, 2, none⟩)), by rw [patch_set (by decide)], hA, .inl ⟨?_, adc_upd (i := 3) (by omega) hl hF (Below.refl _ _) rfl, adc_dist (i := 3) (by omega) (.inl (by omega)) hD⟩⟩
        rw [getD_set_ne (by omega)]; exact hs
      · exact (no hall (by omega)).elim
      · exact (no hall (by omega)).elim
    | 4, _ =>
      have e := o4
      unfold opIs at e
      rw [ho] at e
      simp only [Option.map_some, Option.some.injEq, Prod.mk.injEq] at e
      obtain ⟨rfl, rfl, rfl⟩ := e
      rcases hI with ⟨hs, hF, hD⟩ | ⟨hall, _⟩ | ⟨hall, _⟩
      · refine wpOp_step ho (fun K hK => ?_)
        rw [if_pos (wanted_none rfl)]
        have x0 : (patch t [27, 28, 29, 30, 31, 32, 11, 12] f).getD 30 undef = .pointer (some ⟨pb, 2, none⟩) := (patch_get (by omega) (by decide)).trans (hF 3 (by omega) (hd 3 p4_3))
        have x1 : W.cell? ⟨pb, 2, none⟩ = some (.bool g1) := hA.cell (i := 2) rfl
        have x2 : W.cell? ⟨pb, 3, none⟩ = some (.slice A1 k1 d1) := hA.cell (i := 3) rfl
        go_simp
        refine hK _ _ ⟨upd f 31 (.agg #[.bool g1, .slice A1 k1 d1]), by rw [patch_set (by decide)], hA, .inl ⟨?_, adc_upd (i := 4) (by omega) hl hF (Below.refl _ _) rfl, adc_dist (i := 4) (by omega) (.inl (by omega)) hD⟩⟩
        rw [getD_set_ne (by omega)]; exact hs
      · exact (no hall (by omega)).elim
      · exact (no hall (by omega)).elim
    | 5, _ =>
      have e := o5
      unfold opIs at e
      rw [ho] at e
      simp only [Option.map_some, Option.some.injEq, Prod.mk.injEq] at e
      obtain ⟨rfl, rfl, rfl⟩ := e
      rcases hI with ⟨hs, hF, hD⟩ | ⟨hall, _⟩ | ⟨hall, _⟩
      · refine wpOp_step ho (fun K hK => ?_)
        rw [if_pos (wanted_none rfl)]
        have x0 : (patch t [27, 28, 29, 30, 31, 32, 11, 12] f).getD 31 undef = .agg #[.bool g1, .slice A1 k1 d1] := (patch_get (by omega) (by decide)).trans (hF 4 (by omega) (hd 4 p5_4))
        go_simp
        refine (M1 W hA.below).mono ?_
        rintro e w1 ⟨A, n, c, rfl, hsl, hb⟩
        refine hK _ _ ⟨upd f 32 (.agg #[.bool g1, .slice A n c]), by rw [patch_set (by decide)], hA.via hb, .inl ⟨?_, adc_upd (i := 5) (by omega) hl hF hb ⟨A, n, c, rfl, hsl⟩, adc_dist (i := 5) (by omega) (.inl (by omega)) hD⟩⟩
        rw [getD_set_ne (by omega)]; exact hs
      · exact (no hall (by omega)).elim
      · exact (no hall (by omega)).elim
    | 6, _ =>
      have e := o6
      unfold opIs at e
      rw [ho] at e
      simp only [Option.map_some, Option.some.injEq, Prod.mk.injEq] at e
      obtain ⟨rfl, rfl, rfl⟩ := e
      rcases hI with ⟨hs, hF, hD⟩ | ⟨hall, _⟩ | ⟨hall, _⟩
      · refine wpOp_step ho (fun K hK => ?_)
        rw [if_pos (wanted_none rfl)]
        go_simp
        have hb : Below W.heap.size W (W.alloc (.cells #[.bool false, .slice none 0 0] 26)) := (Below.refl _ _).alloc (Nat.le_refl _) _
        refine hK _ _ ⟨upd f 11 (.pointer (some ⟨W.heap.size, 0, none⟩)), by rw [patch_set (by decide)], hA.via hb, .inl ⟨?_, adc_upd (i := 6) (by omega) hl hF hb ⟨_, rfl, FB.new _ _, hA.size⟩, adc_dist (i := 6) (by omega) (.inr fun x h1 h2 _ h3 e => ?_) hD⟩⟩
        · rw [getD_set_ne (by omega)]; exact hs
        · have h4 : HoldsC (f (adcSlot x)) W w0.heap.size := by
            have := hF x h2 h3
            match x, h1, h2 with
            | 6, _, _ => exact this
            | 7, _, _ => exact this
          obtain ⟨q, e2, h5, _⟩ := h4
          rw [e] at e2
          cases e2
          exact absurd h5.2.2.2 (by omega)
      · exact (no hall (by omega)).elim
      · exact (no hall (by omega)).elim
    | 7, _ =>
      have e := o7
      unfold opIs at e
      rw [ho] at e
      simp only [Option.map_some, Option.some.injEq, Prod.mk.injEq] at e
      obtain ⟨rfl, rfl, rfl⟩ := e
      rcases hI with ⟨hs, hF, hD⟩ | ⟨hall, _⟩ | ⟨hall, _⟩
      · refine wpOp_step ho (fun K hK => ?_)
        rw [if_pos (wanted_none rfl)]
        go_simp
        have hb : Below W.heap.size W (W.alloc (.cells #[.bool false, .slice none 0 0] 26)) := (Below.refl _ _).alloc (Nat.le_refl _) _
        refine hK _ _ ⟨upd f 12 (.pointer (some ⟨W.heap.size, 0, none⟩)), by rw [patch_set (by decide)], hA.via hb, .inl ⟨?_, adc_upd (i := 7) (by omega) hl hF hb ⟨_, rfl, FB.new _ _, hA.size⟩, adc_dist (i := 7) (by omega) (.inr fun x h1 h2 _ h3 e => ?_) hD⟩⟩
        · rw [getD_set_ne (by omega)]; exact hs
        · have h4 : HoldsC (f (adcSlot x)) W w0.heap.size := by
            have := hF x h2 h3
            match x, h1, h2 with
            | 6, _, _ => exact this
            | 7, _, _ => exact this
          obtain ⟨q, e2, h5, _⟩ := h4
          rw [e] at e2
          cases e2
          exact absurd h5.2.2.2 (by omega)
      · exact (no hall (by omega)).elim
      · exact (no hall (by omega)).elim
    | 8, _ =>
      have e := o8
      unfold opIs at e
      rw [ho] at e
      simp only [Option.map_some, Option.some.injEq, Prod.mk.injEq] at e
      obtain ⟨rfl, rfl, rfl⟩ := e
      rcases hI with ⟨hs, hF, hD⟩ | ⟨hall, _⟩ | ⟨hall, _⟩
      · have hall : ∀ j, j < 8 → L.getD j false = true := by
          have y5 := hd 5 p8_5
          have y6 := hd 6 p8_6
          have y7 := hd 7 p8_7
          have y4 := hc 5 4 p5_4 (by rw [getD_lt (c := false) (by omega)]; exact y5) (by omega)
          have y3 := hc 4 3 p4_3 (by rw [getD_lt (c := false) (by omega)]; exact y4) (by omega)
          have y2 := hc 5 2 p5_2 (by rw [getD_lt (c := false) (by omega)]; exact y5) (by omega)
          have y1 := hc 2 1 p2_1 (by rw [getD_lt (c := false) (by omega)]; exact y2) (by omega)
          have y0 := hc 1 0 p1_0 (by rw [getD_lt (c := false) (by omega)]; exact y1) (by omega)
          intro j hj
          match j, hj with
          | 0, _ => exact y0
          | 1, _ => exact y1
          | 2, _ => exact y2
          | 3, _ => exact y3
          | 4, _ => exact y4
          | 5, _ => exact y5
          | 6, _ => exact y6
          | 7, _ => exact y7
        obtain ⟨q0, z0, fb0, hq0⟩ : HoldsC (f 11) W w0.heap.size := hF 6 (by omega) (hall 6 (by omega))
        obtain ⟨a0, n0, c0, r0, sl0⟩ : HoldsL (f 29) W g0 v0 := hF 2 (by omega) (hall 2 (by omega))
        obtain ⟨q1, z1, fb1, hq1⟩ : HoldsC (f 12) W w0.heap.size := hF 7 (by omega) (hall 7 (by omega))
        obtain ⟨a1, n1, c1, r1, sl1⟩ : HoldsL (f 32) W g1 v1 := hF 5 (by omega) (hall 5 (by omega))
        have hn01 : q0 ≠ q1 := fun e => hD 6 7 (by omega) (by omega) (by omega) (hall 6 (by omega)) (hall 7 (by omega)) (show f 11 = f 12 by rw [z0, z1, e])
        have hall2 : ∀ j, j < 9 → (L.setIfInBounds 8 true).getD j false = true := fun j hj => by
          by_cases h : j = 8
          · subst h; exact getD_set_self (by omega)
          · exact getD_set_of (hall j (by omega))
        refine wpOp_step ho (fun K hK => ?_)
        rw [if_pos (wanted_none rfl)]
        have x0 : (patch t [27, 28, 29, 30, 31, 32, 11, 12] f).getD 11 undef = .pointer (some ⟨q0, 0, none⟩) := (patch_get (by omega) (by decide)).trans z0
        have x1 : (patch t [27, 28, 29, 30, 31, 32, 11, 12] f).getD 29 undef = .agg #[.bool g0, .slice a0 n0 c0] := (patch_get (by omega) (by decide)).trans r0
        have hfb := fb0
        obtain ⟨w1, w2, w3, w4⟩ := hfb
        go_simp
        refine hK _ _ ⟨f, rfl, hA.put hq0 g0 a0 n0 c0, .inr (.inl ⟨hall2, ⟨_, _, _, _, _, _, _, _, z0, r0, put_sl fb0 sl0, put_newl fb0 sl0, hq0, z1, r1, put_sl fb0 sl1, put_fb (Ne.symm hn01) fb1, hq1, hn01⟩, ?_⟩)⟩
        rw [getD_set_ne (by omega)]
        cases hx : L.getD 9 false with
        | false => rfl
        | true =>
          have h9 := hc 9 8 p9_8 (by rw [getD_lt (c := false) (by omega)]; exact hx) (by omega)
          rw [getD_lt (c := true) (by omega), hl] at h9; cases h9
      · exact (no hall (by omega)).elim
      · exact (no hall (by omega)).elim
    | 9, _ =>
      have e := o9
      unfold opIs at e
      rw [ho] at e
      simp only [Option.map_some, Option.some.injEq, Prod.mk.injEq] at e
      obtain ⟨rfl, rfl, rfl⟩ := e
      have hdp := hd 8 p9_8
      rcases hI with ⟨hs, hF, hD⟩ | ⟨hall, hP, hno⟩ | ⟨hall, _⟩
      · rw [hs] at hdp; cases hdp
      · obtain ⟨q0, a0, n0, c0, q1, a1, n1, c1, z0, r0, sl0, ob0, hq0, z1, r1, sl1, fb1, hq1, hn01⟩ := hP
        have hall2 : ∀ j, j < 10 → (L.setIfInBounds 9 true).getD j false = true := fun j hj => by
          by_cases h : j = 9
          · subst h; exact getD_set_self (by omega)
          · exact getD_set_of (hall j (by omega))
        refine wpOp_step ho (fun K hK => ?_)
        rw [if_pos (wanted_none rfl)]
        have x0 : (patch t [27, 28, 29, 30, 31, 32, 11, 12] f).getD 12 undef = .pointer (some ⟨q1, 0, none⟩) := (patch_get (by omega) (by decide)).trans z1
        have x1 : (patch t [27, 28, 29, 30, 31, 32, 11, 12] f).getD 32 undef = .agg #[.bool g1, .slice a1 n1 c1] := (patch_get (by omega) (by decide)).trans r1
        have hfb := fb1
        obtain ⟨w1, w2, w3, w4⟩ := hfb
        go_simp
        refine hK _ _ ⟨f, rfl, hA.put hq1 g1 a1 n1 c1, .inr (.inr (⟨hall2, ⟨_, _, _, _, _, _, _, _, z0, r0, put_sl fb1 sl0, put_ol fb1 hn01 ob0, hq0, z1, r1, put_sl fb1 sl1, put_newl fb1 sl1, hq1, hn01⟩⟩))⟩
      · exact (no hall (by omega)).elim
  · rintro L a W hL ⟨f, rfl, hA, h⟩
    rcases h with ⟨h, _⟩ | ⟨_, _, h⟩ | ⟨_, h⟩
    · rw [hL 8 (by omega)] at h; cases h
    · rw [hL 9 (by omega)] at h; cases h
    · exact hQ f W hA h
/-- What holds of an operation of the region that has been carried out: of its value. -/
def dvmFact (w0 : World) (pb : Nat) (A0 : Option Addr) (k0 d0 : Nat) (g0 : Bool) (v0 : List Nat) (A1 : Option Addr) (k1 d1 : Nat) (g1 : Bool) (v1 : List Nat) (j : Nat) (u : Value) (W : World) : Prop := match j with
  | 0 => u = .pointer (some ⟨pb, 0, none⟩)
  | 1 => u = .slice A0 k0 d0
  | 2 => HoldsL u W g0 v0
  | 3 => u = .pointer (some ⟨pb, 1, none⟩)
  | 4 => u = .slice A1 k1 d1
  | 5 => HoldsL u W g1 v1
  | 6 => HoldsC u W w0.heap.size
  | 7 => HoldsC u W w0.heap.size
  | _ => True
def dvmSlot (j : Nat) : Nat := match j with
  | 0 => 26
  | 1 => 27
  | 2 => 28
  | 3 => 29
  | 4 => 30
  | 5 => 31
  | 6 => 8
  | 7 => 9
  | _ => 0
theorem dvm_via {w0 W W1 : World} {pb : Nat} {A0 : Option Addr} {k0 d0 : Nat} {g0 : Bool} {v0 : List Nat} {A1 : Option Addr} {k1 d1 : Nat} {g1 : Bool} {v1 : List Nat} {j : Nat} {u : Value} (h : dvmFact w0 pb A0 k0 d0 g0 v0 A1 k1 d1 g1 v1 j u W) (hb : Below W.heap.size W W1) : dvmFact w0 pb A0 k0 d0 g0 v0 A1 k1 d1 g1 v1 j u W1 := by
  unfold dvmFact at h ⊢
  split <;> first | exact h | exact HoldsL.via h hb | exact HoldsC.via h hb | trivial | fail "no"
theorem dvm_inj : ∀ x, x < 8 → ∀ y, y < 8 → x ≠ y → dvmSlot x ≠ dvmSlot y := by decide
theorem dvm_upd {w0 W W1 : World} {pb : Nat} {A0 : Option Addr} {k0 d0 : Nat} {g0 : Bool} {v0 : List Nat} {A1 : Option Addr} {k1 d1 : Nat} {g1 : Bool} {v1 : List Nat} {f : Nat → Value} {L : Array Bool} {i : Nat} {v : Value} (hi : i < 8) (hl : L.getD i true = false) (hF : ∀ j, j < 8 → L.getD j false = true → dvmFact w0 pb A0 k0 d0 g0 v0 A1 k1 d1 g1 v1 j (f (dvmSlot j)) W) (hb : Below W.heap.size W W1) (hv : dvmFact w0 pb A0 k0 d0 g0 v0 A1 k1 d1 g1 v1 i v W1) :
    ∀ j, j < 8 → (L.setIfInBounds i true).getD j false = true → dvmFact w0 pb A0 k0 d0 g0 v0 A1 k1 d1 g1 v1 j (upd f (dvmSlot i) v (dvmSlot j)) W1 := by
  intro j hj h
  by_cases hji : j = i
  · subst hji; rw [upd_same]; exact hv
  · rw [upd_other (dvm_inj j hj i hi hji)]
    rcases getD_set h with h | h
    · exact absurd h hji
    · exact dvm_via (hF j hj h) hb
theorem dvm_dist {f : Nat → Value} {L : Array Bool} {i : Nat} {v : Value} (hi : i < 8) (hn : i < 6 ∨ ∀ x, 6 ≤ x → x < 8 → x ≠ i → L.getD x false = true → f (dvmSlot x) ≠ v) (hD : ∀ x y, 6 ≤ x → x < y → y < 8 → L.getD x false = true → L.getD y false = true → f (dvmSlot x) ≠ f (dvmSlot y)) :
    ∀ x y, 6 ≤ x → x < y → y < 8 → (L.setIfInBounds i true).getD x false = true → (L.setIfInBounds i true).getD y false = true → upd f (dvmSlot i) v (dvmSlot x) ≠ upd f (dvmSlot i) v (dvmSlot y) := by
  intro x y h1 h2 h3 hx hy
  by_cases hxi : x = i
  · subst hxi
    rw [upd_same, upd_other (dvm_inj y h3 x hi (by omega))]
    rcases getD_set hy with h | h
    · omega
    · rcases hn with hn | hn
      · omega
      · exact Ne.symm (hn y (by omega) h3 (by omega) h)
  · rw [upd_other (dvm_inj x (by omega) i hi hxi)]
    rcases getD_set hx with h | hx2
    · exact absurd h hxi
    · by_cases hyi : y = i
      · subst hyi
        rw [upd_same]
        rcases hn with hn | hn
        · omega
        · exact hn x h1 (by omega) hxi hx2
      · rw [upd_other (dvm_inj y h3 i hi hyi)]
        rcases getD_set hy with h | hy2
        · exact absurd h hyi
        · exact hD x y h1 h2 h3 hx2 hy2
def dvmPh0 (w0 : World) (g0 : Bool) (v0 : List Nat) (g1 : Bool) (v1 : List Nat) (f : Nat → Value) (W : World) : Prop := ∃ q0 a0 n0 c0 q1 a1 n1 c1, f 8 = .pointer (some ⟨q0, 0, none⟩) ∧ f 28 = .agg #[.bool g0, .slice a0 n0 c0] ∧ Sl W W.heap.size a0 n0 c0 (v0) ∧ FB W q0 ∧ w0.heap.size ≤ q0 ∧ f 9 = .pointer (some ⟨q1, 0, none⟩) ∧ f 31 = .agg #[.bool g1, .slice a1 n1 c1] ∧ Sl W W.heap.size a1 n1 c1 (v1) ∧ FB W q1 ∧ w0.heap.size ≤ q1 ∧ q0 ≠ q1
def dvmPh1 (w0 : World) (g0 : Bool) (v0 : List Nat) (g1 : Bool) (v1 : List Nat) (f : Nat → Value) (W : World) : Prop := ∃ q0 a0 n0 c0 q1 a1 n1 c1, f 8 = .pointer (some ⟨q0, 0, none⟩) ∧ f 28 = .agg #[.bool g0, .slice a0 n0 c0] ∧ Sl W W.heap.size a0 n0 c0 (v0) ∧ OL W q0 g0 a0 n0 c0 v0 ∧ w0.heap.size ≤ q0 ∧ f 9 = .pointer (some ⟨q1, 0, none⟩) ∧ f 31 = .agg #[.bool g1, .slice a1 n1 c1] ∧ Sl W W.heap.size a1 n1 c1 (v1) ∧ FB W q1 ∧ w0.heap.size ≤ q1 ∧ q0 ≠ q1
def dvmPh2 (w0 : World) (g0 : Bool) (v0 : List Nat) (g1 : Bool) (v1 : List Nat) (f : Nat → Value) (W : World) : Prop := ∃ q0 a0 n0 c0 q1 a1 n1 c1, f 8 = .pointer (some ⟨q0, 0, none⟩) ∧ f 28 = .agg #[.bool g0, .slice a0 n0 c0] ∧ Sl W W.heap.size a0 n0 c0 (v0) ∧ OL W q0 g0 a0 n0 c0 v0 ∧ w0.heap.size ≤ q0 ∧ f 9 = .pointer (some ⟨q1, 0, none⟩) ∧ f 31 = .agg #[.bool g1, .slice a1 n1 c1] ∧ Sl W W.heap.size a1 n1 c1 (v1) ∧ OL W q1 g1 a1 n1 c1 v1 ∧ w0.heap.size ≤ q1 ∧ q0 ≠ q1
def dvmInv (t : Array Value) (df : List Deferred) (w0 : World) (pb : Nat) (A0 : Option Addr) (k0 d0 : Nat) (g0 : Bool) (v0 : List Nat) (A1 : Option Addr) (k1 d1 : Nat) (g1 : Bool) (v1 : List Nat) (L : Array Bool) (a : Act) (W : World) : Prop :=
  ∃ f, a = ⟨patch t [26, 27, 28, 29, 30, 31, 8, 9] f, df⟩ ∧ AN w0 pb #[.slice A0 k0 d0, .slice A1 k1 d1] W ∧
    ((L.getD 8 false = false ∧ (∀ j, j < 8 → L.getD j false = true → dvmFact w0 pb A0 k0 d0 g0 v0 A1 k1 d1 g1 v1 j (f (dvmSlot j)) W) ∧ (∀ x y, 6 ≤ x → x < y → y < 8 → L.getD x false = true → L.getD y false = true → f (dvmSlot x) ≠ f (dvmSlot y))) ∨ ((∀ j, j < 9 → L.getD j false = true) ∧ dvmPh1 w0 g0 v0 g1 v1 f W ∧ L.getD 9 false = false) ∨ ((∀ j, j < 10 → L.getD j false = true) ∧ dvmPh2 w0 g0 v0 g1 v1 f W))
set_option maxRecDepth 100000 in
set_option maxHeartbeats 4000000 in
theorem dvm_region {ops : Array Oper} {Q : Exit → Act → World → Prop} {id : Nat} (t : Array Value) (df : List Deferred) (w0 W : World) (pb : Nat) (A0 : Option Addr) (k0 d0 : Nat) (g0 : Bool) (v0 : List Nat) (A1 : Option Addr) (k1 d1 : Nat) (g1 : Bool) (v1 : List Nat)
    (hsz : ops.size = 10) (hback : backB ops = true) (hts : 31 < t.size) (hpa : t.getD 3 undef = .pointer (some ⟨pb, 0, none⟩)) (hAM : AN w0 pb #[.slice A0 k0 d0, .slice A1 k1 d1] W)
    (M0 : ∀ (W : World), Below w0.heap.size w0 W → Calls Tryz.prog 6 #[.slice A0 k0 d0] W (NL g0 v0 W))
    (M1 : ∀ (W : World), Below w0.heap.size w0 W → Calls Tryz.prog 6 #[.slice A1 k1 d1] W (NL g1 v1 W))
    (o0 : opIs ops 0 (some 26) (.indexAddr 23 (.tmp 3) (.const (.int .i64 0))))
    (o1 : opIs ops 1 (some 27) (.load 22 (.tmp 26)))
    (o2 : opIs ops 2 (some 28) (.call { callee := .value (.func 6), args := #[.tmp 27], argTypes := #[22] }))
    (o3 : opIs ops 3 (some 29) (.indexAddr 23 (.tmp 3) (.const (.int .i64 1))))
    (o4 : opIs ops 4 (some 30) (.load 22 (.tmp 29)))
    (o5 : opIs ops 5 (some 31) (.call { callee := .value (.func 6), args := #[.tmp 30], argTypes := #[22] }))
    (o6 : opIs ops 6 (some 8) (.alloc 26))
    (o7 : opIs ops 7 (some 9) (.alloc 26))
    (o8 : opIs ops 8 none (.store 26 (.tmp 8) (.tmp 28)))
    (o9 : opIs ops 9 none (.store 26 (.tmp 9) (.tmp 31)))
    (p1_0 : depB ops 1 0 = true)
    (p2_1 : depB ops 2 1 = true)
    (p4_3 : depB ops 4 3 = true)
    (p5_4 : depB ops 5 4 = true)
    (p5_2 : depB ops 5 2 = true)
    (p8_5 : depB ops 8 5 = true)
    (p8_6 : depB ops 8 6 = true)
    (p8_7 : depB ops 8 7 = true)
    (p9_8 : depB ops 9 8 = true)
    (hQ : ∀ f W, AN w0 pb #[.slice A0 k0 d0, .slice A1 k1 d1] W → dvmPh2 w0 g0 v0 g1 v1 f W → Q .normal ⟨patch t [26, 27, 28, 29, 30, 31, 8, 9] f, df⟩ W) : (Code.region id ops true).wp Tryz.prog Q ⟨t, df⟩ W := by
  refine wp_region_inv (by kernel_rfl) hback (dvmInv t df w0 pb A0 k0 d0 g0 v0 A1 k1 d1 g1 v1) ?_ ?_ ?_
  · refine ⟨_, congrArg (fun x => (⟨x, df⟩ : Act)) (patch_start t [26, 27, 28, 29, 30, 31, 8, 9]).symm, hAM.drew, .inl ⟨by simp [Array.getD, hsz], fun j _ h => ?_, fun x y _ _ _ h => ?_⟩⟩
    · simp [Array.getD] at h
    · simp [Array.getD] at h
  · rintro L a W i o ho hz hc hl hd ⟨f, rfl, hA, hI⟩
    have hi : i < 10 := by have := (Array.getElem?_eq_some_iff.1 ho).1; omega
    have no : ∀ {n : Nat}, (∀ j, j < n → L.getD j false = true) → i < n → False := fun h h2 => by
      have h3 := h i h2
      rw [getD_lt (c := true) (by omega), hl] at h3; cases h3
    obtain ⟨dst, op, ty, pos, after, guard⟩ := o
    match i, hi with
    | 0, _ =>
      have e := o0
      unfold opIs at e
      rw [ho] at e
      simp only [Option.map_some, Option.some.injEq, Prod.mk.injEq] at e
      obtain ⟨rfl, rfl, rfl⟩ := e
      rcases hI with ⟨hs, hF, hD⟩ | ⟨hall, _⟩ | ⟨hall, _⟩
      · refine wpOp_step ho (fun K hK => ?_)
        rw [if_pos (wanted_none rfl)]
        have x0 : (patch t [26, 27, 28, 29, 30, 31, 8, 9] f).getD 3 undef = .pointer (some ⟨pb, 0, none⟩) := (patch_out (by decide)).trans hpa
        go_simp
        refine hK _ _ ⟨upd f 26 (.pointer (some ⟨pb, 0, none⟩)), by rw [patch_set (by decide)], hA, .inl ⟨?_, dvm_upd (i := 0) (by omega) hl hF (Below.refl _ _) rfl, dvm_dist (i := 0) (by omega) (.inl (by omega)) hD⟩⟩
        rw [getD_set_ne (by omega)]; exact hs
      · exact (no hall (by omega)).elim
      · exact (no hall (by omega)).elim
    | 1, _ =>
      have e := o1
      unfold opIs at e
      rw [ho] at e
      simp only [Option.map_some, Option.some.injEq, Prod.mk.injEq] at e
      obtain ⟨rfl, rfl, rfl⟩ := e
      rcases hI with ⟨hs, hF, hD⟩ | ⟨hall, _⟩ | ⟨hall, _⟩
      · refine wpOp_step ho (fun K hK => ?_)
        rw [if_pos (wanted_none rfl)]
        have x0 : (patch t [26, 27, 28, 29, 30, 31, 8, 9] f).getD 26 undef = .pointer (some ⟨pb, 0, none⟩) := (patch_get (by omega) (by decide)).trans (hF 0 (by omega) (hd 0 p1_0))
        have x1 : W.cell? ⟨pb, 0, none⟩ = some (.slice A0 k0 d0) := hA.cell (i := 0) rfl
        go_simp
        refine hK _ _ ⟨upd f 27 (.slice A0 k0 d0), by rw [patch_set (by decide)], hA, .inl ⟨?_, dvm_upd (i := 1) (by omega) hl hF (Below.refl _ _) rfl, dvm_dist (i := 1) (by omega) (.inl (by omega)) hD⟩⟩
        rw [getD_set_ne (by omega)]; exact hs
      · exact (no hall (by omega)).elim
      · exact (no hall (by omega)).elim
    | 2, _ =>
      have e := o2
      unfold opIs at e
      rw [ho] at e
      simp only [Option.map_some, Option.some.injEq, Prod.mk.injEq] at e
      obtain ⟨rfl, rfl, rfl⟩ := e
      rcases hI with ⟨hs, hF, hD⟩ | ⟨hall, _⟩ | ⟨hall, _⟩
      · refine wpOp_step ho (fun K hK => ?_)
        rw [if_pos (wanted_none rfl)]
        have x0 : (patch t [26, 27, 28, 29, 30, 31, 8, 9] f).getD 27 undef = .slice A0 k0 d0 := (patch_get (by omega) (by decide)).trans (hF 1 (by omega) (hd 1 p2_1))
        go_simp
        refine (M0 W hA.below).mono ?_
        rintro e w1 ⟨A, n, c, rfl, hsl, hb⟩
        refine hK _ _ ⟨upd f 28 (.agg #[.bool g0, .slice A n c]), by rw [patch_set (by decide)], hA.via hb, .inl ⟨?_, dvm_upd (i := 2) (by omega) hl hF hb ⟨A, n, c, rfl, hsl⟩, dvm_dist (i := 2) (by omega) (.inl (by omega)) hD⟩⟩
        rw [getD_set_ne (by omega)]; exact hs
      · exact (no hall (by omega)).elim
      · exact (no hall (by omega)).elim
    | 3, _ =>
      have e := o3
      unfold opIs at e
      rw [ho] at e
      simp only [Option.map_some, Option.some.injEq, Prod.mk.injEq] at e
      obtain ⟨rfl, rfl, rfl⟩ := e
      rcases hI with ⟨hs, hF, hD⟩ | ⟨hall, _⟩ | ⟨hall, _⟩
      · refine wpOp_step ho (fun K hK => ?_)
        rw [if_pos (wanted_none rfl)]
        have x0 : (patch t [26, 27, 28, 29, 30, 31, 8, 9] f).getD 3 undef = .pointer (some ⟨pb, 0, none⟩) := (patch_out (by decide)).trans hpa
        go_simp
        refine hK _ _ ⟨upd f 29 (.pointer (some ⟨pb, 1, none⟩)), by rw [patch_set (by decide)], hA, .inl ⟨?_, dvm_upd (i := 3) (by omega) hl hF (Below.refl _ _) rfl, dvm_dist (i := 3) (by omega) (.inl (by omega)) hD⟩⟩
        rw [getD_set_ne (by omega)]; exact hs
      · exact (no hall (by omega)).elim
      · exact (no hall (by omega)).elim
    | 4, _ =>
      have e := o4
      unfold opIs at e
      rw [ho] at e
      simp only [Option.map_some, Option.some.injEq, Prod.mk.injEq] at e
      obtain ⟨rfl, rfl, rfl⟩ := e
      rcases hI with ⟨hs, hF, hD⟩ | ⟨hall, _⟩ | ⟨hall, _⟩
      · refine wpOp_step ho (fun K hK => ?_)
        rw [if_pos (wanted_none rfl)]
        have x0 : (patch t [26, 27, 28, 29, 30, 31, 8, 9] f).getD 29 undef = .pointer (some ⟨pb, 1, none⟩) := (patch_get (by omega) (by decide)).trans (hF 3 (by omega) (hd 3 p4_3))
        have x1 : W.cell? ⟨pb, 1, none⟩ = some (.slice A1 k1 d1) := hA.cell (i := 1) rfl
        go_simp
        refine hK _ _ ⟨upd f 30 (.slice A1 k1 d1), by rw [patch_set (by decide)], hA, .inl ⟨?_, dvm_upd (i := 4) (by omega) hl hF (Below.refl _ _) rfl, dvm_dist (i := 4) (by omega) (.inl (by omega)) hD⟩⟩
        rw [getD_set_ne (by omega)]; exact hs
      · exact (no hall (by omega)).elim
      · exact (no hall (by omega)).elim
    | 5, _ =>
      have e := o5
      unfold opIs at e
      rw [ho] at e
      simp only [Option.map_some, Option.some.injEq, Prod.mk.injEq] at e
      obtain ⟨rfl, rfl, rfl⟩ := e
      rcases hI with ⟨hs, hF, hD⟩ | ⟨hall, _⟩ | ⟨hall, _⟩
      · refine wpOp_step ho (fun K hK => ?_)
        rw [if_pos (wanted_none rfl)]
        have x0 : (patch t [26, 27, 28, 29, 30, 31, 8, 9] f).getD 30 undef = .slice A1 k1 d1 := (patch_get (by omega) (by decide)).trans (hF 4 (by omega) (hd 4 p5_4))
        go_simp
        refine (M1 W hA.below).mono ?_
        rintro e w1 ⟨A, n, c, rfl, hsl, hb⟩
        refine hK _ _ ⟨upd f 31 (.agg #[.bool g1, .slice A n c]), by rw [patch_set (by decide)], hA.via hb, .inl ⟨?_, dvm_upd (i := 5) (by omega) hl hF hb ⟨A, n, c, rfl, hsl⟩, dvm_dist (i := 5) (by omega) (.inl (by omega)) hD⟩⟩
        rw [getD_set_ne (by omega)]; exact hs
      · exact (no hall (by omega)).elim
      · exact (no hall (by omega)).elim
    | 6, _ =>
      have e := o6
      unfold opIs at e
      rw [ho] at e
      simp only [Option.map_some, Option.some.injEq, Prod.mk.injEq] at e
      obtain ⟨rfl, rfl, rfl⟩ := e
      rcases hI with ⟨hs, hF, hD⟩ | ⟨hall, _⟩ | ⟨hall, _⟩
      · refine wpOp_step ho (fun K hK => ?_)
        rw [if_pos (wanted_none rfl)]
        go_simp
        have hb : Below W.heap.size W (W.alloc (.cells #[.bool false, .slice none 0 0] 26)) := (Below.refl _ _).alloc (Nat.le_refl _) _
        refine hK _ _ ⟨upd f 8 (.pointer (some ⟨W.heap.size, 0, none⟩)), by rw [patch_set (by decide)], hA.via hb, .inl ⟨?_, dvm_upd (i := 6) (by omega) hl hF hb ⟨_, rfl, FB.new _ _, hA.size⟩, dvm_dist (i := 6) (by omega) (.inr fun x h1 h2 _ h3 e => ?_) hD⟩⟩
        · rw [getD_set_ne (by omega)]; exact hs
        · have h4 : HoldsC (f (dvmSlot x)) W w0.heap.size := by
            have := hF x h2 h3
            match x, h1, h2 with
            | 6, _, _ => exact this
            | 7, _, _ => exact this
          obtain ⟨q, e2, h5, _⟩ := h4
          rw [e] at e2
          cases e2
          exact absurd h5.2.2.2 (by omega)
      · exact (no hall (by omega)).elim
      · exact (no hall (by omega)).elim
    | 7, _ =>
      have e := o7
      unfold opIs at e
      rw [ho] at e
      simp only [Option.map_some, Option.some.injEq, Prod.mk.injEq] at e
      obtain ⟨rfl, rfl, rfl⟩ := e
      rcases hI with ⟨hs, hF, hD⟩ | ⟨hall, _⟩ | ⟨hall, _⟩
      · refine wpOp_step ho (fun K hK => ?_)
        rw [if_pos (wanted_none rfl)]
        go_simp
        have hb : Below W.heap.size W (W.alloc (.cells #[.bool false, .slice none 0 0] 26)) := (Below.refl _ _).alloc (Nat.le_refl _) _
        refine hK _ _ ⟨upd f 9 (.pointer (some ⟨W.heap.size, 0, none⟩)), by rw [patch_set (by decide)], hA.via hb, .inl ⟨?_, dvm_upd (i := 7) (by omega) hl hF hb ⟨_, rfl, FB.new _ _, hA.size⟩, dvm_dist (i := 7) (by omega) (.inr fun x h1 h2 _ h3 e => ?_) hD⟩⟩
        · rw [getD_set_ne (by omega)]; exact hs
        · have h4 : HoldsC (f (dvmSlot x)) W w0.heap.size := by
            have := hF x h2 h3
            match x, h1, h2 with
            | 6, _, _ => exact this
            | 7, _, _ => exact this
          obtain ⟨q, e2, h5, _⟩ := h4
          rw [e] at e2
          cases e2
          exact absurd h5.2.2.2 (by omega)
      · exact (no hall (by omega)).elim
      · exact (no hall (by omega)).elim
    | 8, _ =>
      have e := o8
      unfold opIs at e
      rw [ho] at e
      simp only [Option.map_some, Option.some.injEq, Prod.mk.injEq] at e
      obtain ⟨rfl, rfl, rfl⟩ := e
      rcases hI with ⟨hs, hF, hD⟩ | ⟨hall, _⟩ | ⟨hall, _⟩
      · have hall : ∀ j, j < 8 → L.getD j false = true := by
          have y5 := hd 5 p8_5
          have y6 := hd 6 p8_6
          have y7 := hd 7 p8_7
          have y4 := hc 5 4 p5_4 (by rw [getD_lt (c := false) (by omega)]; exact y5) (by omega)
          have y3 := hc 4 3 p4_3 (by rw [getD_lt (c := false) (by omega)]; exact y4) (by omega)
          have y2 := hc 5 2 p5_2 (by rw [getD_lt (c := false) (by omega)]; exact y5) (by omega)
          have y1 := hc 2 1 p2_1 (by rw [getD_lt (c := false) (by omega)]; exact y2) (by omega)
          have y0 := hc 1 0 p1_0 (by rw [getD_lt (c := false) (by omega)]; exact y1) (by omega)
          intro j hj
          match j, hj with
          | 0, _ => exact y0
          | 1, _ => exact y1
          | 2, _ => exact y2
          | 3, _ => exact y3
          | 4, _ => exact y4
          | 5, _ => exact y5
          | 6, _ => exact y6
          | 7, _ => exact y7
        obtain ⟨q0, z0, fb0, hq0⟩ : HoldsC (f 8) W w0.heap.size := hF 6 (by omega) (hall 6 (by omega))
        obtain ⟨a0, n0, c0, r0, sl0⟩ : HoldsL (f 28) W g0 v0 := hF 2 (by omega) (hall 2 (by omega))
        obtain ⟨q1, z1, fb1, hq1⟩ : HoldsC (f 9) W w0.heap.size := hF 7 (by omega) (hall 7 (by omega))
        obtain ⟨a1, n1, c1, r1, sl1⟩ : HoldsL (f 31) W g1 v1 := hF 5 (by omega) (hall 5 (by omega))
        have hn01 : q0 ≠ q1 := fun e => hD 6 7 (by omega) (by omega) (by omega) (hall 6 (by omega)) (hall 7 (by omega)) (show f 8 = f 9 by rw [z0, z1, e])
        have hall2 : ∀ j, j < 9 → (L.setIfInBounds 8 true).getD j false = true := fun j hj => by
          by_cases h : j = 8
          · subst h; exact getD_set_self (by omega)
          · exact getD_set_of (hall j (by omega))
        refine wpOp_step ho (fun K hK => ?_)
        rw [if_pos (wanted_none rfl)]
        have x0 : (patch t [26, 27, 28, 29, 30, 31, 8, 9] f).getD 8 undef = .pointer (some ⟨q0, 0, none⟩) := (patch_get (by omega) (by decide)).trans z0
        have x1 : (patch t [26, 27, 28, 29, 30, 31, 8, 9] f).getD 28 undef = .agg #[.bool g0, .slice a0 n0 c0] := (patch_get (by omega) (by decide)).trans r0
        have hfb := fb0
        obtain ⟨w1, w2, w3, w4⟩ := hfb
        go_simp
        refine hK _ _ ⟨f, rfl, hA.put hq0 g0 a0 n0 c0, .inr (.inl ⟨hall2, ⟨_, _, _, _, _, _, _, _, z0, r0, put_sl fb0 sl0, put_newl fb0 sl0, hq0, z1, r1, put_sl fb0 sl1, put_fb (Ne.symm hn01) fb1, hq1, hn01⟩, ?_⟩)⟩
        rw [getD_set_ne (by omega)]
        cases hx : L.getD 9 false with
        | false => rfl
        | true =>
          have h9 := hc 9 8 p9_8 (by rw [getD_lt (c := false) (by omega)]; exact hx) (by omega)
          rw [getD_lt (c := true) (by omega), hl] at h9; cases h9
      · exact (no hall (by omega)).elim
      · exact (no hall (by omega)).elim
    | 9, _ =>
      have e := o9
      unfold opIs at e
      rw [ho] at e
      simp only [Option.map_some, Option.some.injEq, Prod.mk.injEq] at e
      obtain ⟨rfl, rfl, rfl⟩ := e
      have hdp := hd 8 p9_8
      rcases hI with ⟨hs, hF, hD⟩ | ⟨hall, hP, hno⟩ | ⟨hall, _⟩
      · rw [hs] at hdp; cases hdp
      · obtain ⟨q0, a0, n0, c0, q1, a1, n1, c1, z0, r0, sl0, ob0, hq0, z1, r1, sl1, fb1, hq1, hn01⟩ := hP
        have hall2 : ∀ j, j < 10 → (L.setIfInBounds 9 true).getD j false = true := fun j hj => by
          by_cases h : j = 9
          · subst h; exact getD_set_self (by omega)
          · exact getD_set_of (hall j (by omega))
        refine wpOp_step ho (fun K hK => ?_)
        rw [if_pos (wanted_none rfl)]
        have x0 : (patch t [26, 27, 28, 29, 30, 31, 8, 9] f).getD 9 undef = .pointer (some ⟨q1, 0, none⟩) := (patch_get (by omega) (by decide)).trans z1
        have x1 : (patch t [26, 27, 28, 29, 30, 31, 8, 9] f).getD 31 undef = .agg #[.bool g1, .slice a1 n1 c1] := (patch_get (by omega) (by decide)).trans r1
        have hfb := fb1
        obtain ⟨w1, w2, w3, w4⟩ := hfb
        go_simp
        refine hK _ _ ⟨f, rfl, hA.put hq1 g1 a1 n1 c1, .inr (.inr (⟨hall2, ⟨_, _, _, _, _, _, _, _, z0, r0, put_sl fb1 sl0, put_ol fb1 hn01 ob0, hq0, z1, r1, put_sl fb1 sl1, put_newl fb1 sl1, hq1, hn01⟩⟩))⟩
      · exact (no hall (by omega)).elim
  · rintro L a W hL ⟨f, rfl, hA, h⟩
    rcases h with ⟨h, _⟩ | ⟨_, _, h⟩ | ⟨_, h⟩
    · rw [hL 8 (by omega)] at h; cases h
    · rw [hL 9 (by omega)] at h; cases h
    · exact hQ f W hA h
/-- What holds of an operation of the region that has been carried out: of its value. -/
def dvcFact (w0 : World) (pb : Nat) (A0 : Option Addr) (k0 d0 : Nat) (g0 : Bool) (v0 : List Nat) (A1 : Option Addr) (k1 d1 : Nat) (g1 : Bool) (v1 : List Nat) (j : Nat) (u : Value) (W : World) : Prop := match j with
  | 0 => u = .pointer (some ⟨pb, 0, none⟩)
  | 1 => u = .agg #[.bool g0, .slice A0 k0 d0]
  | 2 => HoldsL u W g0 v0
  | 3 => u = .pointer (some ⟨pb, 2, none⟩)
  | 4 => u = .agg #[.bool g1, .slice A1 k1 d1]
  | 5 => HoldsL u W g1 v1
  | 6 => HoldsC u W w0.heap.size
  | 7 => HoldsC u W w0.heap.size
  | _ => True
def dvcSlot (j : Nat) : Nat := match j with
  | 0 => 37
  | 1 => 38
  | 2 => 39
  | 3 => 40
  | 4 => 41
  | 5 => 42
  | 6 => 11
  | 7 => 12
  | _ => 0
theorem dvc_via {w0 W W1 : World} {pb : Nat} {A0 : Option Addr} {k0 d0 : Nat} {g0 : Bool} {v0 : List Nat} {A1 : Option Addr} {k1 d1 : Nat} {g1 : Bool} {v1 : List Nat} {j : Nat} {u : Value} (h : dvcFact w0 pb A0 k0 d0 g0 v0 A1 k1 d1 g1 v1 j u W) (hb : Below W.heap.size W W1) : dvcFact w0 pb A0 k0 d0 g0 v0 A1 k1 d1 g1 v1 j u W1 := by
  unfold dvcFact at h ⊢
  split <;> first | exact h | exact HoldsL.via h hb | exact HoldsC.via h hb | trivial | fail "no"
theorem dvc_inj : ∀ x, x < 8 → ∀ y, y < 8 → x ≠ y → dvcSlot x ≠ dvcSlot y := by decide
theorem dvc_upd {w0 W W1 : World} {pb : Nat} {A0 : Option Addr} {k0 d0 : Nat} {g0 : Bool} {v0 : List Nat} {A1 : Option Addr} {k1 d1 : Nat} {g1 : Bool} {v1 : List Nat} {f : Nat → Value} {L : Array Bool} {i : Nat} {v : Value} (hi : i < 8) (hl : L.getD i true = false) (hF : ∀ j, j < 8 → L.getD j false = true → dvcFact w0 pb A0 k0 d0 g0 v0 A1 k1 d1 g1 v1 j (f (dvcSlot j)) W) (hb : Below W.heap.size W W1) (hv : dvcFact w0 pb A0 k0 d0 g0 v0 A1 k1 d1 g1 v1 i v W1) :
    ∀ j, j < 8 → (L.setIfInBounds i true).getD j false = true → dvcFact w0 pb A0 k0 d0 g0 v0 A1 k1 d1 g1 v1 j (upd f (dvcSlot i) v (dvcSlot j)) W1 := by
  intro j hj h
  by_cases hji : j = i
  · subst hji; rw [upd_same]; exact hv
  · rw [upd_other (dvc_inj j hj i hi hji)]
    rcases getD_set h with h | h
    · exact absurd h hji
    · exact dvc_via (hF j hj h) hb
theorem dvc_dist {f : Nat → Value} {L : Array Bool} {i : Nat} {v : Value} (hi : i < 8) (hn : i < 6 ∨ ∀ x, 6 ≤ x → x < 8 → x ≠ i → L.getD x false = true → f (dvcSlot x) ≠ v) (hD : ∀ x y, 6 ≤ x → x < y → y < 8 → L.getD x false = true → L.getD y false = true → f (dvcSlot x) ≠ f (dvcSlot y)) :
    ∀ x y, 6 ≤ x → x < y → y < 8 → (L.setIfInBounds i true).getD x false = true → (L.setIfInBounds i true).getD y false = true → upd f (dvcSlot i) v (dvcSlot x) ≠ upd f (dvcSlot i) v (dvcSlot y) := by
  intro x y h1 h2 h3 hx hy
  by_cases hxi : x = i
  · subst hxi
    rw [upd_same, upd_other (dvc_inj y h3 x hi (by omega))]
    rcases getD_set hy with h | h
    · omega
    · rcases hn with hn | hn
      · omega
      · exact Ne.symm (hn y (by omega) h3 (by omega) h)
  · rw [upd_other (dvc_inj x (by omega) i hi hxi)]
    rcases getD_set hx with h | hx2
    · exact absurd h hxi
    · by_cases hyi : y = i
      · subst hyi
        rw [upd_same]
        rcases hn with hn | hn
        · omega
        · exact hn x h1 (by omega) hxi hx2
      · rw [upd_other (dvc_inj y h3 i hi hyi)]
        rcases getD_set hy with h | hy2
        · exact absurd h hyi
        · exact hD x y h1 h2 h3 hx2 hy2
def dvcPh0 (w0 : World) (g0 : Bool) (v0 : List Nat) (g1 : Bool) (v1 : List Nat) (f : Nat → Value) (W : World) : Prop := ∃ q0 a0 n0 c0 q1 a1 n1 c1, f 11 = .pointer (some ⟨q0, 0, none⟩) ∧ f 39 = .agg #[.bool g0, .slice a0 n0 c0] ∧ Sl W W.heap.size a0 n0 c0 (v0) ∧ FB W q0 ∧ w0.heap.size ≤ q0 ∧ f 12 = .pointer (some ⟨q1, 0, none⟩) ∧ f 42 = .agg #[.bool g1, .slice a1 n1 c1] ∧ Sl W W.heap.size a1 n1 c1 (v1) ∧ FB W q1 ∧ w0.heap.size ≤ q1 ∧ q0 ≠ q1
def dvcPh1 (w0 : World) (g0 : Bool) (v0 : List Nat) (g1 : Bool) (v1 : List Nat) (f : Nat → Value) (W : World) : Prop := ∃ q0 a0 n0 c0 q1 a1 n1 c1, f 11 = .pointer (some ⟨q0, 0, none⟩) ∧ f 39 = .agg #[.bool g0, .slice a0 n0 c0] ∧ Sl W W.heap.size a0 n0 c0 (v0) ∧ OL W q0 g0 a0 n0 c0 v0 ∧ w0.heap.size ≤ q0 ∧ f 12 = .pointer (some ⟨q1, 0, none⟩) ∧ f 42 = .agg #[.bool g1, .slice a1 n1 c1] ∧ Sl W W.heap.size a1 n1 c1 (v1) ∧ FB W q1 ∧ w0.heap.size ≤ q1 ∧ q0 ≠ q1
def dvcPh2 (w0 : World) (g0 : Bool) (v0 : List Nat) (g1 : Bool) (v1 : List Nat) (f : Nat → Value) (W : World) : Prop := ∃ q0 a0 n0 c0 q1 a1 n1 c1, f 11 = .pointer (some ⟨q0, 0, none⟩) ∧ f 39 = .agg #[.bool g0, .slice a0 n0 c0] ∧ Sl W W.heap.size a0 n0 c0 (v0) ∧ OL W q0 g0 a0 n0 c0 v0 ∧ w0.heap.size ≤ q0 ∧ f 12 = .pointer (some ⟨q1, 0, none⟩) ∧ f 42 = .agg #[.bool g1, .slice a1 n1 c1] ∧ Sl W W.heap.size a1 n1 c1 (v1) ∧ OL W q1 g1 a1 n1 c1 v1 ∧ w0.heap.size ≤ q1 ∧ q0 ≠ q1
def dvcInv (t : Array Value) (df : List Deferred) (w0 : World) (pb : Nat) (A0 : Option Addr) (k0 d0 : Nat) (g0 : Bool) (v0 : List Nat) (A1 : Option Addr) (k1 d1 : Nat) (g1 : Bool) (v1 : List Nat) (L : Array Bool) (a : Act) (W : World) : Prop :=
  ∃ f, a = ⟨patch t [37, 38, 39, 40, 41, 42, 11, 12] f, df⟩ ∧ AN w0 pb #[.bool g0, .slice A0 k0 d0, .bool g1, .slice A1 k1 d1] W ∧
    ((L.getD 8 false = false ∧ (∀ j, j < 8 → L.getD j false = true → dvcFact w0 pb A0 k0 d0 g0 v0 A1 k1 d1 g1 v1 j (f (dvcSlot j)) W) ∧ (∀ x y, 6 ≤ x → x < y → y < 8 → L.getD x false = true → L.getD y false = true → f (dvcSlot x) ≠ f (dvcSlot y))) ∨ ((∀ j, j < 9 → L.getD j false = true) ∧ dvcPh1 w0 g0 v0 g1 v1 f W ∧ L.getD 9 false = false) ∨ ((∀ j, j < 10 → L.getD j false = true) ∧ dvcPh2 w0 g0 v0 g1 v1 f W))
set_option maxRecDepth 100000 in
set_option maxHeartbeats 4000000 in
theorem dvc_region {ops : Array Oper} {Q : Exit → Act → World → Prop} {id : Nat} (t : Array Value) (df : List Deferred) (w0 W : World) (pb : Nat) (A0 : Option Addr) (k0 d0 : Nat) (g0 : Bool) (v0 : List Nat) (A1 : Option Addr) (k1 d1 : Nat) (g1 : Bool) (v1 : List Nat)
    (hsz : ops.size = 10) (hback : backB ops = true) (hts : 42 < t.size) (hpa : t.getD 5 undef = .pointer (some ⟨pb, 0, none⟩)) (hAM : AN w0 pb #[.bool g0, .slice A0 k0 d0, .bool g1, .slice A1 k1 d1] W)
    (M0 : ∀ (W : World), Below w0.heap.size w0 W → Calls Tryz.prog 8 #[.agg #[.bool g0, .slice A0 k0 d0], .int .i64 20] W (NL g0 v0 W))
    (M1 : ∀ (W : World), Below w0.heap.size w0 W → Calls Tryz.prog 8 #[.agg #[.bool g1, .slice A1 k1 d1], .int .i64 20] W (NL g1 v1 W))
    (o0 : opIs ops 0 (some 37) (.indexAddr 27 (.tmp 5) (.const (.int .i64 0))))
    (o1 : opIs ops 1 (some 38) (.load 26 (.tmp 37)))
    (o2 : opIs ops 2 (some 39) (.call { callee := .value (.func 8), args := #[.tmp 38, .const (.int .i64 20)], argTypes := #[26, 3] }))
    (o3 : opIs ops 3 (some 40) (.indexAddr 27 (.tmp 5) (.const (.int .i64 1))))
    (o4 : opIs ops 4 (some 41) (.load 26 (.tmp 40)))
    (o5 : opIs ops 5 (some 42) (.call { callee := .value (.func 8), args := #[.tmp 41, .const (.int .i64 20)], argTypes := #[26, 3] }))
    (o6 : opIs ops 6 (some 11) (.alloc 26))
    (o7 : opIs ops 7 (some 12) (.alloc 26))
    (o8 : opIs ops 8 none (.store 26 (.tmp 11) (.tmp 39)))
    (o9 : opIs ops 9 none (.store 26 (.tmp 12) (.tmp 42)))
    (p1_0 : depB ops 1 0 = true)
    (p2_1 : depB ops 2 1 = true)
    (p4_3 : depB ops 4 3 = true)
    (p5_4 : depB ops 5 4 = true)
    (p5_2 : depB ops 5 2 = true)
    (p8_5 : depB ops 8 5 = true)
    (p8_6 : depB ops 8 6 = true)
    (p8_7 : depB ops 8 7 = true)
    (p9_8 : depB ops 9 8 = true)
    (hQ : ∀ f W, AN w0 pb #[.bool g0, .slice A0 k0 d0, .bool g1, .slice A1 k1 d1] W → dvcPh2 w0 g0 v0 g1 v1 f W → Q .normal ⟨patch t [37, 38, 39, 40, 41, 42, 11, 12] f, df⟩ W) : (Code.region id ops true).wp Tryz.prog Q ⟨t, df⟩ W := by
  refine wp_region_inv (by kernel_rfl) hback (dvcInv t df w0 pb A0 k0 d0 g0 v0 A1 k1 d1 g1 v1) ?_ ?_ ?_
  · refine ⟨_, congrArg (fun x => (⟨x, df⟩ : Act)) (patch_start t [37, 38, 39, 40, 41, 42, 11, 12]).symm, hAM.drew, .inl ⟨by simp [Array.getD, hsz], fun j _ h => ?_, fun x y _ _ _ h => ?_⟩⟩
    · simp [Array.getD] at h
    · simp [Array.getD] at h
  · rintro L a W i o ho hz hc hl hd ⟨f, rfl, hA, hI⟩
    have hi : i < 10 := by have := (Array.getElem?_eq_some_iff.1 ho).1; omega
    have no : ∀ {n : Nat}, (∀ j, j < n → L.getD j false = true) → i < n → False := fun h h2 => by
      have h3 := h i h2
      rw [getD_lt (c := true) (by omega), hl] at h3; cases h3
    obtain ⟨dst, op, ty, pos, after, guard⟩ := o
    match i, hi with
    | 0, _ =>
      have e := o0
      unfold opIs at e
      rw [ho] at e
      simp only [Option.map_some, Option.some.injEq, Prod.mk.injEq] at e
      obtain ⟨rfl, rfl, rfl⟩ := e
      rcases hI with ⟨hs, hF, hD⟩ | ⟨hall, _⟩ | ⟨hall, _⟩
      · refine wpOp_step ho (fun K hK => ?_)
        rw [if_pos (wanted_none rfl)]
        have x0 : (patch t [37, 38, 39, 40, 41, 42, 11, 12] f).getD 5 undef = .pointer (some ⟨pb, 0, none⟩) := (patch_out (by decide)).trans hpa
        go_simp
        refine hK _ _ ⟨upd f 37 (.pointer (some ⟨pb, 0, none⟩)), by rw [patch_set (by decide)], hA, .inl ⟨?_, dvc_upd (i := 0) (by omega) hl hF (Below.refl _ _) rfl, dvc_dist (i := 0) (by omega) (.inl (by omega)) hD⟩⟩
        rw [getD_set_ne (by omega)]; exact hs
      · exact (no hall (by omega)).elim
      · exact (no hall (by omega)).elim
    | 1, _ =>
      have e := o1
      unfold opIs at e
      rw [ho] at e
      simp only [Option.map_some, Option.some.injEq, Prod.mk.injEq] at e
      obtain ⟨rfl, rfl, rfl⟩ := e
      rcases hI with ⟨hs, hF, hD⟩ | ⟨hall, _⟩ | ⟨hall, _⟩
      · refine wpOp_step ho (fun K hK => ?_)
        rw [if_pos (wanted_none rfl)]
        have x0 : (patch t [37, 38, 39, 40, 41, 42, 11, 12] f).getD 37 undef = .pointer (some ⟨pb, 0, none⟩) := (patch_get (by omega) (by decide)).trans (hF 0 (by omega) (hd 0 p1_0))
        have x1 : W.cell? ⟨pb, 0, none⟩ = some (.bool g0) := hA.cell (i := 0) rfl
        have x2 : W.cell? ⟨pb, 1, none⟩ = some (.slice A0 k0 d0) := hA.cell (i := 1) rfl
        go_simp
        refine hK _ _ ⟨upd f 38 (.agg #[.bool g0, .slice A0 k0 d0]), by rw [patch_set (by decide)], hA, .inl ⟨?_, dvc_upd (i := 1) (by omega) hl hF (Below.refl _ _) rfl, dvc_dist (i := 1) (by omega) (.inl (by omega)) hD⟩⟩
        rw [getD_set_ne (by omega)]; exact hs
      · exact (no hall (by omega)).elim
      · exact (no hall (by omega)).elim
    | 2, _ =>
      have e := o2
      unfold opIs at e
      rw [ho] at e
      simp only [Option.map_some, Option.some.injEq, Prod.mk.injEq] at e
      obtain ⟨rfl, rfl, rfl⟩ := e
      rcases hI with ⟨hs, hF, hD⟩ | ⟨hall, _⟩ | ⟨hall, _⟩
      · refine wpOp_step ho (fun K hK => ?_)
        rw [if_pos (wanted_none rfl)]
        have x0 : (patch t [37, 38, 39, 40, 41, 42, 11, 12] f).getD 38 undef = .agg #[.bool g0, .slice A0 k0 d0] := (patch_get (by omega) (by decide)).trans (hF 1 (by omega) (hd 1 p2_1))
        go_simp
        refine (M0 W hA.below).mono ?_
        rintro e w1 ⟨A, n, c, rfl, hsl, hb⟩
        refine hK _ _ ⟨upd f 39 (.agg #[.bool g0, .slice A n c]), by rw [patch_set (by decide)], hA.via hb, .inl ⟨?_, dvc_upd (i := 2) (by omega) hl hF hb ⟨A, n, c, rfl, hsl⟩, dvc_dist (i := 2) (by omega) (.inl (by omega)) hD⟩⟩
        rw [getD_set_ne (by omega)]; exact hs
      · exact (no hall (by omega)).elim
      · exact (no hall (by omega)).elim
    | 3, _ =>
      have e := o3
      unfold opIs at e
      rw [ho] at e
      simp only [Option.map_some, Option.some.injEq, Prod.mk.injEq] at e
      obtain ⟨rfl, rfl, rfl⟩ := e
      rcases hI with ⟨hs, hF, hD⟩ | ⟨hall, _⟩ | ⟨hall, _⟩
      · refine wpOp_step ho (fun K hK => ?_)
        rw [if_pos (wanted_none rfl)]
        have x0 : (patch t [37, 38, 39, 40, 41, 42, 11, 12] f).getD 5 undef = .pointer (some ⟨pb, 0, none⟩) := (patch_out (by decide)).trans hpa
        go_simp
        refine hK _ _ ⟨upd f 40 (.pointer (some ⟨pb, 2, none⟩)), by rw [patch_set (by decide)], hA, .inl ⟨?_, dvc_upd (i := 3) (by omega) hl hF (Below.refl _ _) rfl, dvc_dist (i := 3) (by omega) (.inl (by omega)) hD⟩⟩
        rw [getD_set_ne (by omega)]; exact hs
      · exact (no hall (by omega)).elim
      · exact (no hall (by omega)).elim
    | 4, _ =>
      have e := o4
      unfold opIs at e
      rw [ho] at e
      simp only [Option.map_some, Option.some.injEq, Prod.mk.injEq] at e
      obtain ⟨rfl, rfl, rfl⟩ := e
      rcases hI with ⟨hs, hF, hD⟩ | ⟨hall, _⟩ | ⟨hall, _⟩
      · refine wpOp_step ho (fun K hK => ?_)
        rw [if_pos (wanted_none rfl)]
        have x0 : (patch t [37, 38, 39, 40, 41, 42, 11, 12] f).getD 40 undef = .pointer (some ⟨pb, 2, none⟩) := (patch_get (by omega) (by decide)).trans (hF 3 (by omega) (hd 3 p4_3))
        have x1 : W.cell? ⟨pb, 2, none⟩ = some (.bool g1) := hA.cell (i := 2) rfl
        have x2 : W.cell? ⟨pb, 3, none⟩ = some (.slice A1 k1 d1) := hA.cell (i := 3) rfl
        go_simp
        refine hK _ _ ⟨upd f 41 (.agg #[.bool g1, .slice A1 k1 d1]), by rw [patch_set (by decide)], hA, .inl ⟨?_, dvc_upd (i := 4) (by omega) hl hF (Below.refl _ _) rfl, dvc_dist (i := 4) (by omega) (.inl (by omega)) hD⟩⟩
        rw [getD_set_ne (by omega)]; exact hs
      · exact (no hall (by omega)).elim
      · exact (no hall (by omega)).elim
    | 5, _ =>
      have e := o5
      unfold opIs at e
      rw [ho] at e
      simp only [Option.map_some, Option.some.injEq, Prod.mk.injEq] at e
      obtain ⟨rfl, rfl, rfl⟩ := e
      rcases hI with ⟨hs, hF, hD⟩ | ⟨hall, _⟩ | ⟨hall, _⟩
      · refine wpOp_step ho (fun K hK => ?_)
        rw [if_pos (wanted_none rfl)]
        have x0 : (patch t [37, 38, 39, 40, 41, 42, 11, 12] f).getD 41 undef = .agg #[.bool g1, .slice A1 k1 d1] := (patch_get (by omega) (by decide)).trans (hF 4 (by omega) (hd 4 p5_4))
        go_simp
        refine (M1 W hA.below).mono ?_
        rintro e w1 ⟨A, n, c, rfl, hsl, hb⟩
        refine hK _ _ ⟨upd f 42 (.agg #[.bool g1, .slice A n c]), by rw [patch_set (by decide)], hA.via hb, .inl ⟨?_, dvc_upd (i := 5) (by omega) hl hF hb ⟨A, n, c, rfl, hsl⟩, dvc_dist (i := 5) (by omega) (.inl (by omega)) hD⟩⟩
        rw [getD_set_ne (by omega)]; exact hs
      · exact (no hall (by omega)).elim
      · exact (no hall (by omega)).elim
    | 6, _ =>
      have e := o6
      unfold opIs at e
      rw [ho] at e
      simp only [Option.map_some, Option.some.injEq, Prod.mk.injEq] at e
      obtain ⟨rfl, rfl, rfl⟩ := e
      rcases hI with ⟨hs, hF, hD⟩ | ⟨hall, _⟩ | ⟨hall, _⟩
      · refine wpOp_step ho (fun K hK => ?_)
        rw [if_pos (wanted_none rfl)]
        go_simp
        have hb : Below W.heap.size W (W.alloc (.cells #[.bool false, .slice none 0 0] 26)) := (Below.refl _ _).alloc (Nat.le_refl _) _
        refine hK _ _ ⟨upd f 11 (.pointer (some ⟨W.heap.size, 0, none⟩)), by rw [patch_set (by decide)], hA.via hb, .inl ⟨?_, dvc_upd (i := 6) (by omega) hl hF hb ⟨_, rfl, FB.new _ _, hA.size⟩, dvc_dist (i := 6) (by omega) (.inr fun x h1 h2 _ h3 e => ?_) hD⟩⟩
        · rw [getD_set_ne (by omega)]; exact hs
        · have h4 : HoldsC (f (dvcSlot x)) W w0.heap.size := by
            have := hF x h2 h3
            match x, h1, h2 with
            | 6, _, _ => exact this
            | 7, _, _ => exact this
          obtain ⟨q, e2, h5, _⟩ := h4
          rw [e] at e2
          cases e2
          exact absurd h5.2.2.2 (by omega)
      · exact (no hall (by omega)).elim
      · exact (no hall (by omega)).elim
    | 7, _ =>
      have e := o7
      unfold opIs at e
      rw [ho] at e
      simp only [Option.map_some, Option.some.injEq, Prod.mk.injEq] at e
      obtain ⟨rfl, rfl, rfl⟩ := e
      rcases hI with ⟨hs, hF, hD⟩ | ⟨hall, _⟩ | ⟨hall, _⟩
      · refine wpOp_step ho (fun K hK => ?_)
        rw [if_pos (wanted_none rfl)]
        go_simp
        have hb : Below W.heap.size W (W.alloc (.cells #[.bool false, .slice none 0 0] 26)) := (Below.refl _ _).alloc (Nat.le_refl _) _
        refine hK _ _ ⟨upd f 12 (.pointer (some ⟨W.heap.size, 0, none⟩)), by rw [patch_set (by decide)], hA.via hb, .inl ⟨?_, dvc_upd (i := 7) (by omega) hl hF hb ⟨_, rfl, FB.new _ _, hA.size⟩, dvc_dist (i := 7) (by omega) (.inr fun x h1 h2 _ h3 e => ?_) hD⟩⟩
        · rw [getD_set_ne (by omega)]; exact hs
        · have h4 : HoldsC (f (dvcSlot x)) W w0.heap.size := by
            have := hF x h2 h3
            match x, h1, h2 with
            | 6, _, _ => exact this
            | 7, _, _ => exact this
          obtain ⟨q, e2, h5, _⟩ := h4
          rw [e] at e2
          cases e2
          exact absurd h5.2.2.2 (by omega)
      · exact (no hall (by omega)).elim
      · exact (no hall (by omega)).elim
    | 8, _ =>
      have e := o8
      unfold opIs at e
      rw [ho] at e
      simp only [Option.map_some, Option.some.injEq, Prod.mk.injEq] at e
      obtain ⟨rfl, rfl, rfl⟩ := e
      rcases hI with ⟨hs, hF, hD⟩ | ⟨hall, _⟩ | ⟨hall, _⟩
      · have hall : ∀ j, j < 8 → L.getD j false = true := by
          have y5 := hd 5 p8_5
          have y6 := hd 6 p8_6
          have y7 := hd 7 p8_7
          have y4 := hc 5 4 p5_4 (by rw [getD_lt (c := false) (by omega)]; exact y5) (by omega)
          have y3 := hc 4 3 p4_3 (by rw [getD_lt (c := false) (by omega)]; exact y4) (by omega)
          have y2 := hc 5 2 p5_2 (by rw [getD_lt (c := false) (by omega)]; exact y5) (by omega)
          have y1 := hc 2 1 p2_1 (by rw [getD_lt (c := false) (by omega)]; exact y2) (by omega)
          have y0 := hc 1 0 p1_0 (by rw [getD_lt (c := false) (by omega)]; exact y1) (by omega)
          intro j hj
          match j, hj with
          | 0, _ => exact y0
          | 1, _ => exact y1
          | 2, _ => exact y2
          | 3, _ => exact y3
          | 4, _ => exact y4
          | 5, _ => exact y5
          | 6, _ => exact y6
          | 7, _ => exact y7
        obtain ⟨q0, z0, fb0, hq0⟩ : HoldsC (f 11) W w0.heap.size := hF 6 (by omega) (hall 6 (by omega))
        obtain ⟨a0, n0, c0, r0, sl0⟩ : HoldsL (f 39) W g0 v0 := hF 2 (by omega) (hall 2 (by omega))
        obtain ⟨q1, z1, fb1, hq1⟩ : HoldsC (f 12) W w0.heap.size := hF 7 (by omega) (hall 7 (by omega))
        obtain ⟨a1, n1, c1, r1, sl1⟩ : HoldsL (f 42) W g1 v1 := hF 5 (by omega) (hall 5 (by omega))
        have hn01 : q0 ≠ q1 := fun e => hD 6 7 (by omega) (by omega) (by omega) (hall 6 (by omega)) (hall 7 (by omega)) (show f 11 = f 12 by rw [z0, z1, e])
        have hall2 : ∀ j, j < 9 → (L.setIfInBounds 8 true).getD j false = true := fun j hj => by
          by_cases h : j = 8
          · subst h; exact getD_set_self (by omega)
          · exact getD_set_of (hall j (by omega))
        refine wpOp_step ho (fun K hK => ?_)
        rw [if_pos (wanted_none rfl)]
        have x0 : (patch t [37, 38, 39, 40, 41, 42, 11, 12] f).getD 11 undef = .pointer (some ⟨q0, 0, none⟩) := (patch_get (by omega) (by decide)).trans z0
        have x1 : (patch t [37, 38, 39, 40, 41, 42, 11, 12] f).getD 39 undef = .agg #[.bool g0, .slice a0 n0 c0] := (patch_get (by omega) (by decide)).trans r0
        have hfb := fb0
        obtain ⟨w1, w2, w3, w4⟩ := hfb
        go_simp
        refine hK _ _ ⟨f, rfl, hA.put hq0 g0 a0 n0 c0, .inr (.inl ⟨hall2, ⟨_, _, _, _, _, _, _, _, z0, r0, put_sl fb0 sl0, put_newl fb0 sl0, hq0, z1, r1, put_sl fb0 sl1, put_fb (Ne.symm hn01) fb1, hq1, hn01⟩, ?_⟩)⟩
        rw [getD_set_ne (by omega)]
        cases hx : L.getD 9 false with
        | false => rfl
        | true =>
          have h9 := hc 9 8 p9_8 (by rw [getD_lt (c := false) (by omega)]; exact hx) (by omega)
          rw [getD_lt (c := true) (by omega), hl] at h9; cases h9
      · exact (no hall (by omega)).elim
      · exact (no hall (by omega)).elim
    | 9, _ =>
      have e := o9
      unfold opIs at e
      rw [ho] at e
      simp only [Option.map_some, Option.some.injEq, Prod.mk.injEq] at e
      obtain ⟨rfl, rfl, rfl⟩ := e
      have hdp := hd 8 p9_8
      rcases hI with ⟨hs, hF, hD⟩ | ⟨hall, hP, hno⟩ | ⟨hall, _⟩
      · rw [hs] at hdp; cases hdp
      · obtain ⟨q0, a0, n0, c0, q1, a1, n1, c1, z0, r0, sl0, ob0, hq0, z1, r1, sl1, fb1, hq1, hn01⟩ := hP
        have hall2 : ∀ j, j < 10 → (L.setIfInBounds 9 true).getD j false = true := fun j hj => by
          by_cases h : j = 9
          · subst h; exact getD_set_self (by omega)
          · exact getD_set_of (hall j (by omega))
        refine wpOp_step ho (fun K hK => ?_)
        rw [if_pos (wanted_none rfl)]
        have x0 : (patch t [37, 38, 39, 40, 41, 42, 11, 12] f).getD 12 undef = .pointer (some ⟨q1, 0, none⟩) := (patch_get (by omega) (by decide)).trans z1
        have x1 : (patch t [37, 38, 39, 40, 41, 42, 11, 12] f).getD 42 undef = .agg #[.bool g1, .slice a1 n1 c1] := (patch_get (by omega) (by decide)).trans r1
        have hfb := fb1
        obtain ⟨w1, w2, w3, w4⟩ := hfb
        go_simp
        refine hK _ _ ⟨f, rfl, hA.put hq1 g1 a1 n1 c1, .inr (.inr (⟨hall2, ⟨_, _, _, _, _, _, _, _, z0, r0, put_sl fb1 sl0, put_ol fb1 hn01 ob0, hq0, z1, r1, put_sl fb1 sl1, put_newl fb1 sl1, hq1, hn01⟩⟩))⟩
      · exact (no hall (by omega)).elim
  · rintro L a W hL ⟨f, rfl, hA, h⟩
    rcases h with ⟨h, _⟩ | ⟨_, _, h⟩ | ⟨_, h⟩
    · rw [hL 8 (by omega)] at h; cases h
    · rw [hL 9 (by omega)] at h; cases h
    · exact hQ f W hA h
end Go.Proofs.YthnickjbknpmhaaGreatDoor
