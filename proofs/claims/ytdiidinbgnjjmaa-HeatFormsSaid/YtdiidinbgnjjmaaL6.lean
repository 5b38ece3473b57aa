/-
  HeatForms: the walk of the law over the contracts.
-/
import Derived.Test.YtdiidinbgnjjmaaL5
import Derived.Test.YtdiidinbgnjjmaaW10
namespace Go.Proofs.Ytdiidinbgnjjmaa
open Go.RowKit

/-- A heat in block b. -/
def Cell5 (b : Nat) (r f t g p : Int) (W : World) : Prop := W.cell? ⟨b, 0, none⟩ = some (.int .i64 r) ∧ W.cell? ⟨b, 1, none⟩ = some (.int .i64 f) ∧ W.cell? ⟨b, 2, none⟩ = some (.int .i64 t) ∧ W.cell? ⟨b, 3, none⟩ = some (.int .i64 g) ∧ W.cell? ⟨b, 4, none⟩ = some (.int .i64 p) ∧ b < W.heap.size
theorem Cell5.below {b : Nat} {r f t g p : Int} {W W1 : World} (h : Cell5 b r f t g p W) (hb : Below W.heap.size W W1) : Cell5 b r f t g p W1 := by
  obtain ⟨h0, h1, h2, h3, h4, hz⟩ := h
  exact ⟨(hb.cell (p := ⟨b, 0, none⟩) hz).trans h0, (hb.cell (p := ⟨b, 1, none⟩) hz).trans h1, (hb.cell (p := ⟨b, 2, none⟩) hz).trans h2, (hb.cell (p := ⟨b, 3, none⟩) hz).trans h3, (hb.cell (p := ⟨b, 4, none⟩) hz).trans h4, Nat.lt_of_lt_of_le hz hb.size⟩
theorem Cell5.alloc {b : Nat} {r f t g p : Int} {W : World} (h : Cell5 b r f t g p W) (o : Obj) : Cell5 b r f t g p (W.alloc o) := h.below ((Below.refl _ _).alloc (Nat.le_refl _) o)
theorem Cell5.new (W : World) (r f t g p : Int) : Cell5 W.heap.size r f t g p (W.alloc (.cells #[.int .i64 r, .int .i64 f, .int .i64 t, .int .i64 g, .int .i64 p] 27)) := ⟨by simp [go_sem], by simp [go_sem], by simp [go_sem], by simp [go_sem], by simp [go_sem], by simp⟩
theorem Cell5.drew {b : Nat} {r f t g p : Int} {W : World} (h : Cell5 b r f t g p W) : Cell5 b r f t g p W.drew := h
theorem Cell2.drew {b : Nat} {x y : Int} {W : World} (h : Cell2 b x y W) : Cell2 b x y W.drew := h
/-- A block of ints. -/
def Ints (b : Nat) (l : List Int) (W : World) : Prop := b < W.heap.size ∧ ∀ (i : Nat) (x : Int), l[i]? = some x → W.cell? ⟨b, i, none⟩ = some (.int .i64 x)
theorem Ints.below {b : Nat} {l : List Int} {W W1 : World} (h : Ints b l W) (hb : Below W.heap.size W W1) : Ints b l W1 :=
  ⟨Nat.lt_of_lt_of_le h.1 hb.size, fun i x hx => (hb.cell (p := ⟨b, i, none⟩) h.1).trans (h.2 i x hx)⟩
theorem Ints.alloc {b : Nat} {l : List Int} {W : World} (h : Ints b l W) (o : Obj) : Ints b l (W.alloc o) := h.below ((Below.refl _ _).alloc (Nat.le_refl _) o)
theorem Ints.drew {b : Nat} {l : List Int} {W : World} (h : Ints b l W) : Ints b l W.drew := h
theorem Ints.new (W : World) (l : List Int) (T : TypeId) (b : Nat) (hb : b = W.heap.size) : Ints b l (W.alloc (.cells (l.map (Value.int .i64)).toArray T)) := by
  subst hb
  refine ⟨by simp, fun i x hx => ?_⟩
  rw [World.cell?_alloc_at _ _ _ _ rfl]
  simp [hx]
theorem Ints.at_ {b : Nat} {l : List Int} {W : World} (h : Ints b l W) {i : Nat} (hi : i < l.length) : ∃ x : Int, W.cell? ⟨b, i, none⟩ = some (.int .i64 x) := ⟨l[i], h.2 i _ (List.getElem?_eq_getElem hi)⟩

theorem five_keep {w5 W W1 : World} {b : Nat} {r f t g p : Int} (hb : b < w5.heap.size) (h : W.cell? ⟨b, 0, none⟩ = some (.int .i64 r) ∧ W.cell? ⟨b, 1, none⟩ = some (.int .i64 f) ∧ W.cell? ⟨b, 2, none⟩ = some (.int .i64 t) ∧ W.cell? ⟨b, 3, none⟩ = some (.int .i64 g) ∧ W.cell? ⟨b, 4, none⟩ = some (.int .i64 p) ∧ Below w5.heap.size w5 W) (h1 : Below W.heap.size W W1) :
    W1.cell? ⟨b, 0, none⟩ = some (.int .i64 r) ∧ W1.cell? ⟨b, 1, none⟩ = some (.int .i64 f) ∧ W1.cell? ⟨b, 2, none⟩ = some (.int .i64 t) ∧ W1.cell? ⟨b, 3, none⟩ = some (.int .i64 g) ∧ W1.cell? ⟨b, 4, none⟩ = some (.int .i64 p) ∧ Below w5.heap.size w5 W1 := by
  obtain ⟨h0, h1', h2, h3, h4, hB⟩ := h
  have hz : b < W.heap.size := Nat.lt_of_lt_of_le hb hB.size
  exact ⟨(h1.cell (p := ⟨b, 0, none⟩) hz).trans h0, (h1.cell (p := ⟨b, 1, none⟩) hz).trans h1', (h1.cell (p := ⟨b, 2, none⟩) hz).trans h2, (h1.cell (p := ⟨b, 3, none⟩) hz).trans h3, (h1.cell (p := ⟨b, 4, none⟩) hz).trans h4, Below.via hB hB.size h1⟩
theorem below_of_drew1 {W W1 : World} (h : Below W.drew.heap.size W.drew W1) : Below W.heap.size W W1 := ⟨h.os, h.tape, h.output, h.size, h.block⟩
theorem keep12 {w W : World} {b1 b2 b3 : Nat} {r f t g p x y qa qb rr rf rt rg rp : Int} (M : Mem2 w b1 r f t g p x y W) (Q : Cell2 b2 qa qb W) (R : Cell5 b3 rr rf rt rg rp W) :
    W.cell? ⟨b1, 0, none⟩ = some (.int .i64 r) ∧ W.cell? ⟨b1, 1, none⟩ = some (.int .i64 f) ∧ W.cell? ⟨b1, 2, none⟩ = some (.int .i64 t) ∧ W.cell? ⟨b1, 3, none⟩ = some (.int .i64 g) ∧ W.cell? ⟨b1, 4, none⟩ = some (.int .i64 p) ∧
      W.cell? ⟨b2, 0, none⟩ = some (.int .i64 qa) ∧ W.cell? ⟨b2, 1, none⟩ = some (.int .i64 qb) ∧
      W.cell? ⟨b3, 0, none⟩ = some (.int .i64 rr) ∧ W.cell? ⟨b3, 1, none⟩ = some (.int .i64 rf) ∧ W.cell? ⟨b3, 2, none⟩ = some (.int .i64 rt) ∧ W.cell? ⟨b3, 3, none⟩ = some (.int .i64 rg) ∧ W.cell? ⟨b3, 4, none⟩ = some (.int .i64 rp) := by
  obtain ⟨c0, c1, c2, c3, c4, _⟩ := M
  obtain ⟨q0, q1, _⟩ := Q
  obtain ⟨r0, r1, r2, r3, r4, _⟩ := R
  exact ⟨c0, c1, c2, c3, c4, q0, q1, r0, r1, r2, r3, r4⟩

set_option maxRecDepth 100000 in
set_option maxHeartbeats 4000000 in
theorem heatForms_walk (A : Option Addr) (n c : Nat) (zs : List Int) (lo0 more0 qa qb rr rf rt rg rp wx wy ticks : Int) (w : World) (hr : Reads w w.heap.size 1 A n (zs.map (Value.int .i64))) (hn : n ≤ c) (hm : c ≤ 9223372036854775807) :
    Calls Try.prog 3 #[.agg #[.slice A n c, .int .i64 lo0, .int .i64 more0], .agg #[.int .i64 qa, .int .i64 qb], .agg #[.int .i64 rr, .int .i64 rf, .int .i64 rt, .int .i64 rg, .int .i64 rp], .agg #[.int .i64 wx, .int .i64 wy], .int .i64 ticks] w fun e w' => e = .returned (.bool true) ∧ Below w.heap.size w w' := by
  have HR := Lib.hid hr
  clear hr
  go_enter Try.func3, Try.ntmps3
  go_wp2_with fail
  refine (sanity_any _).mono ?_
  rintro e w1 ⟨rfl, hb⟩
  have hbl : Below w.heap.size w w1 := Below.via (by go_grown) (by go_size) hb
  obtain ⟨hc, hf⟩ := bcell hb
  have hz : w.heap.size + 1 + 1 + 1 < w1.heap.size := by have := hb.size; simp at this; omega
  have HR1 := Lib.hid (HR.out.below hbl)
  have Q1 := Lib.hid (show Cell2 (w.heap.size + 1) qa qb w1 from ⟨by simp [hc, go_sem], by simp [hc, go_sem], by omega⟩)
  have R1 := Lib.hid (show Cell5 (w.heap.size + 1 + 1) rr rf rt rg rp w1 from ⟨by simp [hc, go_sem], by simp [hc, go_sem], by simp [hc, go_sem], by simp [hc, go_sem], by simp [hc, go_sem], by omega⟩)
  have W1 := Lib.hid (show Cell2 (w.heap.size + 1 + 1 + 1) wx wy w1 from ⟨by simp [hc, go_sem], by simp [hc, go_sem], by omega⟩)
  clear hb hf
  go_wp2_with fail
  refine (case_any A n c zs lo0 more0 w1 (HR1.out.more (by omega)) hn hm).mono ?_
  rintro e w2 ⟨r, f, t, g, p, x, y, rfl, hv, hw, hb2⟩
  clear hv hw hc
  have hbl2 : Below w.heap.size w w2 := Below.via hbl (by omega) hb2
  have hz2 : w.heap.size ≤ w2.heap.size := Nat.le_trans (by omega) hb2.size
  have M := Mem2.new hbl2 hz2 r f t g p x y
  have Q2 := ((Q1.out.below hb2).alloc (.cells #[.int .i64 r, .int .i64 f, .int .i64 t, .int .i64 g, .int .i64 p] 27)).alloc (.cells #[.int .i64 x, .int .i64 y] 29)
  have R2 := ((R1.out.below hb2).alloc (.cells #[.int .i64 r, .int .i64 f, .int .i64 t, .int .i64 g, .int .i64 p] 27)).alloc (.cells #[.int .i64 x, .int .i64 y] 29)
  have W2 := ((W1.out.below hb2).alloc (.cells #[.int .i64 r, .int .i64 f, .int .i64 t, .int .i64 g, .int .i64 p] 27)).alloc (.cells #[.int .i64 x, .int .i64 y] 29)
  clear hbl hz HR HR1 hb2 hbl2 Q1 R1 W1
  generalize hW : ((w2.alloc (.cells #[.int .i64 r, .int .i64 f, .int .i64 t, .int .i64 g, .int .i64 p] 27)).alloc (.cells #[.int .i64 x, .int .i64 y] 29)) = w3 at M Q2 R2 W2
  go_wp2
  try rw [hW]
  clear hW
  have HM := Lib.hid M
  have HQ := Lib.hid Q2
  have HRR := Lib.hid R2
  have HWW := Lib.hid W2
  obtain ⟨c0, c1, c2, c3, c4, c5, c6, z1, z2, z3, B3⟩ := M
  obtain ⟨q0, q1, q2⟩ := Q2
  obtain ⟨r0, r1, r2, r3, r4, r5⟩ := R2
  clear W2 c5 c6
  go_region_held3 (fun W => W.cell? ⟨w2.heap.size, 0, none⟩ = some (.int .i64 r) ∧ W.cell? ⟨w2.heap.size, 1, none⟩ = some (.int .i64 f) ∧ W.cell? ⟨w2.heap.size, 2, none⟩ = some (.int .i64 t) ∧ W.cell? ⟨w2.heap.size, 3, none⟩ = some (.int .i64 g) ∧ W.cell? ⟨w2.heap.size, 4, none⟩ = some (.int .i64 p) ∧
      W.cell? ⟨w.heap.size + 1, 0, none⟩ = some (.int .i64 qa) ∧ W.cell? ⟨w.heap.size + 1, 1, none⟩ = some (.int .i64 qb) ∧
      W.cell? ⟨w.heap.size + 1 + 1, 0, none⟩ = some (.int .i64 rr) ∧ W.cell? ⟨w.heap.size + 1 + 1, 1, none⟩ = some (.int .i64 rf) ∧ W.cell? ⟨w.heap.size + 1 + 1, 2, none⟩ = some (.int .i64 rt) ∧ W.cell? ⟨w.heap.size + 1 + 1, 3, none⟩ = some (.int .i64 rg) ∧ W.cell? ⟨w.heap.size + 1 + 1, 4, none⟩ = some (.int .i64 rp))
    (first | assumption | exact ⟨c0, c1, c2, c3, c4, q0, q1, r0, r1, r2, r3, r4⟩ | exact KS | go_keep)
    (first | (go_at_call 11; refine (odd_any _ _ _ _ _ _ _ _).mono ?_; rintro e w4 ⟨o0, o1, o2, o3, o4, rfl, hb4⟩; have M4 := HM.out.below (below_of_drew1 hb4); have Q4 := HQ.out.below (below_of_drew1 hb4); have R4 := HRR.out.below (below_of_drew1 hb4); have W4 := HWW.out.below (below_of_drew1 hb4); have KS := keep12 M4 Q4 R4))
  clear c0 c1 c2 c3 c4 q0 q1 q2 r0 r1 r2 r3 r4 r5 z1 z2 z3 B3 HM HQ HRR HWW KS hb4
  obtain ⟨l15, hl15⟩ : ∃ l : List Int, l = [r, f, t, g, p, o0, o1, o2, o3, o4, rr, rf, rt, rg, rp] := ⟨_, rfl⟩
  have hlen : l15.length = 15 := by rw [hl15]; rfl
  have HG : Hid (Ints w4.heap.size l15 (w4.alloc (.cells #[.int .i64 r, .int .i64 f, .int .i64 t, .int .i64 g, .int .i64 p, .int .i64 o0, .int .i64 o1, .int .i64 o2, .int .i64 o3, .int .i64 o4, .int .i64 rr, .int .i64 rf, .int .i64 rt, .int .i64 rg, .int .i64 rp] 27))) := by rw [hl15]; exact Ints.new w4 [r, f, t, g, p, o0, o1, o2, o3, o4, rr, rf, rt, rg, rp] 27 _ rfl
  have HM5 := Lib.hid (M4.alloc (.cells #[.int .i64 r, .int .i64 f, .int .i64 t, .int .i64 g, .int .i64 p, .int .i64 o0, .int .i64 o1, .int .i64 o2, .int .i64 o3, .int .i64 o4, .int .i64 rr, .int .i64 rf, .int .i64 rt, .int .i64 rg, .int .i64 rp] 27))
  have HW5 := Lib.hid (W4.alloc (.cells #[.int .i64 r, .int .i64 f, .int .i64 t, .int .i64 g, .int .i64 p, .int .i64 o0, .int .i64 o1, .int .i64 o2, .int .i64 o3, .int .i64 o4, .int .i64 rr, .int .i64 rf, .int .i64 rt, .int .i64 rg, .int .i64 rp] 27))
  have HL := Lib.hid hlen
  clear hl15 hlen M4 Q4 R4 W4
  go_wp2
  go_loopw [47] (fun K wr => ∃ k : Nat, k ≤ 3 ∧ K = .int .i64 k ∧ Ints w4.heap.size l15 wr ∧ Mem2 w w2.heap.size r f t g p x y wr ∧ Cell2 (w.heap.size + 1 + 1 + 1) wx wy wr) (fun K _ => 3 - (intOf K).toNat)
  case atStart => exact ⟨0, by omega, rfl, HG.out, HM5.out, HW5.out⟩
  case round =>
    clear HG HM5 HW5
    obtain ⟨k, hk, rfl, G1, M1, X1⟩ := hrel
    by_cases hlt : k < 3
    · obtain ⟨xr, e0⟩ := G1.at_ (i := k * 5) (by have := HL.out; omega)
      obtain ⟨xf, e1⟩ := G1.at_ (i := k * 5 + 1) (by have := HL.out; omega)
      obtain ⟨xt, e2⟩ := G1.at_ (i := k * 5 + 2) (by have := HL.out; omega)
      obtain ⟨xg, e3⟩ := G1.at_ (i := k * 5 + 3) (by have := HL.out; omega)
      obtain ⟨xp, e4⟩ := G1.at_ (i := k * 5 + 4) (by have := HL.out; omega)
      have HG1 := Lib.hid (G1.alloc (.cells #[.int .i64 xr, .int .i64 xf, .int .i64 xt, .int .i64 xg, .int .i64 xp] 27))
      have HM1 := Lib.hid (M1.alloc (.cells #[.int .i64 xr, .int .i64 xf, .int .i64 xt, .int .i64 xg, .int .i64 xp] 27))
      have HX1 := Lib.hid (X1.alloc (.cells #[.int .i64 xr, .int .i64 xf, .int .i64 xt, .int .i64 xg, .int .i64 xp] 27))
      have C1 := Cell5.new wr xr xf xt xg xp
      have hwz : w.heap.size ≤ wr.heap.size := M1.2.2.2.2.2.2.2.2.2.1
      go_wp2
      clear e0 e1 e2 e3 e4 G1 M1 X1
      generalize (wr.alloc (.cells #[.int .i64 xr, .int .i64 xf, .int .i64 xt, .int .i64 xg, .int .i64 xp] 27)) = w5 at HG1 HM1 HX1 C1 ⊢
      have HC1 := Lib.hid C1
      obtain ⟨c0, c1, c2, c3, c4, c5⟩ := C1
      go_region_held3 (fun W => W.cell? ⟨wr.heap.size, 0, none⟩ = some (.int .i64 xr) ∧ W.cell? ⟨wr.heap.size, 1, none⟩ = some (.int .i64 xf) ∧ W.cell? ⟨wr.heap.size, 2, none⟩ = some (.int .i64 xt) ∧ W.cell? ⟨wr.heap.size, 3, none⟩ = some (.int .i64 xg) ∧ W.cell? ⟨wr.heap.size, 4, none⟩ = some (.int .i64 xp) ∧ Below w5.heap.size w5 W)
        (first | assumption | exact ⟨c0, c1, c2, c3, c4, (Below.refl _ _).drew⟩ | exact five_keep c5 (by assumption) (by assumption))
        (first | (go_at_call 12; refine (check_any _ _ _ _ _ _).mono ?_; rintro e w6 ⟨rfl, hb6⟩) | (go_at_call 13; refine (refcheck_any _ _ _ _ _ _).mono ?_; rintro e w6 ⟨rfl, hb6⟩))
      have B6 : Below w5.heap.size w5 w6 := by rename_i hh; exact hh.2.2.2.2.2
      have hwa : w.heap.size ≤ w6.heap.size := (HM1.out.below B6).2.2.2.2.2.2.2.2.2.1
      have G6 := Lib.hid (HG1.out.below B6)
      have M6 := Lib.hid (HM1.out.below B6)
      have X6 := Lib.hid (HX1.out.below B6)
      have C6 := Lib.hid (HC1.out.below B6)
      clear HG1 HM1 HX1 HC1 B6 hb6 c0 c1 c2 c3 c4 c5
      obtain ⟨c0, c1, c2, c3, c4, c5⟩ := C6.out
      obtain ⟨-, -, -, -, -, m5, m6, mz1, mz2, -, -⟩ := M6.out
      obtain ⟨x0, x1, x2⟩ := X6.out
      obtain ⟨l6, hl6⟩ : ∃ l : List Int, l = [x, y, wx, wy, x, wy] := ⟨_, rfl⟩
      have hlen6 : l6.length = 6 := by rw [hl6]; rfl
      have S7 : Hid (Ints w6.heap.size l6 (w6.alloc (.cells #[.int .i64 x, .int .i64 y, .int .i64 wx, .int .i64 wy, .int .i64 x, .int .i64 wy] 29))) := by rw [hl6]; exact Ints.new w6 [x, y, wx, wy, x, wy] 29 _ rfl
      have G7 := Lib.hid (G6.out.alloc (.cells #[.int .i64 x, .int .i64 y, .int .i64 wx, .int .i64 wy, .int .i64 x, .int .i64 wy] 29))
      have M7 := Lib.hid (M6.out.alloc (.cells #[.int .i64 x, .int .i64 y, .int .i64 wx, .int .i64 wy, .int .i64 x, .int .i64 wy] 29))
      have X7 := Lib.hid (X6.out.alloc (.cells #[.int .i64 x, .int .i64 y, .int .i64 wx, .int .i64 wy, .int .i64 x, .int .i64 wy] 29))
      have C7 := Lib.hid (C6.out.alloc (.cells #[.int .i64 x, .int .i64 y, .int .i64 wx, .int .i64 wy, .int .i64 x, .int .i64 wy] 29))
      have HL6 := Lib.hid hlen6
      clear hl6 hlen6
      obtain ⟨wo, hwo⟩ : ∃ wo : World, wo = wr := ⟨_, rfl⟩
      rw [← hwo] at c0 c1 c2 c3 c4 c5 C6 C7 hwz ⊢
      clear hwo
      go_wp2
      clear c0 c1 c2 c3 c4 c5 m5 m6 mz1 mz2 x0 x1 x2 G6 M6 X6 C6
      go_loopw [65] (fun K wr => ∃ j : Nat, j ≤ 3 ∧ K = .int .i64 j ∧ Ints w6.heap.size l6 wr ∧ Ints w4.heap.size l15 wr ∧ Mem2 w w2.heap.size r f t g p x y wr ∧ Cell2 (w.heap.size + 1 + 1 + 1) wx wy wr ∧ Cell5 wo.heap.size xr xf xt xg xp wr) (fun K _ => 3 - (intOf K).toNat)
      case atStart => exact ⟨0, by omega, rfl, S7.out, G7.out, M7.out, X7.out, C7.out⟩
      case round =>
        clear S7 G7 M7 X7 C7
        obtain ⟨j, hj, rfl, S1, G1, M1, X1, C1⟩ := hrel
        by_cases hlj : j < 3
        · obtain ⟨y1, e0⟩ := S1.at_ (i := j * 2) (by have := HL6.out; omega)
          obtain ⟨y2, e1⟩ := S1.at_ (i := j * 2 + 1) (by have := HL6.out; omega)
          have S2 := Lib.hid (S1.alloc (.cells #[.int .i64 y1, .int .i64 y2] 29))
          have G2 := Lib.hid (G1.alloc (.cells #[.int .i64 y1, .int .i64 y2] 29))
          have M2 := Lib.hid (M1.alloc (.cells #[.int .i64 y1, .int .i64 y2] 29))
          have X2 := Lib.hid (X1.alloc (.cells #[.int .i64 y1, .int .i64 y2] 29))
          have C2 := Lib.hid (C1.alloc (.cells #[.int .i64 y1, .int .i64 y2] 29))
          have Y2 := Cell2.new wr y1 y2
          have hsz1 : w.heap.size ≤ wr.heap.size := M1.2.2.2.2.2.2.2.2.2.1
          obtain ⟨wb, hwb⟩ : ∃ wb : World, wb = wr := ⟨_, rfl⟩
          rw [← hwb] at e0 e1 Y2 S2 G2 M2 X2 C2 hsz1 ⊢
          clear hwb S1 G1 M1 X1 C1
          go_wp2_with fail
          clear e0 e1
          generalize (wb.alloc (.cells #[.int .i64 y1, .int .i64 y2] 29)) = w7 at S2 G2 M2 X2 C2 Y2 ⊢
          refine (mod_any _ _ _ (by omega) (by omega)).mono ?_
          rintro e w' ⟨rfl, rfl⟩
          obtain ⟨n1, hn1⟩ : ∃ z : Int, ticks % 300 = z := ⟨_, rfl⟩
          rw [hn1]
          clear hn1
          go_wp2_with fail
          refine (mod_any _ _ _ (by omega) (by omega)).mono ?_
          rintro e w' ⟨rfl, rfl⟩
          obtain ⟨n2, hn2, n20, n21⟩ : ∃ z : Int, ticks % 9 = z ∧ 0 ≤ z ∧ z < 9 := ⟨_, rfl, (emod_bd ticks 9 (by omega)).1, (emod_bd ticks 9 (by omega)).2⟩
          rw [hn2]
          clear hn2
          obtain ⟨l3, hl3⟩ : ∃ l : List Int, l = [ticks, n1, 9995 + n2] := ⟨_, rfl⟩
          have hlen3 : l3.length = 3 := by rw [hl3]; rfl
          have N3 : Hid (Ints w7.heap.size l3 (w7.alloc (.cells #[.int .i64 ticks, .int .i64 n1, .int .i64 (9995 + n2)] 3))) := by rw [hl3]; exact Ints.new w7 [ticks, n1, 9995 + n2] 3 _ rfl
          have S3 := Lib.hid (S2.out.alloc (.cells #[.int .i64 ticks, .int .i64 n1, .int .i64 (9995 + n2)] 3))
          have G3 := Lib.hid (G2.out.alloc (.cells #[.int .i64 ticks, .int .i64 n1, .int .i64 (9995 + n2)] 3))
          have M3 := Lib.hid (M2.out.alloc (.cells #[.int .i64 ticks, .int .i64 n1, .int .i64 (9995 + n2)] 3))
          have X3 := Lib.hid (X2.out.alloc (.cells #[.int .i64 ticks, .int .i64 n1, .int .i64 (9995 + n2)] 3))
          have C3 := Lib.hid (C2.out.alloc (.cells #[.int .i64 ticks, .int .i64 n1, .int .i64 (9995 + n2)] 3))
          have Y3 := Lib.hid (Y2.alloc (.cells #[.int .i64 ticks, .int .i64 n1, .int .i64 (9995 + n2)] 3))
          have HL3 := Lib.hid hlen3
          clear hl3 hlen3 S2 G2 M2 X2 C2 Y2
          go_wp2
          go_loopw [77] (fun K wr => ∃ i : Nat, i ≤ 3 ∧ K = .int .i64 i ∧ Ints w7.heap.size l3 wr ∧ Ints w6.heap.size l6 wr ∧ Ints w4.heap.size l15 wr ∧ Mem2 w w2.heap.size r f t g p x y wr ∧ Cell2 (w.heap.size + 1 + 1 + 1) wx wy wr ∧ Cell5 wo.heap.size xr xf xt xg xp wr ∧ Cell2 wb.heap.size y1 y2 wr) (fun K _ => 3 - (intOf K).toNat)
          case atStart => exact ⟨0, by omega, rfl, N3.out, S3.out, G3.out, M3.out, X3.out, C3.out, Y3.out⟩
          case round =>
            clear N3 S3 G3 M3 X3 C3 Y3
            obtain ⟨i, hi, rfl, N4, S4, G4, M4, X4, C4, Y4⟩ := hrel
            have HN := Lib.hid N4
            have HS := Lib.hid S4
            have HG := Lib.hid G4
            have HM := Lib.hid M4
            have HX := Lib.hid X4
            have HC := Lib.hid C4
            have HY := Lib.hid Y4
            obtain ⟨c0, c1, c2, c3, c4, c5⟩ := C4
            obtain ⟨p0, p1, p2⟩ := Y4
            clear S4 G4 M4 X4
            by_cases hli : i < 3
            · obtain ⟨nv, e0⟩ := N4.at_ (i := i) (by have := HL3.out; omega)
              clear N4
              go_wp2_with fail
              obtain ⟨ra, hra⟩ : ∃ z, runLo xr xf xt xg xp y1 y2 nv = z := ⟨_, rfl⟩
              obtain ⟨rb, hrb⟩ : ∃ z, runHi xr xf xt xg xp y1 y2 nv = z := ⟨_, rfl⟩
              obtain ⟨rc, hrc⟩ : ∃ z, restLo xr xf xt xg xp y1 y2 nv = z := ⟨_, rfl⟩
              obtain ⟨rd, hrd⟩ : ∃ z, restHi xr xf xt xg xp y1 y2 nv = z := ⟨_, rfl⟩
              obtain ⟨re, hre⟩ : ∃ z, chk2 xr xf xt xg xp y1 y2 nv = z := ⟨_, rfl⟩
              have Ea := Lib.hid hra
              have Eb := Lib.hid hrb
              have Ec := Lib.hid hrc
              have Ed := Lib.hid hrd
              have Ee := Lib.hid hre
              clear hra hrb hrc hrd hre
              refine (run_any xr xf xt xg xp y1 y2 nv _).mono ?_
              rw [Ea.out, Eb.out, Ee.out]
              rintro e w8 ⟨rfl, hb⟩
              have N8 := Lib.hid (HN.out.below hb)
              have S8 := Lib.hid (HS.out.below hb)
              have G8 := Lib.hid (HG.out.below hb)
              have M8 := Lib.hid (HM.out.below hb)
              have X8 := Lib.hid (HX.out.below hb)
              have C8 := Lib.hid (HC.out.below hb)
              have Y8 := Lib.hid (HY.out.below hb)
              clear hb c0 c1 c2 c3 c4 c5 p0 p1 p2 HN HS HG HM HX HC HY 
              obtain ⟨c0, c1, c2, c3, c4, c5⟩ := C8.out
              obtain ⟨p0, p1, p2⟩ := Y8.out
              go_wp2_with fail
              refine (refrun_any xr xf xt xg xp y1 y2 nv _).mono ?_
              rw [Ea.out, Eb.out, Ee.out]
              rintro e w9 ⟨rfl, hb⟩
              have N9 := Lib.hid ((N8.out.alloc _).below hb)
              have S9 := Lib.hid ((S8.out.alloc _).below hb)
              have G9 := Lib.hid ((G8.out.alloc _).below hb)
              have M9 := Lib.hid ((M8.out.alloc _).below hb)
              have X9 := Lib.hid ((X8.out.alloc _).below hb)
              have C9 := Lib.hid ((C8.out.alloc _).below hb)
              have Y9 := Lib.hid ((Y8.out.alloc _).below hb)
              have T19 := Lib.hid ((Cell2.new w8 ra rb).below hb)
              clear hb c0 c1 c2 c3 c4 c5 p0 p1 p2 N8 S8 G8 M8 X8 C8 Y8 
              obtain ⟨c0, c1, c2, c3, c4, c5⟩ := C9.out
              obtain ⟨p0, p1, p2⟩ := Y9.out
              obtain ⟨t10, t11, t12⟩ := T19.out
              go_wp2_with fail
              refine (rest_any xr xf xt xg xp y1 y2 nv _).mono ?_
              rw [Ec.out, Ed.out, Ee.out]
              rintro e w10 ⟨rfl, hb⟩
              have N10 := Lib.hid ((N9.out.alloc _).below hb)
              have S10 := Lib.hid ((S9.out.alloc _).below hb)
              have G10 := Lib.hid ((G9.out.alloc _).below hb)
              have M10 := Lib.hid ((M9.out.alloc _).below hb)
              have X10 := Lib.hid ((X9.out.alloc _).below hb)
              have C10 := Lib.hid ((C9.out.alloc _).below hb)
              have Y10 := Lib.hid ((Y9.out.alloc _).below hb)
              have T110 := Lib.hid ((T19.out.alloc _).below hb)
              have T210 := Lib.hid ((Cell2.new w9 ra rb).below hb)
              clear hb c0 c1 c2 c3 c4 c5 p0 p1 p2 t10 t11 t12 N9 S9 G9 M9 X9 C9 Y9 T19
              obtain ⟨c0, c1, c2, c3, c4, c5⟩ := C10.out
              obtain ⟨p0, p1, p2⟩ := Y10.out
              obtain ⟨t10, t11, t12⟩ := T110.out
              obtain ⟨t20, t21, t22⟩ := T210.out
              go_wp2_with fail
              refine (refrest_any xr xf xt xg xp y1 y2 nv _).mono ?_
              rw [Ec.out, Ed.out, Ee.out]
              rintro e w11 ⟨rfl, hb⟩
              have N11 := Lib.hid ((N10.out.alloc _).below hb)
              have S11 := Lib.hid ((S10.out.alloc _).below hb)
              have G11 := Lib.hid ((G10.out.alloc _).below hb)
              have M11 := Lib.hid ((M10.out.alloc _).below hb)
              have X11 := Lib.hid ((X10.out.alloc _).below hb)
              have C11 := Lib.hid ((C10.out.alloc _).below hb)
              have Y11 := Lib.hid ((Y10.out.alloc _).below hb)
              have T111 := Lib.hid ((T110.out.alloc _).below hb)
              have T211 := Lib.hid ((T210.out.alloc _).below hb)
              have T311 := Lib.hid ((Cell2.new w10 rc rd).below hb)
              clear hb c0 c1 c2 c3 c4 c5 p0 p1 p2 t10 t11 t12 t20 t21 t22 N10 S10 G10 M10 X10 C10 Y10 T110 T210
              obtain ⟨c0, c1, c2, c3, c4, c5⟩ := C11.out
              obtain ⟨p0, p1, p2⟩ := Y11.out
              obtain ⟨t10, t11, t12⟩ := T111.out
              obtain ⟨t20, t21, t22⟩ := T211.out
              obtain ⟨t30, t31, t32⟩ := T311.out
              go_wp2
              go_roundw
              case rel => exact ⟨i + 1, by omega, by go_num, N11.out.alloc _, S11.out.alloc _, G11.out.alloc _, M11.out.alloc _, X11.out.alloc _, C11.out.alloc _, Y11.out.alloc _⟩
              case measure => simp [intOf]; omega
            · clear N4
              go_wp2_with fail
              obtain ⟨ga, hga⟩ : ∃ z, growLo xr xf xt xg xp y1 y2 = z := ⟨_, rfl⟩
              obtain ⟨gb, hgb⟩ : ∃ z, growHi xr xf xt xg xp y1 y2 = z := ⟨_, rfl⟩
              obtain ⟨gc, hgc⟩ : ∃ z, chk2 xr xf xt xg xp y1 y2 0 = z := ⟨_, rfl⟩
              have Ea := Lib.hid hga
              have Eb := Lib.hid hgb
              have Ec := Lib.hid hgc
              clear hga hgb hgc
              refine (growth_any xr xf xt xg xp y1 y2 _).mono ?_
              rw [Ea.out, Eb.out, Ec.out]
              rintro e w8 ⟨rfl, hb⟩
              have S8 := Lib.hid (HS.out.below hb)
              have G8 := Lib.hid (HG.out.below hb)
              have M8 := Lib.hid (HM.out.below hb)
              have X8 := Lib.hid (HX.out.below hb)
              have C8 := Lib.hid (HC.out.below hb)
              have Y8 := Lib.hid (HY.out.below hb)
              clear hb c0 c1 c2 c3 c4 c5 p0 p1 p2 HN HS HG HM HX HC HY
              obtain ⟨c0, c1, c2, c3, c4, c5⟩ := C8.out
              obtain ⟨p0, p1, p2⟩ := Y8.out
              go_wp2_with fail
              refine (refgrowth_any xr xf xt xg xp y1 y2 _).mono ?_
              rw [Ea.out, Eb.out, Ec.out]
              rintro e w9 ⟨rfl, hb⟩
              have S9 := Lib.hid (S8.out.below hb)
              have G9 := Lib.hid (G8.out.below hb)
              have M9 := Lib.hid (M8.out.below hb)
              have X9 := Lib.hid (X8.out.below hb)
              have C9 := Lib.hid (C8.out.below hb)
              clear hb c0 c1 c2 c3 c4 c5 p0 p1 p2 S8 G8 M8 X8 C8 Y8
              go_wp2
              go_roundw
              case rel => exact ⟨j + 1, by omega, by go_num, S9.out, G9.out, M9.out, X9.out, C9.out⟩
              case measure => simp [intOf]; omega
        · have HM := Lib.hid M1
          have HG := Lib.hid G1
          have HX := Lib.hid X1
          clear S1 G1 M1 X1 C1
          go_wp2
          go_roundw
          case rel => exact ⟨k + 1, by omega, by go_num, HG.out, HM.out, HX.out⟩
          case measure => simp [intOf]; omega
    · have HM := Lib.hid M1
      go_wp2
      go_ret
      exact ⟨rfl, HM.out.2.2.2.2.2.2.2.2.2.2⟩
end Go.Proofs.Ytdiidinbgnjjmaa
