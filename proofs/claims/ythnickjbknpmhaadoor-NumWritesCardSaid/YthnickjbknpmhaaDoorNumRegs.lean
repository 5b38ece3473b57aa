/-
  The regions that make numbers out of the laws' arrays, in whatever order.
-/
import Derived.Test.YthnickjbknpmhaaDoorNumReg
import Derived.Test.YthnickjbknpmhaaDoorNumInts
namespace Go.Proofs.YthnickjbknpmhaaDoor
open Go.RowKit Go.Shelf

/-- A box that holds a number, its slice named. -/
def OB (W : World) (b : Nat) (neg : Bool) (A : Option Addr) (n c v : Nat) : Prop := W.cell? ⟨b, 0, none⟩ = some (.bool neg) ∧ W.cell? ⟨b, 1, none⟩ = some (.slice A n c) ∧ Sl W W.heap.size A n c (digs v) ∧ b < W.heap.size
theorem OB.via {W W1 : World} {b : Nat} {neg : Bool} {A : Option Addr} {n c v : Nat} (h : OB W b neg A n c v) (hb : Below W.heap.size W W1) : OB W1 b neg A n c v :=
  ⟨(hb.cell (p := ⟨b, 0, none⟩) h.2.2.2).trans h.1, (hb.cell (p := ⟨b, 1, none⟩) h.2.2.2).trans h.2.1, h.2.2.1.via hb, Nat.lt_of_lt_of_le h.2.2.2 hb.size⟩
theorem OB.alloc_ {W : World} {b : Nat} {neg : Bool} {A : Option Addr} {n c v : Nat} (h : OB W b neg A n c v) (o : Obj) : OB (W.alloc o) b neg A n c v := h.via ((Below.refl _ _).alloc (Nat.le_refl _) o)
theorem OB.newg {W : World} {neg : Bool} {v g : Nat} {A : Option Addr} {n c : Nat} (h : Sl W W.heap.size A n c (digs v)) (T : TypeId) (hg : W.heap.size = g) : OB (W.alloc (.cells #[.bool neg, .slice A n c] T)) g neg A n c v := by
  subst hg
  exact ⟨by simp [go_sem], by simp [go_sem], h.alloc_ _, by simp⟩
theorem wanted_none {o : Oper} {y : Nat → Option Bool} (h : o.guard = none) : Region.wanted o y = true := by unfold Region.wanted; rw [h]
theorem getD_set_ne {L : Array Bool} {i j : Nat} {b : Bool} (h : j ≠ i) : (L.setIfInBounds i true).getD j b = L.getD j b := by
  simp only [Array.getD_eq_getD_getElem?]
  rw [Array.getElem?_setIfInBounds_ne (Ne.symm h)]
/-- A box that was laid, not yet written. -/
def FB (W : World) (q : Nat) : Prop := W.cell? ⟨q, 0, none⟩ = some (.bool false) ∧ W.cell? ⟨q, 1, none⟩ = some (.slice none 0 0) ∧ (∀ i, W.frozen? ⟨q, i, none⟩ = false) ∧ q < W.heap.size
theorem FB.via {W W1 : World} {q : Nat} (h : FB W q) (hb : Below W.heap.size W W1) : FB W1 q :=
  ⟨(hb.cell (p := ⟨q, 0, none⟩) h.2.2.2).trans h.1, (hb.cell (p := ⟨q, 1, none⟩) h.2.2.2).trans h.2.1, fun i => (hb.frozen (p := ⟨q, i, none⟩) h.2.2.2).trans (h.2.2.1 i), Nat.lt_of_lt_of_le h.2.2.2 hb.size⟩
theorem FB.new (W : World) (T : TypeId) : FB (W.alloc (.cells #[.bool false, .slice none 0 0] T)) W.heap.size := ⟨by simp [go_sem], by simp [go_sem], fun i => by simp [go_sem], by simp⟩
/-- A number is stored into a box: what becomes of all others. -/
def put (W : World) (q : Nat) (g : Bool) (A : Option Addr) (n c : Nat) : World := (W.setCell ⟨q, 0, none⟩ (.bool g)).setCell ⟨q, 1, none⟩ (.slice A n c)
section
variable {W : World} {q q' n c n2 c2 v : Nat} {g g2 : Bool} {A A2 : Option Addr} {l : List Nat}
theorem put_size : (put W q g A n c).heap.size = W.heap.size := by simp [put, World.setCell]
theorem put_cell (hq : q' ≠ q) (i : Nat) : (put W q g A n c).cell? ⟨q', i, none⟩ = W.cell? ⟨q', i, none⟩ := by
  unfold put
  rw [World.cell?_setCell_other _ _ _ _ (fun e => hq (congrArg Addr.block e.symm)), World.cell?_setCell_other _ _ _ _ (fun e => hq (congrArg Addr.block e.symm))]
theorem put_sl (hF : FB W q) (h : Sl W W.heap.size A2 n2 c2 l) : Sl (put W q g A n c) (put W q g A n c).heap.size A2 n2 c2 l := h.stored hF.1 hF.2.1 _ _
theorem put_ob (hF : FB W q) (hq : q' ≠ q) (h : OB W q' g2 A2 n2 c2 v) : OB (put W q g A n c) q' g2 A2 n2 c2 v :=
  ⟨(put_cell hq 0).trans h.1, (put_cell hq 1).trans h.2.1, put_sl hF h.2.2.1, by rw [put_size]; exact h.2.2.2⟩
theorem put_fb (hq : q' ≠ q) (h : FB W q') : FB (put W q g A n c) q' :=
  ⟨(put_cell hq 0).trans h.1, (put_cell hq 1).trans h.2.1, fun i => by rw [← h.2.2.1 i]; simp [put, World.frozen?, World.setCell, Array.getElem?_modify, Ne.symm hq], by rw [put_size]; exact h.2.2.2⟩
theorem put_new (hF : FB W q) (h : Sl W W.heap.size A n c (digs v)) : OB (put W q g A n c) q g A n c v := by
  obtain ⟨t0, t1⟩ := two_set (.bool g) (.slice A n c) hF.1 hF.2.1
  refine ⟨?_, t1, put_sl hF h, by rw [put_size]; exact hF.2.2.2⟩
  unfold put
  rw [World.cell?_setCell_other _ _ _ _ (by simp), t0]
end
/-- The memory behind a box of slices. -/
def AM (w : World) (arr : Array Value) (T : TypeId) (W : World) : Prop := Below (w.heap.size + 1) (w.alloc (.cells arr T)) W
section
variable {w W W1 : World} {arr : Array Value} {T : TypeId}
theorem AM.start : AM w arr T (w.alloc (.cells arr T)) := Below.refl _ _
theorem AM.size (h : AM w arr T W) : w.heap.size + 1 ≤ W.heap.size := by have := Below.size h; simpa using this
theorem AM.via (h : AM w arr T W) (hb : Below W.heap.size W W1) : AM w arr T W1 := Below.trans h (hb.mono h.size)
theorem AM.drew (h : AM w arr T W) : AM w arr T W.drew := Below.drew h
theorem AM.put (h : AM w arr T W) {q : Nat} (hq : w.heap.size + 1 ≤ q) (g : Bool) (A : Option Addr) (n c : Nat) : AM w arr T (put W q g A n c) := Below.setCell (Below.setCell h hq _) hq _
theorem AM.below (h : AM w arr T W) : Below w.heap.size w W := Below.trans (by go_grown) (Below.mono h (by omega))
theorem AM.cell (h : AM w arr T W) (i : Nat) : W.cell? ⟨w.heap.size, i, none⟩ = arr[i]? := by
  have h' : Below (w.heap.size + 1) (w.alloc (.cells arr T)) W := h
  rw [h'.cell (p := ⟨w.heap.size, i, none⟩) (by simp)]
  simp [go_sem]
end
def HoldsN (u : Value) (W : World) (g : Bool) (v : Nat) : Prop := ∃ A n c, u = .agg #[.bool g, .slice A n c] ∧ Sl W W.heap.size A n c (digs v)
theorem HoldsN.via {u : Value} {W W1 : World} {g : Bool} {v : Nat} (h : HoldsN u W g v) (hb : Below W.heap.size W W1) : HoldsN u W1 g v := by
  obtain ⟨A, n, c, e, hs⟩ := h
  exact ⟨A, n, c, e, hs.via hb⟩
def HoldsB (u : Value) (W : World) (z : Nat) : Prop := ∃ q, u = .pointer (some ⟨q, 0, none⟩) ∧ FB W q ∧ z + 1 ≤ q
theorem HoldsB.via {u : Value} {W W1 : World} {z : Nat} (h : HoldsB u W z) (hb : Below W.heap.size W W1) : HoldsB u W1 z := by
  obtain ⟨q, e, hf, hq⟩ := h
  exact ⟨q, e, hf.via hb, hq⟩

/-- What holds of an operation of the region that has been carried out: of its value. -/
def ringFact (w0 : World) (A0 : Option Addr) (k0 d0 : Nat) (g0 : Bool) (v0 : Nat) (A1 : Option Addr) (k1 d1 : Nat) (g1 : Bool) (v1 : Nat) (A2 : Option Addr) (k2 d2 : Nat) (g2 : Bool) (v2 : Nat) (j : Nat) (u : Value) (W : World) : Prop := match j with
  | 0 => u = .pointer (some ⟨w0.heap.size, 0, none⟩)
  | 1 => u = .slice A0 k0 d0
  | 2 => HoldsN u W g0 v0
  | 3 => u = .pointer (some ⟨w0.heap.size, 1, none⟩)
  | 4 => u = .slice A1 k1 d1
  | 5 => HoldsN u W g1 v1
  | 6 => u = .pointer (some ⟨w0.heap.size, 2, none⟩)
  | 7 => u = .slice A2 k2 d2
  | 8 => HoldsN u W g2 v2
  | 9 => HoldsB u W w0.heap.size
  | 10 => HoldsB u W w0.heap.size
  | 11 => HoldsB u W w0.heap.size
  | _ => True
def ringSlot (j : Nat) : Nat := match j with
  | 0 => 34
  | 1 => 35
  | 2 => 36
  | 3 => 37
  | 4 => 38
  | 5 => 39
  | 6 => 40
  | 7 => 41
  | 8 => 42
  | 9 => 4
  | 10 => 5
  | 11 => 6
  | _ => 0
theorem ring_via {w0 W W1 : World} {A0 : Option Addr} {k0 d0 : Nat} {g0 : Bool} {v0 : Nat} {A1 : Option Addr} {k1 d1 : Nat} {g1 : Bool} {v1 : Nat} {A2 : Option Addr} {k2 d2 : Nat} {g2 : Bool} {v2 : Nat} {j : Nat} {u : Value} (h : ringFact w0 A0 k0 d0 g0 v0 A1 k1 d1 g1 v1 A2 k2 d2 g2 v2 j u W) (hb : Below W.heap.size W W1) : ringFact w0 A0 k0 d0 g0 v0 A1 k1 d1 g1 v1 A2 k2 d2 g2 v2 j u W1 := by
  unfold ringFact at h ⊢
  split <;> first | exact h | exact HoldsN.via h hb | exact HoldsB.via h hb | trivial | fail "no"
theorem ring_inj : ∀ x, x < 12 → ∀ y, y < 12 → x ≠ y → ringSlot x ≠ ringSlot y := by decide
theorem ring_upd {w0 W W1 : World} {A0 : Option Addr} {k0 d0 : Nat} {g0 : Bool} {v0 : Nat} {A1 : Option Addr} {k1 d1 : Nat} {g1 : Bool} {v1 : Nat} {A2 : Option Addr} {k2 d2 : Nat} {g2 : Bool} {v2 : Nat} {f : Nat → Value} {L : Array Bool} {i : Nat} {v : Value} (hi : i < 12) (hl : L.getD i true = false) (hF : ∀ j, j < 12 → L.getD j false = true → ringFact w0 A0 k0 d0 g0 v0 A1 k1 d1 g1 v1 A2 k2 d2 g2 v2 j (f (ringSlot j)) W) (hb : Below W.heap.size W W1) (hv : ringFact w0 A0 k0 d0 g0 v0 A1 k1 d1 g1 v1 A2 k2 d2 g2 v2 i v W1) :
    ∀ j, j < 12 → (L.setIfInBounds i true).getD j false = true → ringFact w0 A0 k0 d0 g0 v0 A1 k1 d1 g1 v1 A2 k2 d2 g2 v2 j (upd f (ringSlot i) v (ringSlot j)) W1 := by
  intro j hj h
  by_cases hji : j = i
  · subst hji; rw [upd_same]; exact hv
  · rw [upd_other (ring_inj j hj i hi hji)]
    rcases getD_set h with h | h
    · exact absurd h hji
    · exact ring_via (hF j hj h) hb
theorem ring_dist {f : Nat → Value} {L : Array Bool} {i : Nat} {v : Value} (hi : i < 12) (hn : i < 9 ∨ ∀ x, 9 ≤ x → x < 12 → x ≠ i → L.getD x false = true → f (ringSlot x) ≠ v) (hD : ∀ x y, 9 ≤ x → x < y → y < 12 → L.getD x false = true → L.getD y false = true → f (ringSlot x) ≠ f (ringSlot y)) :
    ∀ x y, 9 ≤ x → x < y → y < 12 → (L.setIfInBounds i true).getD x false = true → (L.setIfInBounds i true).getD y false = true → upd f (ringSlot i) v (ringSlot x) ≠ upd f (ringSlot i) v (ringSlot y) := by
  intro x y h1 h2 h3 hx hy
  by_cases hxi : x = i
  · subst hxi
    rw [upd_same, upd_other (ring_inj y h3 x hi (by omega))]
    rcases getD_set hy with h | h
    · omega
    · rcases hn with hn | hn
      · omega
      · exact Ne.symm (hn y (by omega) h3 (by omega) h)
  · rw [upd_other (ring_inj x (by omega) i hi hxi)]
    rcases getD_set hx with h | hx2
    · exact absurd h hxi
    · by_cases hyi : y = i
      · subst hyi
        rw [upd_same]
        rcases hn with hn | hn
        · omega
        · exact hn x h1 (by omega) hxi hx2
      · rw [upd_other (ring_inj y h3 i hi hyi)]
        rcases getD_set hy with h | hy2
        · exact absurd h hyi
        · exact hD x y h1 h2 h3 hx2 hy2
def ringPh0 (w0 : World) (g0 : Bool) (v0 : Nat) (g1 : Bool) (v1 : Nat) (g2 : Bool) (v2 : Nat) (f : Nat → Value) (W : World) : Prop := ∃ q0 a0 n0 c0 q1 a1 n1 c1 q2 a2 n2 c2, f 4 = .pointer (some ⟨q0, 0, none⟩) ∧ f 36 = .agg #[.bool g0, .slice a0 n0 c0] ∧ Sl W W.heap.size a0 n0 c0 (digs v0) ∧ FB W q0 ∧ w0.heap.size + 1 ≤ q0 ∧ f 5 = .pointer (some ⟨q1, 0, none⟩) ∧ f 39 = .agg #[.bool g1, .slice a1 n1 c1] ∧ Sl W W.heap.size a1 n1 c1 (digs v1) ∧ FB W q1 ∧ w0.heap.size + 1 ≤ q1 ∧ f 6 = .pointer (some ⟨q2, 0, none⟩) ∧ f 42 = .agg #[.bool g2, .slice a2 n2 c2] ∧ Sl W W.heap.size a2 n2 c2 (digs v2) ∧ FB W q2 ∧ w0.heap.size + 1 ≤ q2 ∧ q0 ≠ q1 ∧ q0 ≠ q2 ∧ q1 ≠ q2
def ringPh1 (w0 : World) (g0 : Bool) (v0 : Nat) (g1 : Bool) (v1 : Nat) (g2 : Bool) (v2 : Nat) (f : Nat → Value) (W : World) : Prop := ∃ q0 a0 n0 c0 q1 a1 n1 c1 q2 a2 n2 c2, f 4 = .pointer (some ⟨q0, 0, none⟩) ∧ f 36 = .agg #[.bool g0, .slice a0 n0 c0] ∧ Sl W W.heap.size a0 n0 c0 (digs v0) ∧ OB W q0 g0 a0 n0 c0 v0 ∧ w0.heap.size + 1 ≤ q0 ∧ f 5 = .pointer (some ⟨q1, 0, none⟩) ∧ f 39 = .agg #[.bool g1, .slice a1 n1 c1] ∧ Sl W W.heap.size a1 n1 c1 (digs v1) ∧ FB W q1 ∧ w0.heap.size + 1 ≤ q1 ∧ f 6 = .pointer (some ⟨q2, 0, none⟩) ∧ f 42 = .agg #[.bool g2, .slice a2 n2 c2] ∧ Sl W W.heap.size a2 n2 c2 (digs v2) ∧ FB W q2 ∧ w0.heap.size + 1 ≤ q2 ∧ q0 ≠ q1 ∧ q0 ≠ q2 ∧ q1 ≠ q2
def ringPh2 (w0 : World) (g0 : Bool) (v0 : Nat) (g1 : Bool) (v1 : Nat) (g2 : Bool) (v2 : Nat) (f : Nat → Value) (W : World) : Prop := ∃ q0 a0 n0 c0 q1 a1 n1 c1 q2 a2 n2 c2, f 4 = .pointer (some ⟨q0, 0, none⟩) ∧ f 36 = .agg #[.bool g0, .slice a0 n0 c0] ∧ Sl W W.heap.size a0 n0 c0 (digs v0) ∧ OB W q0 g0 a0 n0 c0 v0 ∧ w0.heap.size + 1 ≤ q0 ∧ f 5 = .pointer (some ⟨q1, 0, none⟩) ∧ f 39 = .agg #[.bool g1, .slice a1 n1 c1] ∧ Sl W W.heap.size a1 n1 c1 (digs v1) ∧ OB W q1 g1 a1 n1 c1 v1 ∧ w0.heap.size + 1 ≤ q1 ∧ f 6 = .pointer (some ⟨q2, 0, none⟩) ∧ f 42 = .agg #[.bool g2, .slice a2 n2 c2] ∧ Sl W W.heap.size a2 n2 c2 (digs v2) ∧ FB W q2 ∧ w0.heap.size + 1 ≤ q2 ∧ q0 ≠ q1 ∧ q0 ≠ q2 ∧ q1 ≠ q2
def ringPh3 (w0 : World) (g0 : Bool) (v0 : Nat) (g1 : Bool) (v1 : Nat) (g2 : Bool) (v2 : Nat) (f : Nat → Value) (W : World) : Prop := ∃ q0 a0 n0 c0 q1 a1 n1 c1 q2 a2 n2 c2, f 4 = .pointer (some ⟨q0, 0, none⟩) ∧ f 36 = .agg #[.bool g0, .slice a0 n0 c0] ∧ Sl W W.heap.size a0 n0 c0 (digs v0) ∧ OB W q0 g0 a0 n0 c0 v0 ∧ w0.heap.size + 1 ≤ q0 ∧ f 5 = .pointer (some ⟨q1, 0, none⟩) ∧ f 39 = .agg #[.bool g1, .slice a1 n1 c1] ∧ Sl W W.heap.size a1 n1 c1 (digs v1) ∧ OB W q1 g1 a1 n1 c1 v1 ∧ w0.heap.size + 1 ≤ q1 ∧ f 6 = .pointer (some ⟨q2, 0, none⟩) ∧ f 42 = .agg #[.bool g2, .slice a2 n2 c2] ∧ Sl W W.heap.size a2 n2 c2 (digs v2) ∧ OB W q2 g2 a2 n2 c2 v2 ∧ w0.heap.size + 1 ≤ q2 ∧ q0 ≠ q1 ∧ q0 ≠ q2 ∧ q1 ≠ q2
def ringInv (t : Array Value) (df : List Deferred) (w0 : World) (A0 : Option Addr) (k0 d0 : Nat) (g0 : Bool) (v0 : Nat) (A1 : Option Addr) (k1 d1 : Nat) (g1 : Bool) (v1 : Nat) (A2 : Option Addr) (k2 d2 : Nat) (g2 : Bool) (v2 : Nat) (L : Array Bool) (a : Act) (W : World) : Prop :=
  ∃ f, a = ⟨patch t [34, 35, 36, 37, 38, 39, 40, 41, 42, 4, 5, 6] f, df⟩ ∧ AM w0 #[.slice A0 k0 d0, .slice A1 k1 d1, .slice A2 k2 d2] 43 W ∧
    ((L.getD 12 false = false ∧ (∀ j, j < 12 → L.getD j false = true → ringFact w0 A0 k0 d0 g0 v0 A1 k1 d1 g1 v1 A2 k2 d2 g2 v2 j (f (ringSlot j)) W) ∧ (∀ x y, 9 ≤ x → x < y → y < 12 → L.getD x false = true → L.getD y false = true → f (ringSlot x) ≠ f (ringSlot y))) ∨ ((∀ j, j < 13 → L.getD j false = true) ∧ ringPh1 w0 g0 v0 g1 v1 g2 v2 f W ∧ L.getD 13 false = false) ∨ ((∀ j, j < 14 → L.getD j false = true) ∧ ringPh2 w0 g0 v0 g1 v1 g2 v2 f W ∧ L.getD 14 false = false) ∨ ((∀ j, j < 15 → L.getD j false = true) ∧ ringPh3 w0 g0 v0 g1 v1 g2 v2 f W))
set_option maxRecDepth 100000 in
set_option maxHeartbeats 4000000 in
theorem ring_region {ops : Array Oper} {Q : Exit → Act → World → Prop} {id : Nat} (t : Array Value) (df : List Deferred) (w0 W : World) (A0 : Option Addr) (k0 d0 : Nat) (g0 : Bool) (v0 : Nat) (A1 : Option Addr) (k1 d1 : Nat) (g1 : Bool) (v1 : Nat) (A2 : Option Addr) (k2 d2 : Nat) (g2 : Bool) (v2 : Nat)
    (hsz : ops.size = 15) (hback : backB ops = true) (hts : 42 < t.size) (hpa : t.getD 1 undef = .pointer (some ⟨w0.heap.size, 0, none⟩)) (hAM : AM w0 #[.slice A0 k0 d0, .slice A1 k1 d1, .slice A2 k2 d2] 43 W)
    (M0 : ∀ (W : World), Below w0.heap.size w0 W → Calls Tryd.prog 9 #[.slice A0 k0 d0] W (NR g0 v0 W))
    (M1 : ∀ (W : World), Below w0.heap.size w0 W → Calls Tryd.prog 9 #[.slice A1 k1 d1] W (NR g1 v1 W))
    (M2 : ∀ (W : World), Below w0.heap.size w0 W → Calls Tryd.prog 9 #[.slice A2 k2 d2] W (NR g2 v2 W))
    (o0 : opIs ops 0 (some 34) (.indexAddr 43 (.tmp 1) (.const (.int .i64 0))))
    (o1 : opIs ops 1 (some 35) (.load 22 (.tmp 34)))
    (o2 : opIs ops 2 (some 36) (.call { callee := .value (.func 9), args := #[.tmp 35], argTypes := #[22] }))
    (o3 : opIs ops 3 (some 37) (.indexAddr 43 (.tmp 1) (.const (.int .i64 1))))
    (o4 : opIs ops 4 (some 38) (.load 22 (.tmp 37)))
    (o5 : opIs ops 5 (some 39) (.call { callee := .value (.func 9), args := #[.tmp 38], argTypes := #[22] }))
    (o6 : opIs ops 6 (some 40) (.indexAddr 43 (.tmp 1) (.const (.int .i64 2))))
    (o7 : opIs ops 7 (some 41) (.load 22 (.tmp 40)))
    (o8 : opIs ops 8 (some 42) (.call { callee := .value (.func 9), args := #[.tmp 41], argTypes := #[22] }))
    (o9 : opIs ops 9 (some 4) (.alloc 25))
    (o10 : opIs ops 10 (some 5) (.alloc 25))
    (o11 : opIs ops 11 (some 6) (.alloc 25))
    (o12 : opIs ops 12 none (.store 25 (.tmp 4) (.tmp 36)))
    (o13 : opIs ops 13 none (.store 25 (.tmp 5) (.tmp 39)))
    (o14 : opIs ops 14 none (.store 25 (.tmp 6) (.tmp 42)))
    (p1_0 : depB ops 1 0 = true)
    (p2_1 : depB ops 2 1 = true)
    (p4_3 : depB ops 4 3 = true)
    (p5_4 : depB ops 5 4 = true)
    (p5_2 : depB ops 5 2 = true)
    (p7_6 : depB ops 7 6 = true)
    (p8_7 : depB ops 8 7 = true)
    (p8_5 : depB ops 8 5 = true)
    (p12_8 : depB ops 12 8 = true)
    (p12_9 : depB ops 12 9 = true)
    (p12_10 : depB ops 12 10 = true)
    (p12_11 : depB ops 12 11 = true)
    (p13_12 : depB ops 13 12 = true)
    (p14_13 : depB ops 14 13 = true)
    (hQ : ∀ f W, AM w0 #[.slice A0 k0 d0, .slice A1 k1 d1, .slice A2 k2 d2] 43 W → ringPh3 w0 g0 v0 g1 v1 g2 v2 f W → Q .normal ⟨patch t [34, 35, 36, 37, 38, 39, 40, 41, 42, 4, 5, 6] f, df⟩ W) : (Code.region id ops true).wp Tryd.prog Q ⟨t, df⟩ W := by
  refine wp_region_inv (by kernel_rfl) hback (ringInv t df w0 A0 k0 d0 g0 v0 A1 k1 d1 g1 v1 A2 k2 d2 g2 v2) ?_ ?_ ?_
  · refine ⟨_, congrArg (fun x => (⟨x, df⟩ : Act)) (patch_start t [34, 35, 36, 37, 38, 39, 40, 41, 42, 4, 5, 6]).symm, hAM.drew, .inl ⟨by simp [Array.getD, hsz], fun j _ h => ?_, fun x y _ _ _ h => ?_⟩⟩
    · simp [Array.getD] at h
    · simp [Array.getD] at h
  · rintro L a W i o ho hz hc hl hd ⟨f, rfl, hA, hI⟩
    have hi : i < 15 := by have := (Array.getElem?_eq_some_iff.1 ho).1; omega
    have no : ∀ {n : Nat}, (∀ j, j < n → L.getD j false = true) → i < n → False := fun h h2 => by
      have h3 := h i h2
      rw [getD_lt (c := true) (by omega), hl] at h3; cases h3
    obtain ⟨dst, op, ty, pos, after, guard⟩ := o
    match i, hi with
    | 0, _ =>
      have e := o0
      unfold opIs at e
      rw [ho] at e
      simp only [Option.map_some, Option.some.injEq, Prod.mk.injEq] at e
      obtain ⟨rfl, rfl, rfl⟩ := e
      rcases hI with ⟨hs, hF, hD⟩ | ⟨hall, _⟩ | ⟨hall, _⟩ | ⟨hall, _⟩
      · refine wpOp_step ho (fun K hK => ?_)
        rw [if_pos (wanted_none rfl)]
        have x0 : (patch t [34, 35, 36, 37, 38, 39, 40, 41, 42, 4, 5, 6] f).getD 1 undef = .pointer (some ⟨w0.heap.size, 0, none⟩) := (patch_out (by decide)).trans hpa
        go_simp
        refine hK _ _ ⟨upd f 34 (.pointer (some ⟨w0.heap.size, 0, none⟩)), by rw [patch_set (by decide)], hA, .inl ⟨?_, ring_upd (i := 0) (by omega) hl hF (Below.refl _ _) rfl, ring_dist (i := 0) (by omega) (.inl (by omega)) hD⟩⟩
        rw [getD_set_ne (by omega)]; exact hs
      · exact (no hall (by omega)).elim
      · exact (no hall (by omega)).elim
      · exact (no hall (by omega)).elim
    | 1, _ =>
      have e := o1
      unfold opIs at e
      rw [ho] at e
      simp only [Option.map_some, Option.some.injEq, Prod.mk.injEq] at e
      obtain ⟨rfl, rfl, rfl⟩ := e
      rcases hI with ⟨hs, hF, hD⟩ | ⟨hall, _⟩ | ⟨hall, _⟩ | ⟨hall, _⟩
      · refine wpOp_step ho (fun K hK => ?_)
        rw [if_pos (wanted_none rfl)]
        have x0 : (patch t [34, 35, 36, 37, 38, 39, 40, 41, 42, 4, 5, 6] f).getD 34 undef = .pointer (some ⟨w0.heap.size, 0, none⟩) := (patch_get (by omega) (by decide)).trans (hF 0 (by omega) (hd 0 p1_0))
        have x1 : W.cell? ⟨w0.heap.size, 0, none⟩ = some (.slice A0 k0 d0) := hA.cell 0
        go_simp
        refine hK _ _ ⟨upd f 35 (.slice A0 k0 d0), by rw [patch_set (by decide)], hA, .inl ⟨?_, ring_upd (i := 1) (by omega) hl hF (Below.refl _ _) rfl, ring_dist (i := 1) (by omega) (.inl (by omega)) hD⟩⟩
        rw [getD_set_ne (by omega)]; exact hs
      · exact (no hall (by omega)).elim
      · exact (no hall (by omega)).elim
      · exact (no hall (by omega)).elim
    | 2, _ =>
      have e := o2
      unfold opIs at e
      rw [ho] at e
      simp only [Option.map_some, Option.some.injEq, Prod.mk.injEq] at e
      obtain ⟨rfl, rfl, rfl⟩ := e
      rcases hI with ⟨hs, hF, hD⟩ | ⟨hall, _⟩ | ⟨hall, _⟩ | ⟨hall, _⟩
      · refine wpOp_step ho (fun K hK => ?_)
        rw [if_pos (wanted_none rfl)]
        have x0 : (patch t [34, 35, 36, 37, 38, 39, 40, 41, 42, 4, 5, 6] f).getD 35 undef = .slice A0 k0 d0 := (patch_get (by omega) (by decide)).trans (hF 1 (by omega) (hd 1 p2_1))
        go_simp
        refine (M0 W hA.below).mono ?_
        rintro e w1 ⟨A, n, c, rfl, hsl, hb⟩
        refine hK _ _ ⟨upd f 36 (.agg #[.bool g0, .slice A n c]), by rw [patch_set (by decide)], hA.via hb, .inl ⟨?_, ring_upd (i := 2) (by omega) hl hF hb ⟨A, n, c, rfl, hsl⟩, ring_dist (i := 2) (by omega) (.inl (by omega)) hD⟩⟩
        rw [getD_set_ne (by omega)]; exact hs
      · exact (no hall (by omega)).elim
      · exact (no hall (by omega)).elim
      · exact (no hall (by omega)).elim
    | 3, _ =>
      have e := o3
      unfold opIs at e
      rw [ho] at e
      simp only [Option.map_some, Option.some.injEq, Prod.mk.injEq] at e
      obtain ⟨rfl, rfl, rfl⟩ := e
      rcases hI with ⟨hs, hF, hD⟩ | ⟨hall, _⟩ | ⟨hall, _⟩ | ⟨hall, _⟩
      · refine wpOp_step ho (fun K hK => ?_)
        rw [if_pos (wanted_none rfl)]
        have x0 : (patch t [34, 35, 36, 37, 38, 39, 40, 41, 42, 4, 5, 6] f).getD 1 undef = .pointer (some ⟨w0.heap.size, 0, none⟩) := (patch_out (by decide)).trans hpa
        go_simp
        refine hK _ _ ⟨upd f 37 (.pointer (some ⟨w0.heap.size, 1, none⟩)), by rw [patch_set (by decide)], hA, .inl ⟨?_, ring_upd (i := 3) (by omega) hl hF (Below.refl _ _) rfl, ring_dist (i := 3) (by omega) (.inl (by omega)) hD⟩⟩
        rw [getD_set_ne (by omega)]; exact hs
      · exact (no hall (by omega)).elim
      · exact (no hall (by omega)).elim
      · exact (no hall (by omega)).elim
    | 4, _ =>
      have e := o4
      unfold opIs at e
      rw [ho] at e
      simp only [Option.map_some, Option.some.injEq, Prod.mk.injEq] at e
      obtain ⟨rfl, rfl, rfl⟩ := e
      rcases hI with ⟨hs, hF, hD⟩ | ⟨hall, _⟩ | ⟨hall, _⟩ | ⟨hall, _⟩
      · refine wpOp_step ho (fun K hK => ?_)
        rw [if_pos (wanted_none rfl)]
        have x0 : (patch t [34, 35, 36, 37, 38, 39, 40, 41, 42, 4, 5, 6] f).getD 37 undef = .pointer (some ⟨w0.heap.size, 1, none⟩) := (patch_get (by omega) (by decide)).trans (hF 3 (by omega) (hd 3 p4_3))
        have x1 : W.cell? ⟨w0.heap.size, 1, none⟩ = some (.slice A1 k1 d1) := hA.cell 1
        go_simp
        refine hK _ _ ⟨upd f 38 (.slice A1 k1 d1), by rw [patch_set (by decide)], hA, .inl ⟨?_, ring_upd (i := 4) (by omega) hl hF (Below.refl _ _) rfl, ring_dist (i := 4) (by omega) (.inl (by omega)) hD⟩⟩
        rw [getD_set_ne (by omega)]; exact hs
      · exact (no hall (by omega)).elim
      · exact (no hall (by omega)).elim
      · exact (no hall (by omega)).elim
    | 5, _ =>
      have e := o5
      unfold opIs at e
      rw [ho] at e
      simp only [Option.map_some, Option.some.injEq, Prod.mk.injEq] at e
      obtain ⟨rfl, rfl, rfl⟩ := e
      rcases hI with ⟨hs, hF, hD⟩ | ⟨hall, _⟩ | ⟨hall, _⟩ | ⟨hall, _⟩
      · refine wpOp_step ho (fun K hK => ?_)
        rw [if_pos (wanted_none rfl)]
        have x0 : (patch t [34, 35, 36, 37, 38, 39, 40, 41, 42, 4, 5, 6] f).getD 38 undef = .slice A1 k1 d1 := (patch_get (by omega) (by decide)).trans (hF 4 (by omega) (hd 4 p5_4))
        go_simp
        refine (M1 W hA.below).mono ?_
        rintro e w1 ⟨A, n, c, rfl, hsl, hb⟩
        refine hK _ _ ⟨upd f 39 (.agg #[.bool g1, .slice A n c]), by rw [patch_set (by decide)], hA.via hb, .inl ⟨?_, ring_upd (i := 5) (by omega) hl hF hb ⟨A, n, c, rfl, hsl⟩, ring_dist (i := 5) (by omega) (.inl (by omega)) hD⟩⟩
        rw [getD_set_ne (by omega)]; exact hs
      · exact (no hall (by omega)).elim
      · exact (no hall (by omega)).elim
      · exact (no hall (by omega)).elim
    | 6, _ =>
      have e := o6
      unfold opIs at e
      rw [ho] at e
      simp only [Option.map_some, Option.some.injEq, Prod.mk.injEq] at e
      obtain ⟨rfl, rfl, rfl⟩ := e
      rcases hI with ⟨hs, hF, hD⟩ | ⟨hall, _⟩ | ⟨hall, _⟩ | ⟨hall, _⟩
      · refine wpOp_step ho (fun K hK => ?_)
        rw [if_pos (wanted_none rfl)]
        have x0 : (patch t [34, 35, 36, 37, 38, 39, 40, 41, 42, 4, 5, 6] f).getD 1 undef = .pointer (some ⟨w0.heap.size, 0, none⟩) := (patch_out (by decide)).trans hpa
        go_simp
        refine hK _ _ ⟨upd f 40 (.pointer (some ⟨w0.heap.size, 2, none⟩)), by rw [patch_set (by decide)], hA, .inl ⟨?_, ring_upd (i := 6) (by omega) hl hF (Below.refl _ _) rfl, ring_dist (i := 6) (by omega) (.inl (by omega)) hD⟩⟩
        rw [getD_set_ne (by omega)]; exact hs
      · exact (no hall (by omega)).elim
      · exact (no hall (by omega)).elim
      · exact (no hall (by omega)).elim
    | 7, _ =>
      have e := o7
      unfold opIs at e
      rw [ho] at e
      simp only [Option.map_some, Option.some.injEq, Prod.mk.injEq] at e
      obtain ⟨rfl, rfl, rfl⟩ := e
      rcases hI with ⟨hs, hF, hD⟩ | ⟨hall, _⟩ | ⟨hall, _⟩ | ⟨hall, _⟩
      · refine wpOp_step ho (fun K hK => ?_)
        rw [if_pos (wanted_none rfl)]
        have x0 : (patch t [34, 35, 36, 37, 38, 39, 40, 41, 42, 4, 5, 6] f).getD 40 undef = .pointer (some ⟨w0.heap.size, 2, none⟩) := (patch_get (by omega) (by decide)).trans (hF 6 (by omega) (hd 6 p7_6))
        have x1 : W.cell? ⟨w0.heap.size, 2, none⟩ = some (.slice A2 k2 d2) := hA.cell 2
        go_simp
        refine hK _ _ ⟨upd f 41 (.slice A2 k2 d2), by rw [patch_set (by decide)], hA, .inl ⟨?_, ring_upd (i := 7) (by omega) hl hF (Below.refl _ _) rfl, ring_dist (i := 7) (by omega) (.inl (by omega)) hD⟩⟩
        rw [getD_set_ne (by omega)]; exact hs
      · exact (no hall (by omega)).elim
      · exact (no hall (by omega)).elim
      · exact (no hall (by omega)).elim
    | 8, _ =>
      have e := o8
      unfold opIs at e
      rw [ho] at e
      simp only [Option.map_some, Option.some.injEq, Prod.mk.injEq] at e
      obtain ⟨rfl, rfl, rfl⟩ := e
      rcases hI with ⟨hs, hF, hD⟩ | ⟨hall, _⟩ | ⟨hall, _⟩ | ⟨hall, _⟩
      · refine wpOp_step ho (fun K hK => ?_)
        rw [if_pos (wanted_none rfl)]
        have x0 : (patch t [34, 35, 36, 37, 38, 39, 40, 41, 42, 4, 5, 6] f).getD 41 undef = .slice A2 k2 d2 := (patch_get (by omega) (by decide)).trans (hF 7 (by omega) (hd 7 p8_7))
        go_simp
        refine (M2 W hA.below).mono ?_
        rintro e w1 ⟨A, n, c, rfl, hsl, hb⟩
        refine hK _ _ ⟨upd f 42 (.agg #[.bool g2, .slice A n c]), by rw [patch_set (by decide)], hA.via hb, .inl ⟨?_, ring_upd (i := 8) (by omega) hl hF hb ⟨A, n, c, rfl, hsl⟩, ring_dist (i := 8) (by omega) (.inl (by omega)) hD⟩⟩
        rw [getD_set_ne (by omega)]; exact hs
      · exact (no hall (by omega)).elim
      · exact (no hall (by omega)).elim
      · exact (no hall (by omega)).elim
    | 9, _ =>
      have e := o9
      unfold opIs at e
      rw [ho] at e
      simp only [Option.map_some, Option.some.injEq, Prod.mk.injEq] at e
      obtain ⟨rfl, rfl, rfl⟩ := e
      rcases hI with ⟨hs, hF, hD⟩ | ⟨hall, _⟩ | ⟨hall, _⟩ | ⟨hall, _⟩
      · refine wpOp_step ho (fun K hK => ?_)
        rw [if_pos (wanted_none rfl)]
        go_simp
        have hb : Below W.heap.size W (W.alloc (.cells #[.bool false, .slice none 0 0] 25)) := (Below.refl _ _).alloc (Nat.le_refl _) _
        refine hK _ _ ⟨upd f 4 (.pointer (some ⟨W.heap.size, 0, none⟩)), by rw [patch_set (by decide)], hA.via hb, .inl ⟨?_, ring_upd (i := 9) (by omega) hl hF hb ⟨_, rfl, FB.new _ _, hA.size⟩, ring_dist (i := 9) (by omega) (.inr fun x h1 h2 _ h3 e => ?_) hD⟩⟩
        · rw [getD_set_ne (by omega)]; exact hs
        · have h4 : HoldsB (f (ringSlot x)) W w0.heap.size := by
            have := hF x h2 h3
            match x, h1, h2 with
            | 9, _, _ => exact this
            | 10, _, _ => exact this
            | 11, _, _ => exact this
          obtain ⟨q, e2, h5, _⟩ := h4
          rw [e] at e2
          cases e2
          exact absurd h5.2.2.2 (by omega)
      · exact (no hall (by omega)).elim
      · exact (no hall (by omega)).elim
      · exact (no hall (by omega)).elim
    | 10, _ =>
      have e := o10
      unfold opIs at e
      rw [ho] at e
      simp only [Option.map_some, Option.some.injEq, Prod.mk.injEq] at e
      obtain ⟨rfl, rfl, rfl⟩ := e
      rcases hI with ⟨hs, hF, hD⟩ | ⟨hall, _⟩ | ⟨hall, _⟩ | ⟨hall, _⟩
      · refine wpOp_step ho (fun K hK => ?_)
        rw [if_pos (wanted_none rfl)]
        go_simp
        have hb : Below W.heap.size W (W.alloc (.cells #[.bool false, .slice none 0 0] 25)) := (Below.refl _ _).alloc (Nat.le_refl _) _
        refine hK _ _ ⟨upd f 5 (.pointer (some ⟨W.heap.size, 0, none⟩)), by rw [patch_set (by decide)], hA.via hb, .inl ⟨?_, ring_upd (i := 10) (by omega) hl hF hb ⟨_, rfl, FB.new _ _, hA.size⟩, ring_dist (i := 10) (by omega) (.inr fun x h1 h2 _ h3 e => ?_) hD⟩⟩
        · rw [getD_set_ne (by omega)]; exact hs
        · have h4 : HoldsB (f (ringSlot x)) W w0.heap.size := by
            have := hF x h2 h3
            match x, h1, h2 with
            | 9, _, _ => exact this
            | 10, _, _ => exact this
            | 11, _, _ => exact this
          obtain ⟨q, e2, h5, _⟩ := h4
          rw [e] at e2
          cases e2
          exact absurd h5.2.2.2 (by omega)
      · exact (no hall (by omega)).elim
      · exact (no hall (by omega)).elim
      · exact (no hall (by omega)).elim
    | 11, _ =>
      have e := o11
      unfold opIs at e
      rw [ho] at e
      simp only [Option.map_some, Option.some.injEq, Prod.mk.injEq] at e
      obtain ⟨rfl, rfl, rfl⟩ := e
      rcases hI with ⟨hs, hF, hD⟩ | ⟨hall, _⟩ | ⟨hall, _⟩ | ⟨hall, _⟩
      · refine wpOp_step ho (fun K hK => ?_)
        rw [if_pos (wanted_none rfl)]
        go_simp
        have hb : Below W.heap.size W (W.alloc (.cells #[.bool false, .slice none 0 0] 25)) := (Below.refl _ _).alloc (Nat.le_refl _) _
        refine hK _ _ ⟨upd f 6 (.pointer (some ⟨W.heap.size, 0, none⟩)), by rw [patch_set (by decide)], hA.via hb, .inl ⟨?_, ring_upd (i := 11) (by omega) hl hF hb ⟨_, rfl, FB.new _ _, hA.size⟩, ring_dist (i := 11) (by omega) (.inr fun x h1 h2 _ h3 e => ?_) hD⟩⟩
        · rw [getD_set_ne (by omega)]; exact hs
        · have h4 : HoldsB (f (ringSlot x)) W w0.heap.size := by
            have := hF x h2 h3
            match x, h1, h2 with
            | 9, _, _ => exact this
            | 10, _, _ => exact this
            | 11, _, _ => exact this
          obtain ⟨q, e2, h5, _⟩ := h4
          rw [e] at e2
          cases e2
          exact absurd h5.2.2.2 (by omega)
      · exact (no hall (by omega)).elim
      · exact (no hall (by omega)).elim
      · exact (no hall (by omega)).elim
    | 12, _ =>
      have e := o12
      unfold opIs at e
      rw [ho] at e
      simp only [Option.map_some, Option.some.injEq, Prod.mk.injEq] at e
      obtain ⟨rfl, rfl, rfl⟩ := e
      rcases hI with ⟨hs, hF, hD⟩ | ⟨hall, _⟩ | ⟨hall, _⟩ | ⟨hall, _⟩
      · have hall : ∀ j, j < 12 → L.getD j false = true := by
          have y8 := hd 8 p12_8
          have y9 := hd 9 p12_9
          have y10 := hd 10 p12_10
          have y11 := hd 11 p12_11
          have y7 := hc 8 7 p8_7 (by rw [getD_lt (c := false) (by omega)]; exact y8) (by omega)
          have y6 := hc 7 6 p7_6 (by rw [getD_lt (c := false) (by omega)]; exact y7) (by omega)
          have y5 := hc 8 5 p8_5 (by rw [getD_lt (c := false) (by omega)]; exact y8) (by omega)
          have y4 := hc 5 4 p5_4 (by rw [getD_lt (c := false) (by omega)]; exact y5) (by omega)
          have y3 := hc 4 3 p4_3 (by rw [getD_lt (c := false) (by omega)]; exact y4) (by omega)
          have y2 := hc 5 2 p5_2 (by rw [getD_lt (c := false) (by omega)]; exact y5) (by omega)
          have y1 := hc 2 1 p2_1 (by rw [getD_lt (c := false) (by omega)]; exact y2) (by omega)
          have y0 := hc 1 0 p1_0 (by rw [getD_lt (c := false) (by omega)]; exact y1) (by omega)
          intro j hj
          match j, hj with
          | 0, _ => exact y0
          | 1, _ => exact y1
          | 2, _ => exact y2
          | 3, _ => exact y3
          | 4, _ => exact y4
          | 5, _ => exact y5
          | 6, _ => exact y6
          | 7, _ => exact y7
          | 8, _ => exact y8
          | 9, _ => exact y9
          | 10, _ => exact y10
          | 11, _ => exact y11
        obtain ⟨q0, z0, fb0, hq0⟩ : HoldsB (f 4) W w0.heap.size := hF 9 (by omega) (hall 9 (by omega))
        obtain ⟨a0, n0, c0, r0, sl0⟩ : HoldsN (f 36) W g0 v0 := hF 2 (by omega) (hall 2 (by omega))
        obtain ⟨q1, z1, fb1, hq1⟩ : HoldsB (f 5) W w0.heap.size := hF 10 (by omega) (hall 10 (by omega))
        obtain ⟨a1, n1, c1, r1, sl1⟩ : HoldsN (f 39) W g1 v1 := hF 5 (by omega) (hall 5 (by omega))
        obtain ⟨q2, z2, fb2, hq2⟩ : HoldsB (f 6) W w0.heap.size := hF 11 (by omega) (hall 11 (by omega))
        obtain ⟨a2, n2, c2, r2, sl2⟩ : HoldsN (f 42) W g2 v2 := hF 8 (by omega) (hall 8 (by omega))
        have hn01 : q0 ≠ q1 := fun e => hD 9 10 (by omega) (by omega) (by omega) (hall 9 (by omega)) (hall 10 (by omega)) (show f 4 = f 5 by rw [z0, z1, e])
        have hn02 : q0 ≠ q2 := fun e => hD 9 11 (by omega) (by omega) (by omega) (hall 9 (by omega)) (hall 11 (by omega)) (show f 4 = f 6 by rw [z0, z2, e])
        have hn12 : q1 ≠ q2 := fun e => hD 10 11 (by omega) (by omega) (by omega) (hall 10 (by omega)) (hall 11 (by omega)) (show f 5 = f 6 by rw [z1, z2, e])
        have hall2 : ∀ j, j < 13 → (L.setIfInBounds 12 true).getD j false = true := fun j hj => by
          by_cases h : j = 12
          · subst h; exact getD_set_self (by omega)
          · exact getD_set_of (hall j (by omega))
        refine wpOp_step ho (fun K hK => ?_)
        rw [if_pos (wanted_none rfl)]
        have x0 : (patch t [34, 35, 36, 37, 38, 39, 40, 41, 42, 4, 5, 6] f).getD 4 undef = .pointer (some ⟨q0, 0, none⟩) := (patch_get (by omega) (by decide)).trans z0
        have x1 : (patch t [34, 35, 36, 37, 38, 39, 40, 41, 42, 4, 5, 6] f).getD 36 undef = .agg #[.bool g0, .slice a0 n0 c0] := (patch_get (by omega) (by decide)).trans r0
        have hfb := fb0
        obtain ⟨w1, w2, w3, w4⟩ := hfb
        go_simp
        refine hK _ _ ⟨f, rfl, hA.put hq0 g0 a0 n0 c0, .inr (.inl ⟨hall2, ⟨_, _, _, _, _, _, _, _, _, _, _, _, z0, r0, put_sl fb0 sl0, put_new fb0 sl0, hq0, z1, r1, put_sl fb0 sl1, put_fb (Ne.symm hn01) fb1, hq1, z2, r2, put_sl fb0 sl2, put_fb (Ne.symm hn02) fb2, hq2, hn01, hn02, hn12⟩, ?_⟩)⟩
        rw [getD_set_ne (by omega)]
        cases hx : L.getD 13 false with
        | false => rfl
        | true =>
          have h9 := hc 13 12 p13_12 (by rw [getD_lt (c := false) (by omega)]; exact hx) (by omega)
          rw [getD_lt (c := true) (by omega), hl] at h9; cases h9
      · exact (no hall (by omega)).elim
      · exact (no hall (by omega)).elim
      · exact (no hall (by omega)).elim
    | 13, _ =>
      have e := o13
      unfold opIs at e
      rw [ho] at e
      simp only [Option.map_some, Option.some.injEq, Prod.mk.injEq] at e
      obtain ⟨rfl, rfl, rfl⟩ := e
      have hdp := hd 12 p13_12
      rcases hI with ⟨hs, hF, hD⟩ | ⟨hall, hP, hno⟩ | ⟨hall, _⟩ | ⟨hall, _⟩
      · rw [hs] at hdp; cases hdp
      · obtain ⟨q0, a0, n0, c0, q1, a1, n1, c1, q2, a2, n2, c2, z0, r0, sl0, ob0, hq0, z1, r1, sl1, fb1, hq1, z2, r2, sl2, fb2, hq2, hn01, hn02, hn12⟩ := hP
        have hall2 : ∀ j, j < 14 → (L.setIfInBounds 13 true).getD j false = true := fun j hj => by
          by_cases h : j = 13
          · subst h; exact getD_set_self (by omega)
          · exact getD_set_of (hall j (by omega))
        refine wpOp_step ho (fun K hK => ?_)
        rw [if_pos (wanted_none rfl)]
        have x0 : (patch t [34, 35, 36, 37, 38, 39, 40, 41, 42, 4, 5, 6] f).getD 5 undef = .pointer (some ⟨q1, 0, none⟩) := (patch_get (by omega) (by decide)).trans z1
        have x1 : (patch t [34, 35, 36, 37, 38, 39, 40, 41, 42, 4, 5, 6] f).getD 39 undef = .agg #[.bool g1, .slice a1 n1 c1] := (patch_get (by omega) (by decide)).trans r1
        have hfb := fb1
        obtain ⟨w1, w2, w3, w4⟩ := hfb
        go_simp
        refine hK _ _ ⟨f, rfl, hA.put hq1 g1 a1 n1 c1, .inr (.inr (.inl ⟨hall2, ⟨_, _, _, _, _, _, _, _, _, _, _, _, z0, r0, put_sl fb1 sl0, put_ob fb1 hn01 ob0, hq0, z1, r1, put_sl fb1 sl1, put_new fb1 sl1, hq1, z2, r2, put_sl fb1 sl2, put_fb (Ne.symm hn12) fb2, hq2, hn01, hn02, hn12⟩, ?_⟩))⟩
        rw [getD_set_ne (by omega)]
        cases hx : L.getD 14 false with
        | false => rfl
        | true =>
          have h9 := hc 14 13 p14_13 (by rw [getD_lt (c := false) (by omega)]; exact hx) (by omega)
          rw [getD_lt (c := true) (by omega), hl] at h9; cases h9
      · exact (no hall (by omega)).elim
      · exact (no hall (by omega)).elim
    | 14, _ =>
      have e := o14
      unfold opIs at e
      rw [ho] at e
      simp only [Option.map_some, Option.some.injEq, Prod.mk.injEq] at e
      obtain ⟨rfl, rfl, rfl⟩ := e
      have hdp := hd 13 p14_13
      rcases hI with ⟨hs, hF, hD⟩ | ⟨_, _, hno⟩ | ⟨hall, hP, hno⟩ | ⟨hall, _⟩
      · have h9 := hc 13 12 p13_12 (by rw [getD_lt (c := false) (by omega)]; exact hdp) (by omega)
        rw [hs] at h9; cases h9
      · rw [hno] at hdp; cases hdp
      · obtain ⟨q0, a0, n0, c0, q1, a1, n1, c1, q2, a2, n2, c2, z0, r0, sl0, ob0, hq0, z1, r1, sl1, ob1, hq1, z2, r2, sl2, fb2, hq2, hn01, hn02, hn12⟩ := hP
        have hall2 : ∀ j, j < 15 → (L.setIfInBounds 14 true).getD j false = true := fun j hj => by
          by_cases h : j = 14
          · subst h; exact getD_set_self (by omega)
          · exact getD_set_of (hall j (by omega))
        refine wpOp_step ho (fun K hK => ?_)
        rw [if_pos (wanted_none rfl)]
        have x0 : (patch t [34, 35, 36, 37, 38, 39, 40, 41, 42, 4, 5, 6] f).getD 6 undef = .pointer (some ⟨q2, 0, none⟩) := (patch_get (by omega) (by decide)).trans z2
        have x1 : (patch t [34, 35, 36, 37, 38, 39, 40, 41, 42, 4, 5, 6] f).getD 42 undef = .agg #[.bool g2, .slice a2 n2 c2] := (patch_get (by omega) (by decide)).trans r2
        have hfb := fb2
        obtain ⟨w1, w2, w3, w4⟩ := hfb
        go_simp
        refine hK _ _ ⟨f, rfl, hA.put hq2 g2 a2 n2 c2, .inr (.inr (.inr (⟨hall2, ⟨_, _, _, _, _, _, _, _, _, _, _, _, z0, r0, put_sl fb2 sl0, put_ob fb2 hn02 ob0, hq0, z1, r1, put_sl fb2 sl1, put_ob fb2 hn12 ob1, hq1, z2, r2, put_sl fb2 sl2, put_new fb2 sl2, hq2, hn01, hn02, hn12⟩⟩)))⟩
      · exact (no hall (by omega)).elim
  · rintro L a W hL ⟨f, rfl, hA, h⟩
    rcases h with ⟨h, _⟩ | ⟨_, _, h⟩ | ⟨_, _, h⟩ | ⟨_, h⟩
    · rw [hL 12 (by omega)] at h; cases h
    · rw [hL 13 (by omega)] at h; cases h
    · rw [hL 14 (by omega)] at h; cases h
    · exact hQ f W hA h
/-- What holds of an operation of the region that has been carried out: of its value. -/
def divsFact (w0 : World) (A0 : Option Addr) (k0 d0 : Nat) (g0 : Bool) (v0 : Nat) (A1 : Option Addr) (k1 d1 : Nat) (g1 : Bool) (v1 : Nat) (A2 : Option Addr) (k2 d2 : Nat) (g2 : Bool) (v2 : Nat) (j : Nat) (u : Value) (W : World) : Prop := match j with
  | 0 => u = .pointer (some ⟨w0.heap.size, 0, none⟩)
  | 1 => u = .slice A0 k0 d0
  | 2 => HoldsN u W g0 v0
  | 3 => u = .pointer (some ⟨w0.heap.size, 1, none⟩)
  | 4 => u = .slice A1 k1 d1
  | 5 => HoldsN u W g1 v1
  | 6 => u = .pointer (some ⟨w0.heap.size, 2, none⟩)
  | 7 => u = .slice A2 k2 d2
  | 8 => HoldsN u W g2 v2
  | 9 => HoldsB u W w0.heap.size
  | 10 => HoldsB u W w0.heap.size
  | 11 => HoldsB u W w0.heap.size
  | _ => True
def divsSlot (j : Nat) : Nat := match j with
  | 0 => 30
  | 1 => 31
  | 2 => 32
  | 3 => 33
  | 4 => 34
  | 5 => 35
  | 6 => 36
  | 7 => 37
  | 8 => 38
  | 9 => 4
  | 10 => 5
  | 11 => 6
  | _ => 0
theorem divs_via {w0 W W1 : World} {A0 : Option Addr} {k0 d0 : Nat} {g0 : Bool} {v0 : Nat} {A1 : Option Addr} {k1 d1 : Nat} {g1 : Bool} {v1 : Nat} {A2 : Option Addr} {k2 d2 : Nat} {g2 : Bool} {v2 : Nat} {j : Nat} {u : Value} (h : divsFact w0 A0 k0 d0 g0 v0 A1 k1 d1 g1 v1 A2 k2 d2 g2 v2 j u W) (hb : Below W.heap.size W W1) : divsFact w0 A0 k0 d0 g0 v0 A1 k1 d1 g1 v1 A2 k2 d2 g2 v2 j u W1 := by
  unfold divsFact at h ⊢
  split <;> first | exact h | exact HoldsN.via h hb | exact HoldsB.via h hb | trivial | fail "no"
theorem divs_inj : ∀ x, x < 12 → ∀ y, y < 12 → x ≠ y → divsSlot x ≠ divsSlot y := by decide
theorem divs_upd {w0 W W1 : World} {A0 : Option Addr} {k0 d0 : Nat} {g0 : Bool} {v0 : Nat} {A1 : Option Addr} {k1 d1 : Nat} {g1 : Bool} {v1 : Nat} {A2 : Option Addr} {k2 d2 : Nat} {g2 : Bool} {v2 : Nat} {f : Nat → Value} {L : Array Bool} {i : Nat} {v : Value} (hi : i < 12) (hl : L.getD i true = false) (hF : ∀ j, j < 12 → L.getD j false = true → divsFact w0 A0 k0 d0 g0 v0 A1 k1 d1 g1 v1 A2 k2 d2 g2 v2 j (f (divsSlot j)) W) (hb : Below W.heap.size W W1) (hv : divsFact w0 A0 k0 d0 g0 v0 A1 k1 d1 g1 v1 A2 k2 d2 g2 v2 i v W1) :
    ∀ j, j < 12 → (L.setIfInBounds i true).getD j false = true → divsFact w0 A0 k0 d0 g0 v0 A1 k1 d1 g1 v1 A2 k2 d2 g2 v2 j (upd f (divsSlot i) v (divsSlot j)) W1 := by
  intro j hj h
  by_cases hji : j = i
  · subst hji; rw [upd_same]; exact hv
  · rw [upd_other (divs_inj j hj i hi hji)]
    rcases getD_set h with h | h
    · exact absurd h hji
    · exact divs_via (hF j hj h) hb
theorem divs_dist {f : Nat → Value} {L : Array Bool} {i : Nat} {v : Value} (hi : i < 12) (hn : i < 9 ∨ ∀ x, 9 ≤ x → x < 12 → x ≠ i → L.getD x false = true → f (divsSlot x) ≠ v) (hD : ∀ x y, 9 ≤ x → x < y → y < 12 → L.getD x false = true → L.getD y false = true → f (divsSlot x) ≠ f (divsSlot y)) :
    ∀ x y, 9 ≤ x → x < y → y < 12 → (L.setIfInBounds i true).getD x false = true → (L.setIfInBounds i true).getD y false = true → upd f (divsSlot i) v (divsSlot x) ≠ upd f (divsSlot i) v (divsSlot y) := by
  intro x y h1 h2 h3 hx hy
  by_cases hxi : x = i
  · subst hxi
    rw [upd_same, upd_other (divs_inj y h3 x hi (by omega))]
    rcases getD_set hy with h | h
    · omega
    · rcases hn with hn | hn
      · omega
      · exact Ne.symm (hn y (by omega) h3 (by omega) h)
  · rw [upd_other (divs_inj x (by omega) i hi hxi)]
    rcases getD_set hx with h | hx2
    · exact absurd h hxi
    · by_cases hyi : y = i
      · subst hyi
        rw [upd_same]
        rcases hn with hn | hn
        · omega
        · exact hn x h1 (by omega) hxi hx2
      · rw [upd_other (divs_inj y h3 i hi hyi)]
        rcases getD_set hy with h | hy2
        · exact absurd h hyi
        · exact hD x y h1 h2 h3 hx2 hy2
def divsPh0 (w0 : World) (g0 : Bool) (v0 : Nat) (g1 : Bool) (v1 : Nat) (g2 : Bool) (v2 : Nat) (f : Nat → Value) (W : World) : Prop := ∃ q0 a0 n0 c0 q1 a1 n1 c1 q2 a2 n2 c2, f 4 = .pointer (some ⟨q0, 0, none⟩) ∧ f 32 = .agg #[.bool g0, .slice a0 n0 c0] ∧ Sl W W.heap.size a0 n0 c0 (digs v0) ∧ FB W q0 ∧ w0.heap.size + 1 ≤ q0 ∧ f 5 = .pointer (some ⟨q1, 0, none⟩) ∧ f 35 = .agg #[.bool g1, .slice a1 n1 c1] ∧ Sl W W.heap.size a1 n1 c1 (digs v1) ∧ FB W q1 ∧ w0.heap.size + 1 ≤ q1 ∧ f 6 = .pointer (some ⟨q2, 0, none⟩) ∧ f 38 = .agg #[.bool g2, .slice a2 n2 c2] ∧ Sl W W.heap.size a2 n2 c2 (digs v2) ∧ FB W q2 ∧ w0.heap.size + 1 ≤ q2 ∧ q0 ≠ q1 ∧ q0 ≠ q2 ∧ q1 ≠ q2
def divsPh1 (w0 : World) (g0 : Bool) (v0 : Nat) (g1 : Bool) (v1 : Nat) (g2 : Bool) (v2 : Nat) (f : Nat → Value) (W : World) : Prop := ∃ q0 a0 n0 c0 q1 a1 n1 c1 q2 a2 n2 c2, f 4 = .pointer (some ⟨q0, 0, none⟩) ∧ f 32 = .agg #[.bool g0, .slice a0 n0 c0] ∧ Sl W W.heap.size a0 n0 c0 (digs v0) ∧ OB W q0 g0 a0 n0 c0 v0 ∧ w0.heap.size + 1 ≤ q0 ∧ f 5 = .pointer (some ⟨q1, 0, none⟩) ∧ f 35 = .agg #[.bool g1, .slice a1 n1 c1] ∧ Sl W W.heap.size a1 n1 c1 (digs v1) ∧ FB W q1 ∧ w0.heap.size + 1 ≤ q1 ∧ f 6 = .pointer (some ⟨q2, 0, none⟩) ∧ f 38 = .agg #[.bool g2, .slice a2 n2 c2] ∧ Sl W W.heap.size a2 n2 c2 (digs v2) ∧ FB W q2 ∧ w0.heap.size + 1 ≤ q2 ∧ q0 ≠ q1 ∧ q0 ≠ q2 ∧ q1 ≠ q2
def divsPh2 (w0 : World) (g0 : Bool) (v0 : Nat) (g1 : Bool) (v1 : Nat) (g2 : Bool) (v2 : Nat) (f : Nat → Value) (W : World) : Prop := ∃ q0 a0 n0 c0 q1 a1 n1 c1 q2 a2 n2 c2, f 4 = .pointer (some ⟨q0, 0, none⟩) ∧ f 32 = .agg #[.bool g0, .slice a0 n0 c0] ∧ Sl W W.heap.size a0 n0 c0 (digs v0) ∧ OB W q0 g0 a0 n0 c0 v0 ∧ w0.heap.size + 1 ≤ q0 ∧ f 5 = .pointer (some ⟨q1, 0, none⟩) ∧ f 35 = .agg #[.bool g1, .slice a1 n1 c1] ∧ Sl W W.heap.size a1 n1 c1 (digs v1) ∧ OB W q1 g1 a1 n1 c1 v1 ∧ w0.heap.size + 1 ≤ q1 ∧ f 6 = .pointer (some ⟨q2, 0, none⟩) ∧ f 38 = .agg #[.bool g2, .slice a2 n2 c2] ∧ Sl W W.heap.size a2 n2 c2 (digs v2) ∧ FB W q2 ∧ w0.heap.size + 1 ≤ q2 ∧ q0 ≠ q1 ∧ q0 ≠ q2 ∧ q1 ≠ q2
def divsPh3 (w0 : World) (g0 : Bool) (v0 : Nat) (g1 : Bool) (v1 : Nat) (g2 : Bool) (v2 : Nat) (f : Nat → Value) (W : World) : Prop := ∃ q0 a0 n0 c0 q1 a1 n1 c1 q2 a2 n2 c2, f 4 = .pointer (some ⟨q0, 0, none⟩) ∧ f 32 = .agg #[.bool g0, .slice a0 n0 c0] ∧ Sl W W.heap.size a0 n0 c0 (digs v0) ∧ OB W q0 g0 a0 n0 c0 v0 ∧ w0.heap.size + 1 ≤ q0 ∧ f 5 = .pointer (some ⟨q1, 0, none⟩) ∧ f 35 = .agg #[.bool g1, .slice a1 n1 c1] ∧ Sl W W.heap.size a1 n1 c1 (digs v1) ∧ OB W q1 g1 a1 n1 c1 v1 ∧ w0.heap.size + 1 ≤ q1 ∧ f 6 = .pointer (some ⟨q2, 0, none⟩) ∧ f 38 = .agg #[.bool g2, .slice a2 n2 c2] ∧ Sl W W.heap.size a2 n2 c2 (digs v2) ∧ OB W q2 g2 a2 n2 c2 v2 ∧ w0.heap.size + 1 ≤ q2 ∧ q0 ≠ q1 ∧ q0 ≠ q2 ∧ q1 ≠ q2
def divsInv (t : Array Value) (df : List Deferred) (w0 : World) (A0 : Option Addr) (k0 d0 : Nat) (g0 : Bool) (v0 : Nat) (A1 : Option Addr) (k1 d1 : Nat) (g1 : Bool) (v1 : Nat) (A2 : Option Addr) (k2 d2 : Nat) (g2 : Bool) (v2 : Nat) (L : Array Bool) (a : Act) (W : World) : Prop :=
  ∃ f, a = ⟨patch t [30, 31, 32, 33, 34, 35, 36, 37, 38, 4, 5, 6] f, df⟩ ∧ AM w0 #[.slice A0 k0 d0, .slice A1 k1 d1, .slice A2 k2 d2] 43 W ∧
    ((L.getD 12 false = false ∧ (∀ j, j < 12 → L.getD j false = true → divsFact w0 A0 k0 d0 g0 v0 A1 k1 d1 g1 v1 A2 k2 d2 g2 v2 j (f (divsSlot j)) W) ∧ (∀ x y, 9 ≤ x → x < y → y < 12 → L.getD x false = true → L.getD y false = true → f (divsSlot x) ≠ f (divsSlot y))) ∨ ((∀ j, j < 13 → L.getD j false = true) ∧ divsPh1 w0 g0 v0 g1 v1 g2 v2 f W ∧ L.getD 13 false = false) ∨ ((∀ j, j < 14 → L.getD j false = true) ∧ divsPh2 w0 g0 v0 g1 v1 g2 v2 f W ∧ L.getD 14 false = false) ∨ ((∀ j, j < 15 → L.getD j false = true) ∧ divsPh3 w0 g0 v0 g1 v1 g2 v2 f W))
set_option maxRecDepth 100000 in
set_option maxHeartbeats 4000000 in
theorem divs_region {ops : Array Oper} {Q : Exit → Act → World → Prop} {id : Nat} (t : Array Value) (df : List Deferred) (w0 W : World) (A0 : Option Addr) (k0 d0 : Nat) (g0 : Bool) (v0 : Nat) (A1 : Option Addr) (k1 d1 : Nat) (g1 : Bool) (v1 : Nat) (A2 : Option Addr) (k2 d2 : Nat) (g2 : Bool) (v2 : Nat)
    (hsz : ops.size = 15) (hback : backB ops = true) (hts : 38 < t.size) (hpa : t.getD 1 undef = .pointer (some ⟨w0.heap.size, 0, none⟩)) (hAM : AM w0 #[.slice A0 k0 d0, .slice A1 k1 d1, .slice A2 k2 d2] 43 W)
    (M0 : ∀ (W : World), Below w0.heap.size w0 W → Calls Tryd.prog 9 #[.slice A0 k0 d0] W (NR g0 v0 W))
    (M1 : ∀ (W : World), Below w0.heap.size w0 W → Calls Tryd.prog 9 #[.slice A1 k1 d1] W (NR g1 v1 W))
    (M2 : ∀ (W : World), Below w0.heap.size w0 W → Calls Tryd.prog 9 #[.slice A2 k2 d2] W (NR g2 v2 W))
    (o0 : opIs ops 0 (some 30) (.indexAddr 43 (.tmp 1) (.const (.int .i64 0))))
    (o1 : opIs ops 1 (some 31) (.load 22 (.tmp 30)))
    (o2 : opIs ops 2 (some 32) (.call { callee := .value (.func 9), args := #[.tmp 31], argTypes := #[22] }))
    (o3 : opIs ops 3 (some 33) (.indexAddr 43 (.tmp 1) (.const (.int .i64 1))))
    (o4 : opIs ops 4 (some 34) (.load 22 (.tmp 33)))
    (o5 : opIs ops 5 (some 35) (.call { callee := .value (.func 9), args := #[.tmp 34], argTypes := #[22] }))
    (o6 : opIs ops 6 (some 36) (.indexAddr 43 (.tmp 1) (.const (.int .i64 2))))
    (o7 : opIs ops 7 (some 37) (.load 22 (.tmp 36)))
    (o8 : opIs ops 8 (some 38) (.call { callee := .value (.func 9), args := #[.tmp 37], argTypes := #[22] }))
    (o9 : opIs ops 9 (some 4) (.alloc 25))
    (o10 : opIs ops 10 (some 5) (.alloc 25))
    (o11 : opIs ops 11 (some 6) (.alloc 25))
    (o12 : opIs ops 12 none (.store 25 (.tmp 4) (.tmp 32)))
    (o13 : opIs ops 13 none (.store 25 (.tmp 5) (.tmp 35)))
    (o14 : opIs ops 14 none (.store 25 (.tmp 6) (.tmp 38)))
    (p1_0 : depB ops 1 0 = true)
    (p2_1 : depB ops 2 1 = true)
    (p4_3 : depB ops 4 3 = true)
    (p5_4 : depB ops 5 4 = true)
    (p5_2 : depB ops 5 2 = true)
    (p7_6 : depB ops 7 6 = true)
    (p8_7 : depB ops 8 7 = true)
    (p8_5 : depB ops 8 5 = true)
    (p12_8 : depB ops 12 8 = true)
    (p12_9 : depB ops 12 9 = true)
    (p12_10 : depB ops 12 10 = true)
    (p12_11 : depB ops 12 11 = true)
    (p13_12 : depB ops 13 12 = true)
    (p14_13 : depB ops 14 13 = true)
    (hQ : ∀ f W, AM w0 #[.slice A0 k0 d0, .slice A1 k1 d1, .slice A2 k2 d2] 43 W → divsPh3 w0 g0 v0 g1 v1 g2 v2 f W → Q .normal ⟨patch t [30, 31, 32, 33, 34, 35, 36, 37, 38, 4, 5, 6] f, df⟩ W) : (Code.region id ops true).wp Tryd.prog Q ⟨t, df⟩ W := by
  refine wp_region_inv (by kernel_rfl) hback (divsInv t df w0 A0 k0 d0 g0 v0 A1 k1 d1 g1 v1 A2 k2 d2 g2 v2) ?_ ?_ ?_
  · refine ⟨_, congrArg (fun x => (⟨x, df⟩ : Act)) (patch_start t [30, 31, 32, 33, 34, 35, 36, 37, 38, 4, 5, 6]).symm, hAM.drew, .inl ⟨by simp [Array.getD, hsz], fun j _ h => ?_, fun x y _ _ _ h => ?_⟩⟩
    · simp [Array.getD] at h
    · simp [Array.getD] at h
  · rintro L a W i o ho hz hc hl hd ⟨f, rfl, hA, hI⟩
    have hi : i < 15 := by have := (Array.getElem?_eq_some_iff.1 ho).1; omega
    have no : ∀ {n : Nat}, (∀ j, j < n → L.getD j false = true) → i < n → False := fun h h2 => by
      have h3 := h i h2
      rw [getD_lt (c := true) (by omega), hl] at h3; cases h3
    obtain ⟨dst, op, ty, pos, after, guard⟩ := o
    match i, hi with
    | 0, _ =>
      have e := o0
      unfold opIs at e
      rw [ho] at e
      simp only [Option.map_some, Option.some.injEq, Prod.mk.injEq] at e
      obtain ⟨rfl, rfl, rfl⟩ := e
      rcases hI with ⟨hs, hF, hD⟩ | ⟨hall, _⟩ | ⟨hall, _⟩ | ⟨hall, _⟩
      · refine wpOp_step ho (fun K hK => ?_)
        rw [if_pos (wanted_none rfl)]
        have x0 : (patch t [30, 31, 32, 33, 34, 35, 36, 37, 38, 4, 5, 6] f).getD 1 undef = .pointer (some ⟨w0.heap.size, 0, none⟩) := (patch_out (by decide)).trans hpa
        go_simp
        refine hK _ _ ⟨upd f 30 (.pointer (some ⟨w0.heap.size, 0, none⟩)), by rw [patch_set (by decide)], hA, .inl ⟨?_, divs_upd (i := 0) (by omega) hl hF (Below.refl _ _) rfl, divs_dist (i := 0) (by omega) (.inl (by omega)) hD⟩⟩
        rw [getD_set_ne (by omega)]; exact hs
      · exact (no hall (by omega)).elim
      · exact (no hall (by omega)).elim
      · exact (no hall (by omega)).elim
    | 1, _ =>
      have e := o1
      unfold opIs at e
      rw [ho] at e
      simp only [Option.map_some, Option.some.injEq, Prod.mk.injEq] at e
      obtain ⟨rfl, rfl, rfl⟩ := e
      rcases hI with ⟨hs, hF, hD⟩ | ⟨hall, _⟩ | ⟨hall, _⟩ | ⟨hall, _⟩
      · refine wpOp_step ho (fun K hK => ?_)
        rw [if_pos (wanted_none rfl)]
        have x0 : (patch t [30, 31, 32, 33, 34, 35, 36, 37, 38, 4, 5, 6] f).getD 30 undef = .pointer (some ⟨w0.heap.size, 0, none⟩) := (patch_get (by omega) (by decide)).trans (hF 0 (by omega) (hd 0 p1_0))
        have x1 : W.cell? ⟨w0.heap.size, 0, none⟩ = some (.slice A0 k0 d0) := hA.cell 0
        go_simp
        refine hK _ _ ⟨upd f 31 (.slice A0 k0 d0), by rw [patch_set (by decide)], hA, .inl ⟨?_, divs_upd (i := 1) (by omega) hl hF (Below.refl _ _) rfl, divs_dist (i := 1) (by omega) (.inl (by omega)) hD⟩⟩
        rw [getD_set_ne (by omega)]; exact hs
      · exact (no hall (by omega)).elim
      · exact (no hall (by omega)).elim
      · exact (no hall (by omega)).elim
    | 2, _ =>
      have e := o2
      unfold opIs at e
      rw [ho] at e
      simp only [Option.map_some, Option.some.injEq, Prod.mk.injEq] at e
      obtain ⟨rfl, rfl, rfl⟩ := e
      rcases hI with ⟨hs, hF, hD⟩ | ⟨hall, _⟩ | ⟨hall, _⟩ | ⟨hall, _⟩
      · refine wpOp_step ho (fun K hK => ?_)
        rw [if_pos (wanted_none rfl)]
        have x0 : (patch t [30, 31, 32, 33, 34, 35, 36, 37, 38, 4, 5, 6] f).getD 31 undef = .slice A0 k0 d0 := (patch_get (by omega) (by decide)).trans (hF 1 (by omega) (hd 1 p2_1))
        go_simp
        refine (M0 W hA.below).mono ?_
        rintro e w1 ⟨A, n, c, rfl, hsl, hb⟩
        refine hK _ _ ⟨upd f 32 (.agg #[.bool g0, .slice A n c]), by rw [patch_set (by decide)], hA.via hb, .inl ⟨?_, divs_upd (i := 2) (by omega) hl hF hb ⟨A, n, c, rfl, hsl⟩, divs_dist (i := 2) (by omega) (.inl (by omega)) hD⟩⟩
        rw [getD_set_ne (by omega)]; exact hs
      · exact (no hall (by omega)).elim
      · exact (no hall (by omega)).elim
      · exact (no hall (by omega)).elim
    | 3, _ =>
      have e := o3
      unfold opIs at e
      rw [ho] at e
      simp only [Option.map_some, Option.some.injEq, Prod.mk.injEq] at e
      obtain ⟨rfl, rfl, rfl⟩ := e
      rcases hI with ⟨hs, hF, hD⟩ | ⟨hall, _⟩ | ⟨hall, _⟩ | ⟨hall, _⟩
      · refine wpOp_step ho (fun K hK => ?_)
        rw [if_pos (wanted_none rfl)]
        have x0 : (patch t [30, 31, 32, 33, 34, 35, 36, 37, 38, 4, 5, 6] f).getD 1 undef = .pointer (some ⟨w0.heap.size, 0, none⟩) := (patch_out (by decide)).trans hpa
        go_simp
        refine hK _ _ ⟨upd f 33 (.pointer (some ⟨w0.heap.size, 1, none⟩)), by rw [patch_set (by decide)], hA, .inl ⟨?_, divs_upd (i := 3) (by omega) hl hF (Below.refl _ _) rfl, divs_dist (i := 3) (by omega) (.inl (by omega)) hD⟩⟩
        rw [getD_set_ne (by omega)]; exact hs
      · exact (no hall (by omega)).elim
      · exact (no hall (by omega)).elim
      · exact (no hall (by omega)).elim
    | 4, _ =>
      have e := o4
      unfold opIs at e
      rw [ho] at e
      simp only [Option.map_some, Option.some.injEq, Prod.mk.injEq] at e
      obtain ⟨rfl, rfl, rfl⟩ := e
      rcases hI with ⟨hs, hF, hD⟩ | ⟨hall, _⟩ | ⟨hall, _⟩ | ⟨hall, _⟩
      · refine wpOp_step ho (fun K hK => ?_)
        rw [if_pos (wanted_none rfl)]
        have x0 : (patch t [30, 31, 32, 33, 34, 35, 36, 37, 38, 4, 5, 6] f).getD 33 undef = .pointer (some ⟨w0.heap.size, 1, none⟩) := (patch_get (by omega) (by decide)).trans (hF 3 (by omega) (hd 3 p4_3))
        have x1 : W.cell? ⟨w0.heap.size, 1, none⟩ = some (.slice A1 k1 d1) := hA.cell 1
        go_simp
        refine hK _ _ ⟨upd f 34 (.slice A1 k1 d1), by rw [patch_set (by decide)], hA, .inl ⟨?_, divs_upd (i := 4) (by omega) hl hF (Below.refl _ _) rfl, divs_dist (i := 4) (by omega) (.inl (by omega)) hD⟩⟩
        rw [getD_set_ne (by omega)]; exact hs
      · exact (no hall (by omega)).elim
      · exact (no hall (by omega)).elim
      · exact (no hall (by omega)).elim
    | 5, _ =>
      have e := o5
      unfold opIs at e
      rw [ho] at e
      simp only [Option.map_some, Option.some.injEq, Prod.mk.injEq] at e
      obtain ⟨rfl, rfl, rfl⟩ := e
      rcases hI with ⟨hs, hF, hD⟩ | ⟨hall, _⟩ | ⟨hall, _⟩ | ⟨hall, _⟩
      · refine wpOp_step ho (fun K hK => ?_)
        rw [if_pos (wanted_none rfl)]
        have x0 : (patch t [30, 31, 32, 33, 34, 35, 36, 37, 38, 4, 5, 6] f).getD 34 undef = .slice A1 k1 d1 := (patch_get (by omega) (by decide)).trans (hF 4 (by omega) (hd 4 p5_4))
        go_simp
        refine (M1 W hA.below).mono ?_
        rintro e w1 ⟨A, n, c, rfl, hsl, hb⟩
        refine hK _ _ ⟨upd f 35 (.agg #[.bool g1, .slice A n c]), by rw [patch_set (by decide)], hA.via hb, .inl ⟨?_, divs_upd (i := 5) (by omega) hl hF hb ⟨A, n, c, rfl, hsl⟩, divs_dist (i := 5) (by omega) (.inl (by omega)) hD⟩⟩
        rw [getD_set_ne (by omega)]; exact hs
      · exact (no hall (by omega)).elim
      · exact (no hall (by omega)).elim
      · exact (no hall (by omega)).elim
    | 6, _ =>
      have e := o6
      unfold opIs at e
      rw [ho] at e
      simp only [Option.map_some, Option.some.injEq, Prod.mk.injEq] at e
      obtain ⟨rfl, rfl, rfl⟩ := e
      rcases hI with ⟨hs, hF, hD⟩ | ⟨hall, _⟩ | ⟨hall, _⟩ | ⟨hall, _⟩
      · refine wpOp_step ho (fun K hK => ?_)
        rw [if_pos (wanted_none rfl)]
        have x0 : (patch t [30, 31, 32, 33, 34, 35, 36, 37, 38, 4, 5, 6] f).getD 1 undef = .pointer (some ⟨w0.heap.size, 0, none⟩) := (patch_out (by decide)).trans hpa
        go_simp
        refine hK _ _ ⟨upd f 36 (.pointer (some ⟨w0.heap.size, 2, none⟩)), by rw [patch_set (by decide)], hA, .inl ⟨?_, divs_upd (i := 6) (by omega) hl hF (Below.refl _ _) rfl, divs_dist (i := 6) (by omega) (.inl (by omega)) hD⟩⟩
        rw [getD_set_ne (by omega)]; exact hs
      · exact (no hall (by omega)).elim
      · exact (no hall (by omega)).elim
      · exact (no hall (by omega)).elim
    | 7, _ =>
      have e := o7
      unfold opIs at e
      rw [ho] at e
      simp only [Option.map_some, Option.some.injEq, Prod.mk.injEq] at e
      obtain ⟨rfl, rfl, rfl⟩ := e
      rcases hI with ⟨hs, hF, hD⟩ | ⟨hall, _⟩ | ⟨hall, _⟩ | ⟨hall, _⟩
      · refine wpOp_step ho (fun K hK => ?_)
        rw [if_pos (wanted_none rfl)]
        have x0 : (patch t [30, 31, 32, 33, 34, 35, 36, 37, 38, 4, 5, 6] f).getD 36 undef = .pointer (some ⟨w0.heap.size, 2, none⟩) := (patch_get (by omega) (by decide)).trans (hF 6 (by omega) (hd 6 p7_6))
        have x1 : W.cell? ⟨w0.heap.size, 2, none⟩ = some (.slice A2 k2 d2) := hA.cell 2
        go_simp
        refine hK _ _ ⟨upd f 37 (.slice A2 k2 d2), by rw [patch_set (by decide)], hA, .inl ⟨?_, divs_upd (i := 7) (by omega) hl hF (Below.refl _ _) rfl, divs_dist (i := 7) (by omega) (.inl (by omega)) hD⟩⟩
        rw [getD_set_ne (by omega)]; exact hs
      · exact (no hall (by omega)).elim
      · exact (no hall (by omega)).elim
      · exact (no hall (by omega)).elim
    | 8, _ =>
      have e := o8
      unfold opIs at e
      rw [ho] at e
      simp only [Option.map_some, Option.some.injEq, Prod.mk.injEq] at e
      obtain ⟨rfl, rfl, rfl⟩ := e
      rcases hI with ⟨hs, hF, hD⟩ | ⟨hall, _⟩ | ⟨hall, _⟩ | ⟨hall, _⟩
      · refine wpOp_step ho (fun K hK => ?_)
        rw [if_pos (wanted_none rfl)]
        have x0 : (patch t [30, 31, 32, 33, 34, 35, 36, 37, 38, 4, 5, 6] f).getD 37 undef = .slice A2 k2 d2 := (patch_get (by omega) (by decide)).trans (hF 7 (by omega) (hd 7 p8_7))
        go_simp
        refine (M2 W hA.below).mono ?_
        rintro e w1 ⟨A, n, c, rfl, hsl, hb⟩
        refine hK _ _ ⟨upd f 38 (.agg #[.bool g2, .slice A n c]), by rw [patch_set (by decide)], hA.via hb, .inl ⟨?_, divs_upd (i := 8) (by omega) hl hF hb ⟨A, n, c, rfl, hsl⟩, divs_dist (i := 8) (by omega) (.inl (by omega)) hD⟩⟩
        rw [getD_set_ne (by omega)]; exact hs
      · exact (no hall (by omega)).elim
      · exact (no hall (by omega)).elim
      · exact (no hall (by omega)).elim
    | 9, _ =>
      have e := o9
      unfold opIs at e
      rw [ho] at e
      simp only [Option.map_some, Option.some.injEq, Prod.mk.injEq] at e
      obtain ⟨rfl, rfl, rfl⟩ := e
      rcases hI with ⟨hs, hF, hD⟩ | ⟨hall, _⟩ | ⟨hall, _⟩ | ⟨hall, _⟩
      · refine wpOp_step ho (fun K hK => ?_)
        rw [if_pos (wanted_none rfl)]
        go_simp
        have hb : Below W.heap.size W (W.alloc (.cells #[.bool false, .slice none 0 0] 25)) := (Below.refl _ _).alloc (Nat.le_refl _) _
        refine hK _ _ ⟨upd f 4 (.pointer (some ⟨W.heap.size, 0, none⟩)), by rw [patch_set (by decide)], hA.via hb, .inl ⟨?_, divs_upd (i := 9) (by omega) hl hF hb ⟨_, rfl, FB.new _ _, hA.size⟩, divs_dist (i := 9) (by omega) (.inr fun x h1 h2 _ h3 e => ?_) hD⟩⟩
        · rw [getD_set_ne (by omega)]; exact hs
        · have h4 : HoldsB (f (divsSlot x)) W w0.heap.size := by
            have := hF x h2 h3
            match x, h1, h2 with
            | 9, _, _ => exact this
            | 10, _, _ => exact this
            | 11, _, _ => exact this
          obtain ⟨q, e2, h5, _⟩ := h4
          rw [e] at e2
          cases e2
          exact absurd h5.2.2.2 (by omega)
      · exact (no hall (by omega)).elim
      · exact (no hall (by omega)).elim
      · exact (no hall (by omega)).elim
    | 10, _ =>
      have e := o10
      unfold opIs at e
      rw [ho] at e
      simp only [Option.map_some, Option.some.injEq, Prod.mk.injEq] at e
      obtain ⟨rfl, rfl, rfl⟩ := e
      rcases hI with ⟨hs, hF, hD⟩ | ⟨hall, _⟩ | ⟨hall, _⟩ | ⟨hall, _⟩
      · refine wpOp_step ho (fun K hK => ?_)
        rw [if_pos (wanted_none rfl)]
        go_simp
        have hb : Below W.heap.size W (W.alloc (.cells #[.bool false, .slice none 0 0] 25)) := (Below.refl _ _).alloc (Nat.le_refl _) _
        refine hK _ _ ⟨upd f 5 (.pointer (some ⟨W.heap.size, 0, none⟩)), by rw [patch_set (by decide)], hA.via hb, .inl ⟨?_, divs_upd (i := 10) (by omega) hl hF hb ⟨_, rfl, FB.new _ _, hA.size⟩, divs_dist (i := 10) (by omega) (.inr fun x h1 h2 _ h3 e => ?_) hD⟩⟩
        · rw [getD_set_ne (by omega)]; exact hs
        · have h4 : HoldsB (f (divsSlot x)) W w0.heap.size := by
            have := hF x h2 h3
            match x, h1, h2 with
            | 9, _, _ => exact this
            | 10, _, _ => exact this
            | 11, _, _ => exact this
          obtain ⟨q, e2, h5, _⟩ := h4
          rw [e] at e2
          cases e2
          exact absurd h5.2.2.2 (by omega)
      · exact (no hall (by omega)).elim
      · exact (no hall (by omega)).elim
      · exact (no hall (by omega)).elim
    | 11, _ =>
      have e := o11
      unfold opIs at e
      rw [ho] at e
      simp only [Option.map_some, Option.some.injEq, Prod.mk.injEq] at e
      obtain ⟨rfl, rfl, rfl⟩ := e
      rcases hI with ⟨hs, hF, hD⟩ | ⟨hall, _⟩ | ⟨hall, _⟩ | ⟨hall, _⟩
      · refine wpOp_step ho (fun K hK => ?_)
        rw [if_pos (wanted_none rfl)]
        go_simp
        have hb : Below W.heap.size W (W.alloc (.cells #[.bool false, .slice none 0 0] 25)) := (Below.refl _ _).alloc (Nat.le_refl _) _
        refine hK _ _ ⟨upd f 6 (.pointer (some ⟨W.heap.size, 0, none⟩)), by rw [patch_set (by decide)], hA.via hb, .inl ⟨?_, divs_upd (i := 11) (by omega) hl hF hb ⟨_, rfl, FB.new _ _, hA.size⟩, divs_dist (i := 11) (by omega) (.inr fun x h1 h2 _ h3 e => ?_) hD⟩⟩
        · rw [getD_set_ne (by omega)]; exact hs
        · have h4 : HoldsB (f (divsSlot x)) W w0.heap.size := by
            have := hF x h2 h3
            match x, h1, h2 with
            | 9, _, _ => exact this
            | 10, _, _ => exact this
            | 11, _, _ => exact this
          obtain ⟨q, e2, h5, _⟩ := h4
          rw [e] at e2
          cases e2
          exact absurd h5.2.2.2 (by omega)
      · exact (no hall (by omega)).elim
      · exact (no hall (by omega)).elim
      · exact (no hall (by omega)).elim
    | 12, _ =>
      have e := o12
      unfold opIs at e
      rw [ho] at e
      simp only [Option.map_some, Option.some.injEq, Prod.mk.injEq] at e
      obtain ⟨rfl, rfl, rfl⟩ := e
      rcases hI with ⟨hs, hF, hD⟩ | ⟨hall, _⟩ | ⟨hall, _⟩ | ⟨hall, _⟩
      · have hall : ∀ j, j < 12 → L.getD j false = true := by
          have y8 := hd 8 p12_8
          have y9 := hd 9 p12_9
          have y10 := hd 10 p12_10
          have y11 := hd 11 p12_11
          have y7 := hc 8 7 p8_7 (by rw [getD_lt (c := false) (by omega)]; exact y8) (by omega)
          have y6 := hc 7 6 p7_6 (by rw [getD_lt (c := false) (by omega)]; exact y7) (by omega)
          have y5 := hc 8 5 p8_5 (by rw [getD_lt (c := false) (by omega)]; exact y8) (by omega)
          have y4 := hc 5 4 p5_4 (by rw [getD_lt (c := false) (by omega)]; exact y5) (by omega)
          have y3 := hc 4 3 p4_3 (by rw [getD_lt (c := false) (by omega)]; exact y4) (by omega)
          have y2 := hc 5 2 p5_2 (by rw [getD_lt (c := false) (by omega)]; exact y5) (by omega)
          have y1 := hc 2 1 p2_1 (by rw [getD_lt (c := false) (by omega)]; exact y2) (by omega)
          have y0 := hc 1 0 p1_0 (by rw [getD_lt (c := false) (by omega)]; exact y1) (by omega)
          intro j hj
          match j, hj with
          | 0, _ => exact y0
          | 1, _ => exact y1
          | 2, _ => exact y2
          | 3, _ => exact y3
          | 4, _ => exact y4
          | 5, _ => exact y5
          | 6, _ => exact y6
          | 7, _ => exact y7
          | 8, _ => exact y8
          | 9, _ => exact y9
          | 10, _ => exact y10
          | 11, _ => exact y11
        obtain ⟨q0, z0, fb0, hq0⟩ : HoldsB (f 4) W w0.heap.size := hF 9 (by omega) (hall 9 (by omega))
        obtain ⟨a0, n0, c0, r0, sl0⟩ : HoldsN (f 32) W g0 v0 := hF 2 (by omega) (hall 2 (by omega))
        obtain ⟨q1, z1, fb1, hq1⟩ : HoldsB (f 5) W w0.heap.size := hF 10 (by omega) (hall 10 (by omega))
        obtain ⟨a1, n1, c1, r1, sl1⟩ : HoldsN (f 35) W g1 v1 := hF 5 (by omega) (hall 5 (by omega))
        obtain ⟨q2, z2, fb2, hq2⟩ : HoldsB (f 6) W w0.heap.size := hF 11 (by omega) (hall 11 (by omega))
        obtain ⟨a2, n2, c2, r2, sl2⟩ : HoldsN (f 38) W g2 v2 := hF 8 (by omega) (hall 8 (by omega))
        have hn01 : q0 ≠ q1 := fun e => hD 9 10 (by omega) (by omega) (by omega) (hall 9 (by omega)) (hall 10 (by omega)) (show f 4 = f 5 by rw [z0, z1, e])
        have hn02 : q0 ≠ q2 := fun e => hD 9 11 (by omega) (by omega) (by omega) (hall 9 (by omega)) (hall 11 (by omega)) (show f 4 = f 6 by rw [z0, z2, e])
        have hn12 : q1 ≠ q2 := fun e => hD 10 11 (by omega) (by omega) (by omega) (hall 10 (by omega)) (hall 11 (by omega)) (show f 5 = f 6 by rw [z1, z2, e])
        have hall2 : ∀ j, j < 13 → (L.setIfInBounds 12 true).getD j false = true := fun j hj => by
          by_cases h : j = 12
          · subst h; exact getD_set_self (by omega)
          · exact getD_set_of (hall j (by omega))
        refine wpOp_step ho (fun K hK => ?_)
        rw [if_pos (wanted_none rfl)]
        have x0 : (patch t [30, 31, 32, 33, 34, 35, 36, 37, 38, 4, 5, 6] f).getD 4 undef = .pointer (some ⟨q0, 0, none⟩) := (patch_get (by omega) (by decide)).trans z0
        have x1 : (patch t [30, 31, 32, 33, 34, 35, 36, 37, 38, 4, 5, 6] f).getD 32 undef = .agg #[.bool g0, .slice a0 n0 c0] := (patch_get (by omega) (by decide)).trans r0
        have hfb := fb0
        obtain ⟨w1, w2, w3, w4⟩ := hfb
        go_simp
        refine hK _ _ ⟨f, rfl, hA.put hq0 g0 a0 n0 c0, .inr (.inl ⟨hall2, ⟨_, _, _, _, _, _, _, _, _, _, _, _, z0, r0, put_sl fb0 sl0, put_new fb0 sl0, hq0, z1, r1, put_sl fb0 sl1, put_fb (Ne.symm hn01) fb1, hq1, z2, r2, put_sl fb0 sl2, put_fb (Ne.symm hn02) fb2, hq2, hn01, hn02, hn12⟩, ?_⟩)⟩
        rw [getD_set_ne (by omega)]
        cases hx : L.getD 13 false with
        | false => rfl
        | true =>
          have h9 := hc 13 12 p13_12 (by rw [getD_lt (c := false) (by omega)]; exact hx) (by omega)
          rw [getD_lt (c := true) (by omega), hl] at h9; cases h9
      · exact (no hall (by omega)).elim
      · exact (no hall (by omega)).elim
      · exact (no hall (by omega)).elim
    | 13, _ =>
      have e := o13
      unfold opIs at e
      rw [ho] at e
      simp only [Option.map_some, Option.some.injEq, Prod.mk.injEq] at e
      obtain ⟨rfl, rfl, rfl⟩ := e
      have hdp := hd 12 p13_12
      rcases hI with ⟨hs, hF, hD⟩ | ⟨hall, hP, hno⟩ | ⟨hall, _⟩ | ⟨hall, _⟩
      · rw [hs] at hdp; cases hdp
      · obtain ⟨q0, a0, n0, c0, q1, a1, n1, c1, q2, a2, n2, c2, z0, r0, sl0, ob0, hq0, z1, r1, sl1, fb1, hq1, z2, r2, sl2, fb2, hq2, hn01, hn02, hn12⟩ := hP
        have hall2 : ∀ j, j < 14 → (L.setIfInBounds 13 true).getD j false = true := fun j hj => by
          by_cases h : j = 13
          · subst h; exact getD_set_self (by omega)
          · exact getD_set_of (hall j (by omega))
        refine wpOp_step ho (fun K hK => ?_)
        rw [if_pos (wanted_none rfl)]
        have x0 : (patch t [30, 31, 32, 33, 34, 35, 36, 37, 38, 4, 5, 6] f).getD 5 undef = .pointer (some ⟨q1, 0, none⟩) := (patch_get (by omega) (by decide)).trans z1
        have x1 : (patch t [30, 31, 32, 33, 34, 35, 36, 37, 38, 4, 5, 6] f).getD 35 undef = .agg #[.bool g1, .slice a1 n1 c1] := (patch_get (by omega) (by decide)).trans r1
        have hfb := fb1
        obtain ⟨w1, w2, w3, w4⟩ := hfb
        go_simp
        refine hK _ _ ⟨f, rfl, hA.put hq1 g1 a1 n1 c1, .inr (.inr (.inl ⟨hall2, ⟨_, _, _, _, _, _, _, _, _, _, _, _, z0, r0, put_sl fb1 sl0, put_ob fb1 hn01 ob0, hq0, z1, r1, put_sl fb1 sl1, put_new fb1 sl1, hq1, z2, r2, put_sl fb1 sl2, put_fb (Ne.symm hn12) fb2, hq2, hn01, hn02, hn12⟩, ?_⟩))⟩
        rw [getD_set_ne (by omega)]
        cases hx : L.getD 14 false with
        | false => rfl
        | true =>
          have h9 := hc 14 13 p14_13 (by rw [getD_lt (c := false) (by omega)]; exact hx) (by omega)
          rw [getD_lt (c := true) (by omega), hl] at h9; cases h9
      · exact (no hall (by omega)).elim
      · exact (no hall (by omega)).elim
    | 14, _ =>
      have e := o14
      unfold opIs at e
      rw [ho] at e
      simp only [Option.map_some, Option.some.injEq, Prod.mk.injEq] at e
      obtain ⟨rfl, rfl, rfl⟩ := e
      have hdp := hd 13 p14_13
      rcases hI with ⟨hs, hF, hD⟩ | ⟨_, _, hno⟩ | ⟨hall, hP, hno⟩ | ⟨hall, _⟩
      · have h9 := hc 13 12 p13_12 (by rw [getD_lt (c := false) (by omega)]; exact hdp) (by omega)
        rw [hs] at h9; cases h9
      · rw [hno] at hdp; cases hdp
      · obtain ⟨q0, a0, n0, c0, q1, a1, n1, c1, q2, a2, n2, c2, z0, r0, sl0, ob0, hq0, z1, r1, sl1, ob1, hq1, z2, r2, sl2, fb2, hq2, hn01, hn02, hn12⟩ := hP
        have hall2 : ∀ j, j < 15 → (L.setIfInBounds 14 true).getD j false = true := fun j hj => by
          by_cases h : j = 14
          · subst h; exact getD_set_self (by omega)
          · exact getD_set_of (hall j (by omega))
        refine wpOp_step ho (fun K hK => ?_)
        rw [if_pos (wanted_none rfl)]
        have x0 : (patch t [30, 31, 32, 33, 34, 35, 36, 37, 38, 4, 5, 6] f).getD 6 undef = .pointer (some ⟨q2, 0, none⟩) := (patch_get (by omega) (by decide)).trans z2
        have x1 : (patch t [30, 31, 32, 33, 34, 35, 36, 37, 38, 4, 5, 6] f).getD 38 undef = .agg #[.bool g2, .slice a2 n2 c2] := (patch_get (by omega) (by decide)).trans r2
        have hfb := fb2
        obtain ⟨w1, w2, w3, w4⟩ := hfb
        go_simp
        refine hK _ _ ⟨f, rfl, hA.put hq2 g2 a2 n2 c2, .inr (.inr (.inr (⟨hall2, ⟨_, _, _, _, _, _, _, _, _, _, _, _, z0, r0, put_sl fb2 sl0, put_ob fb2 hn02 ob0, hq0, z1, r1, put_sl fb2 sl1, put_ob fb2 hn12 ob1, hq1, z2, r2, put_sl fb2 sl2, put_new fb2 sl2, hq2, hn01, hn02, hn12⟩⟩)))⟩
      · exact (no hall (by omega)).elim
  · rintro L a W hL ⟨f, rfl, hA, h⟩
    rcases h with ⟨h, _⟩ | ⟨_, _, h⟩ | ⟨_, _, h⟩ | ⟨_, h⟩
    · rw [hL 12 (by omega)] at h; cases h
    · rw [hL 13 (by omega)] at h; cases h
    · rw [hL 14 (by omega)] at h; cases h
    · exact hQ f W hA h
/-- What holds of an operation of the region that has been carried out: of its value. -/
def dgtFact (w0 : World) (A0 : Option Addr) (k0 d0 : Nat) (g0 : Bool) (v0 : Nat) (A1 : Option Addr) (k1 d1 : Nat) (g1 : Bool) (v1 : Nat) (j : Nat) (u : Value) (W : World) : Prop := match j with
  | 0 => u = .pointer (some ⟨w0.heap.size, 0, none⟩)
  | 1 => u = .slice A0 k0 d0
  | 2 => HoldsN u W g0 v0
  | 3 => u = .pointer (some ⟨w0.heap.size, 1, none⟩)
  | 4 => u = .slice A1 k1 d1
  | 5 => HoldsN u W g1 v1
  | 6 => HoldsB u W w0.heap.size
  | 7 => HoldsB u W w0.heap.size
  | _ => True
def dgtSlot (j : Nat) : Nat := match j with
  | 0 => 21
  | 1 => 22
  | 2 => 23
  | 3 => 24
  | 4 => 25
  | 5 => 26
  | 6 => 6
  | 7 => 7
  | _ => 0
theorem dgt_via {w0 W W1 : World} {A0 : Option Addr} {k0 d0 : Nat} {g0 : Bool} {v0 : Nat} {A1 : Option Addr} {k1 d1 : Nat} {g1 : Bool} {v1 : Nat} {j : Nat} {u : Value} (h : dgtFact w0 A0 k0 d0 g0 v0 A1 k1 d1 g1 v1 j u W) (hb : Below W.heap.size W W1) : dgtFact w0 A0 k0 d0 g0 v0 A1 k1 d1 g1 v1 j u W1 := by
  unfold dgtFact at h ⊢
  split <;> first | exact h | exact HoldsN.via h hb | exact HoldsB.via h hb | trivial | fail "no"
theorem dgt_inj : ∀ x, x < 8 → ∀ y, y < 8 → x ≠ y → dgtSlot x ≠ dgtSlot y := by decide
theorem dgt_upd {w0 W W1 : World} {A0 : Option Addr} {k0 d0 : Nat} {g0 : Bool} {v0 : Nat} {A1 : Option Addr} {k1 d1 : Nat} {g1 : Bool} {v1 : Nat} {f : Nat → Value} {L : Array Bool} {i : Nat} {v : Value} (hi : i < 8) (hl : L.getD i true = false) (hF : ∀ j, j < 8 → L.getD j false = true → dgtFact w0 A0 k0 d0 g0 v0 A1 k1 d1 g1 v1 j (f (dgtSlot j)) W) (hb : Below W.heap.size W W1) (hv : dgtFact w0 A0 k0 d0 g0 v0 A1 k1 d1 g1 v1 i v W1) :
    ∀ j, j < 8 → (L.setIfInBounds i true).getD j false = true → dgtFact w0 A0 k0 d0 g0 v0 A1 k1 d1 g1 v1 j (upd f (dgtSlot i) v (dgtSlot j)) W1 := by
  intro j hj h
  by_cases hji : j = i
  · subst hji; rw [upd_same]; exact hv
  · rw [upd_other (dgt_inj j hj i hi hji)]
    rcases getD_set h with h | h
    · exact absurd h hji
    · exact dgt_via (hF j hj h) hb
theorem dgt_dist {f : Nat → Value} {L : Array Bool} {i : Nat} {v : Value} (hi : i < 8) (hn : i < 6 ∨ ∀ x, 6 ≤ x → x < 8 → x ≠ i → L.getD x false = true → f (dgtSlot x) ≠ v) (hD : ∀ x y, 6 ≤ x → x < y → y < 8 → L.getD x false = true → L.getD y false = true → f (dgtSlot x) ≠ f (dgtSlot y)) :
    ∀ x y, 6 ≤ x → x < y → y < 8 → (L.setIfInBounds i true).getD x false = true → (L.setIfInBounds i true).getD y false = true → upd f (dgtSlot i) v (dgtSlot x) ≠ upd f (dgtSlot i) v (dgtSlot y) := by
  intro x y h1 h2 h3 hx hy
  by_cases hxi : x = i
  · subst hxi
    rw [upd_same, upd_other (dgt_inj y h3 x hi (by omega))]
    rcases getD_set hy with h | h
    · omega
    · rcases hn with hn | hn
      · omega
      · exact Ne.symm (hn y (by omega) h3 (by omega) h)
  · rw [upd_other (dgt_inj x (by omega) i hi hxi)]
    rcases getD_set hx with h | hx2
    · exact absurd h hxi
    · by_cases hyi : y = i
      · subst hyi
        rw [upd_same]
        rcases hn with hn | hn
        · omega
        · exact hn x h1 (by omega) hxi hx2
      · rw [upd_other (dgt_inj y h3 i hi hyi)]
        rcases getD_set hy with h | hy2
        · exact absurd h hyi
        · exact hD x y h1 h2 h3 hx2 hy2
def dgtPh0 (w0 : World) (g0 : Bool) (v0 : Nat) (g1 : Bool) (v1 : Nat) (f : Nat → Value) (W : World) : Prop := ∃ q0 a0 n0 c0 q1 a1 n1 c1, f 6 = .pointer (some ⟨q0, 0, none⟩) ∧ f 23 = .agg #[.bool g0, .slice a0 n0 c0] ∧ Sl W W.heap.size a0 n0 c0 (digs v0) ∧ FB W q0 ∧ w0.heap.size + 1 ≤ q0 ∧ f 7 = .pointer (some ⟨q1, 0, none⟩) ∧ f 26 = .agg #[.bool g1, .slice a1 n1 c1] ∧ Sl W W.heap.size a1 n1 c1 (digs v1) ∧ FB W q1 ∧ w0.heap.size + 1 ≤ q1 ∧ q0 ≠ q1
def dgtPh1 (w0 : World) (g0 : Bool) (v0 : Nat) (g1 : Bool) (v1 : Nat) (f : Nat → Value) (W : World) : Prop := ∃ q0 a0 n0 c0 q1 a1 n1 c1, f 6 = .pointer (some ⟨q0, 0, none⟩) ∧ f 23 = .agg #[.bool g0, .slice a0 n0 c0] ∧ Sl W W.heap.size a0 n0 c0 (digs v0) ∧ OB W q0 g0 a0 n0 c0 v0 ∧ w0.heap.size + 1 ≤ q0 ∧ f 7 = .pointer (some ⟨q1, 0, none⟩) ∧ f 26 = .agg #[.bool g1, .slice a1 n1 c1] ∧ Sl W W.heap.size a1 n1 c1 (digs v1) ∧ FB W q1 ∧ w0.heap.size + 1 ≤ q1 ∧ q0 ≠ q1
def dgtPh2 (w0 : World) (g0 : Bool) (v0 : Nat) (g1 : Bool) (v1 : Nat) (f : Nat → Value) (W : World) : Prop := ∃ q0 a0 n0 c0 q1 a1 n1 c1, f 6 = .pointer (some ⟨q0, 0, none⟩) ∧ f 23 = .agg #[.bool g0, .slice a0 n0 c0] ∧ Sl W W.heap.size a0 n0 c0 (digs v0) ∧ OB W q0 g0 a0 n0 c0 v0 ∧ w0.heap.size + 1 ≤ q0 ∧ f 7 = .pointer (some ⟨q1, 0, none⟩) ∧ f 26 = .agg #[.bool g1, .slice a1 n1 c1] ∧ Sl W W.heap.size a1 n1 c1 (digs v1) ∧ OB W q1 g1 a1 n1 c1 v1 ∧ w0.heap.size + 1 ≤ q1 ∧ q0 ≠ q1
def dgtInv (t : Array Value) (df : List Deferred) (w0 : World) (A0 : Option Addr) (k0 d0 : Nat) (g0 : Bool) (v0 : Nat) (A1 : Option Addr) (k1 d1 : Nat) (g1 : Bool) (v1 : Nat) (L : Array Bool) (a : Act) (W : World) : Prop :=
  ∃ f, a = ⟨patch t [21, 22, 23, 24, 25, 26, 6, 7] f, df⟩ ∧ AM w0 #[.slice A0 k0 d0, .slice A1 k1 d1] 47 W ∧
    ((L.getD 8 false = false ∧ (∀ j, j < 8 → L.getD j false = true → dgtFact w0 A0 k0 d0 g0 v0 A1 k1 d1 g1 v1 j (f (dgtSlot j)) W) ∧ (∀ x y, 6 ≤ x → x < y → y < 8 → L.getD x false = true → L.getD y false = true → f (dgtSlot x) ≠ f (dgtSlot y))) ∨ ((∀ j, j < 9 → L.getD j false = true) ∧ dgtPh1 w0 g0 v0 g1 v1 f W ∧ L.getD 9 false = false) ∨ ((∀ j, j < 10 → L.getD j false = true) ∧ dgtPh2 w0 g0 v0 g1 v1 f W))
set_option maxRecDepth 100000 in
set_option maxHeartbeats 4000000 in
theorem dgt_region {ops : Array Oper} {Q : Exit → Act → World → Prop} {id : Nat} (t : Array Value) (df : List Deferred) (w0 W : World) (A0 : Option Addr) (k0 d0 : Nat) (g0 : Bool) (v0 : Nat) (A1 : Option Addr) (k1 d1 : Nat) (g1 : Bool) (v1 : Nat)
    (hsz : ops.size = 10) (hback : backB ops = true) (hts : 26 < t.size) (hpa : t.getD 2 undef = .pointer (some ⟨w0.heap.size, 0, none⟩)) (hAM : AM w0 #[.slice A0 k0 d0, .slice A1 k1 d1] 47 W)
    (M0 : ∀ (W : World), Below w0.heap.size w0 W → Calls Tryd.prog 9 #[.slice A0 k0 d0] W (NR g0 v0 W))
    (M1 : ∀ (W : World), Below w0.heap.size w0 W → Calls Tryd.prog 9 #[.slice A1 k1 d1] W (NR g1 v1 W))
    (o0 : opIs ops 0 (some 21) (.indexAddr 47 (.tmp 2) (.const (.int .i64 0))))
    (o1 : opIs ops 1 (some 22) (.load 22 (.tmp 21)))
    (o2 : opIs ops 2 (some 23) (.call { callee := .value (.func 9), args := #[.tmp 22], argTypes := #[22] }))
    (o3 : opIs ops 3 (some 24) (.indexAddr 47 (.tmp 2) (.const (.int .i64 1))))
    (o4 : opIs ops 4 (some 25) (.load 22 (.tmp 24)))
    (o5 : opIs ops 5 (some 26) (.call { callee := .value (.func 9), args := #[.tmp 25], argTypes := #[22] }))
    (o6 : opIs ops 6 (some 6) (.alloc 25))
    (o7 : opIs ops 7 (some 7) (.alloc 25))
    (o8 : opIs ops 8 none (.store 25 (.tmp 6) (.tmp 23)))
    (o9 : opIs ops 9 none (.store 25 (.tmp 7) (.tmp 26)))
    (p1_0 : depB ops 1 0 = true)
    (p2_1 : depB ops 2 1 = true)
    (p4_3 : depB ops 4 3 = true)
    (p5_4 : depB ops 5 4 = true)
    (p5_2 : depB ops 5 2 = true)
    (p8_5 : depB ops 8 5 = true)
    (p8_6 : depB ops 8 6 = true)
    (p8_7 : depB ops 8 7 = true)
    (p9_8 : depB ops 9 8 = true)
    (hQ : ∀ f W, AM w0 #[.slice A0 k0 d0, .slice A1 k1 d1] 47 W → dgtPh2 w0 g0 v0 g1 v1 f W → Q .normal ⟨patch t [21, 22, 23, 24, 25, 26, 6, 7] f, df⟩ W) : (Code.region id ops true).wp Tryd.prog Q ⟨t, df⟩ W := by
  refine wp_region_inv (by kernel_rfl) hback (dgtInv t df w0 A0 k0 d0 g0 v0 A1 k1 d1 g1 v1) ?_ ?_ ?_
  · refine ⟨_, congrArg (fun x => (⟨x, df⟩ : Act)) (patch_start t [21, 22, 23, 24, 25, 26, 6, 7]).symm, hAM.drew, .inl ⟨by simp [Array.getD, hsz], fun j _ h => ?_, fun x y _ _ _ h => ?_⟩⟩
    · simp [Array.getD] at h
    · simp [Array.getD] at h
  · rintro L a W i o ho hz hc hl hd ⟨f, rfl, hA, hI⟩
    have hi : i < 10 := by have := (Array.getElem?_eq_some_iff.1 ho).1; omega
    have no : ∀ {n : Nat}, (∀ j, j < n → L.getD j false = true) → i < n → False := fun h h2 => by
      have h3 := h i h2
      rw [getD_lt (c := true) (by omega), hl] at h3; cases h3
    obtain ⟨dst, op, ty, pos, after, guard⟩ := o
    match i, hi with
    | 0, _ =>
      have e := o0
      unfold opIs at e
      rw [ho] at e
      simp only [Option.map_some, Option.some.injEq, Prod.mk.injEq] at e
      obtain ⟨rfl, rfl, rfl⟩ := e
      rcases hI with ⟨hs, hF, hD⟩ | ⟨hall, _⟩ | ⟨hall, _⟩
      · refine wpOp_step ho (fun K hK => ?_)
        rw [if_pos (wanted_none rfl)]
        have x0 : (patch t [21, 22, 23, 24, 25, 26, 6, 7] f).getD 2 undef = .pointer (some ⟨w0.heap.size, 0, none⟩) := (patch_out (by decide)).trans hpa
        go_simp
        refine hK _ _ ⟨upd f 21 (.pointer (some ⟨w0.heap.size, 0, none⟩)), by rw [patch_set (by decide)], hA, .inl ⟨?_, dgt_upd (i := 0) (by omega) hl hF (Below.refl _ _) rfl, dgt_dist (i := 0) (by omega) (.inl (by omega)) hD⟩⟩
        rw [getD_set_ne (by omega)]; exact hs
      · exact (no hall (by omega)).elim
      · exact (no hall (by omega)).elim
    | 1, _ =>
      have e := o1
      unfold opIs at e
      rw [ho] at e
      simp only [Option.map_some, Option.some.injEq, Prod.mk.injEq] at e
      obtain ⟨rfl, rfl, rfl⟩ := e
      rcases hI with ⟨hs, hF, hD⟩ | ⟨hall, _⟩ | ⟨hall, _⟩
      · refine wpOp_step ho (fun K hK => ?_)
        rw [if_pos (wanted_none rfl)]
        have x0 : (patch t [21, 22, 23, 24, 25, 26, 6, 7] f).getD 21 undef = .pointer (some ⟨w0.heap.size, 0, none⟩) := (patch_get (by omega) (by decide)).trans (hF 0 (by omega) (hd 0 p1_0))
        have x1 : W.cell? ⟨w0.heap.size, 0, none⟩ = some (.slice A0 k0 d0) := hA.cell 0
        go_simp
        refine hK _ _ ⟨upd f 22 (.slice A0 k0 d0), by rw [patch_set (by decide)], hA, .inl ⟨?_, dgt_upd (i := 1) (by omega) hl hF (Below.refl _ _) rfl, dgt_dist (i := 1) (by omega) (.inl (by omega)) hD⟩⟩
        rw [getD_set_ne (by omega)]; exact hs
      · exact (no hall (by omega)).elim
      · exact (no hall (by omega)).elim
    | 2, _ =>
      have e := o2
      unfold opIs at e
      rw [ho] at e
      simp only [Option.map_some, Option.some.injEq, Prod.mk.injEq] at e
      obtain ⟨rfl, rfl, rfl⟩ := e
      rcases hI with ⟨hs, hF, hD⟩ | ⟨hall, _⟩ | ⟨hall, _⟩
      · refine wpOp_step ho (fun K hK => ?_)
        rw [if_pos (wanted_none rfl)]
        have x0 : (patch t [21, 22, 23, 24, 25, 26, 6, 7] f).getD 22 undef = .slice A0 k0 d0 := (patch_get (by omega) (by decide)).trans (hF 1 (by omega) (hd 1 p2_1))
        go_simp
        refine (M0 W hA.below).mono ?_
        rintro e w1 ⟨A, n, c, rfl, hsl, hb⟩
        refine hK _ _ ⟨upd f 23 (.agg #[.bool g0, .slice A n c]), by rw [patch_set (by decide)], hA.via hb, .inl ⟨?_, dgt_upd (i := 2) (by omega) hl hF hb ⟨A, n, c, rfl, hsl⟩, dgt_dist (i := 2) (by omega) (.inl (by omega)) hD⟩⟩
        rw [getD_set_ne (by omega)]; exact hs
      · exact (no hall (by omega)).elim
      · exact (no hall (by omega)).elim
    | 3, _ =>
      have e := o3
      unfold opIs at e
      rw [ho] at e
      simp only [Option.map_some, Option.some.injEq, Prod.mk.injEq] at e
      obtain ⟨rfl, rfl, rfl⟩ := e
      rcases hI with ⟨hs, hF, hD⟩ | ⟨hall, _⟩ | ⟨hall, _⟩
      · refine wpOp_step ho (fun K hK => ?_)
        rw [if_pos (wanted_none rfl)]
        have x0 : (patch t [21, 22, 23, 24, 25, 26, 6, 7] f).getD 2 undef = .pointer (some ⟨w0.heap.size, 0, none⟩) := (patch_out (by decide)).trans hpa
        go_simp
        refine hK _ _ ⟨upd f 24 (.pointer (some ⟨w0.heap.size, 1, none⟩)), by rw [patch_set (by decide)], hA, .inl ⟨?_, dgt_upd (i := 3) (by omega) hl hF (Below.refl _ _) rfl, dgt_dist (i := 3) (by omega) (.inl (by omega)) hD⟩⟩
        rw [getD_set_ne (by omega)]; exact hs
      · exact (no hall (by omega)).elim
      · exact (no hall (by omega)).elim
    | 4, _ =>
      have e := o4
      unfold opIs at e
      rw [ho] at e
      simp only [Option.map_some, Option.some.injEq, Prod.mk.injEq] at e
      obtain ⟨rfl, rfl, rfl⟩ := e
      rcases hI with ⟨hs, hF, hD⟩ | ⟨hall, _⟩ | ⟨hall, _⟩
      · refine wpOp_step ho (fun K hK => ?_)
        rw [if_pos (wanted_none rfl)]
        have x0 : (patch t [21, 22, 23, 24, 25, 26, 6, 7] f).getD 24 undef = .pointer (some ⟨w0.heap.size, 1, none⟩) := (patch_get (by omega) (by decide)).trans (hF 3 (by omega) (hd 3 p4_3))
        have x1 : W.cell? ⟨w0.heap.size, 1, none⟩ = some (.slice A1 k1 d1) := hA.cell 1
        go_simp
        refine hK _ _ ⟨upd f 25 (.slice A1 k1 d1), by rw [patch_set (by decide)], hA, .inl ⟨?_, dgt_upd (i := 4) (by omega) hl hF (Below.refl _ _) rfl, dgt_dist (i := 4) (by omega) (.inl (by omega)) hD⟩⟩
        rw [getD_set_ne (by omega)]; exact hs
      · exact (no hall (by omega)).elim
      · exact (no hall (by omega)).elim
    | 5, _ =>
      have e := o5
      unfold opIs at e
      rw [ho] at e
      simp only [Option.map_some, Option.some.injEq, Prod.mk.injEq] at e
      obtain ⟨rfl, rfl, rfl⟩ := e
      rcases hI with ⟨hs, hF, hD⟩ | ⟨hall, _⟩ | ⟨hall, _⟩
      · refine wpOp_step ho (fun K hK => ?_)
        rw [if_pos (wanted_none rfl)]
        have x0 : (patch t [21, 22, 23, 24, 25, 26, 6, 7] f).getD 25 undef = .slice A1 k1 d1 := (patch_get (by omega) (by decide)).trans (hF 4 (by omega) (hd 4 p5_4))
        go_simp
        refine (M1 W hA.below).mono ?_
        rintro e w1 ⟨A, n, c, rfl, hsl, hb⟩
        refine hK _ _ ⟨upd f 26 (.agg #[.bool g1, .slice A n c]), by rw [patch_set (by decide)], hA.via hb, .inl ⟨?_, dgt_upd (i := 5) (by omega) hl hF hb ⟨A, n, c, rfl, hsl⟩, dgt_dist (i := 5) (by omega) (.inl (by omega)) hD⟩⟩
        rw [getD_set_ne (by omega)]; exact hs
      · exact (no hall (by omega)).elim
      · exact (no hall (by omega)).elim
    | 6, _ =>
      have e := o6
      unfold opIs at e
      rw [ho] at e
      simp only [Option.map_some, Option.some.injEq, Prod.mk.injEq] at e
      obtain ⟨rfl, rfl, rfl⟩ := e
      rcases hI with ⟨hs, hF, hD⟩ | ⟨hall, _⟩ | ⟨hall, _⟩
      · refine wpOp_step ho (fun K hK => ?_)
        rw [if_pos (wanted_none rfl)]
        go_simp
        have hb : Below W.heap.size W (W.alloc (.cells #[.bool false, .slice none 0 0] 25)) := (Below.refl _ _).alloc (Nat.le_refl _) _
        refine hK _ _ ⟨upd f 6 (.pointer (some ⟨W.heap.size, 0, none⟩)), by rw [patch_set (by decide)], hA.via hb, .inl ⟨?_, dgt_upd (i := 6) (by omega) hl hF hb ⟨_, rfl, FB.new _ _, hA.size⟩, dgt_dist (i := 6) (by omega) (.inr fun x h1 h2 _ h3 e => ?_) hD⟩⟩
        · rw [getD_set_ne (by omega)]; exact hs
        · have h4 : HoldsB (f (dgtSlot x)) W w0.heap.size := by
            have := hF x h2 h3
            match x, h1, h2 with
            | 6, _, _ => exact this
            | 7, _, _ => exact this
          obtain ⟨q, e2, h5, _⟩ := h4
          rw [e] at e2
          cases e2
          exact absurd h5.2.2.2 (by omega)
      · exact (no hall (by omega)).elim
      · exact (no hall (by omega)).elim
    | 7, _ =>
      have e := o7
      unfold opIs at e
      rw [ho] at e
      simp only [Option.map_some, Option.some.injEq, Prod.mk.injEq] at e
      obtain ⟨rfl, rfl, rfl⟩ := e
      rcases hI with ⟨hs, hF, hD⟩ | ⟨hall, _⟩ | ⟨hall, _⟩
      · refine wpOp_step ho (fun K hK => ?_)
        rw [if_pos (wanted_none rfl)]
        go_simp
        have hb : Below W.heap.size W (W.alloc (.cells #[.bool false, .slice none 0 0] 25)) := (Below.refl _ _).alloc (Nat.le_refl _) _
        refine hK _ _ ⟨upd f 7 (.pointer (some ⟨W.heap.size, 0, none⟩)), by rw [patch_set (by decide)], hA.via hb, .inl ⟨?_, dgt_upd (i := 7) (by omega) hl hF hb ⟨_, rfl, FB.new _ _, hA.size⟩, dgt_dist (i := 7) (by omega) (.inr fun x h1 h2 _ h3 e => ?_) hD⟩⟩
        · rw [getD_set_ne (by omega)]; exact hs
        · have h4 : HoldsB (f (dgtSlot x)) W w0.heap.size := by
            have := hF x h2 h3
            match x, h1, h2 with
            | 6, _, _ => exact this
            | 7, _, _ => exact this
          obtain ⟨q, e2, h5, _⟩ := h4
          rw [e] at e2
          cases e2
          exact absurd h5.2.2.2 (by omega)
      · exact (no hall (by omega)).elim
      · exact (no hall (by omega)).elim
    | 8, _ =>
      have e := o8
      unfold opIs at e
      rw [ho] at e
      simp only [Option.map_some, Option.some.injEq, Prod.mk.injEq] at e
      obtain ⟨rfl, rfl, rfl⟩ := e
      rcases hI with ⟨hs, hF, hD⟩ | ⟨hall, _⟩ | ⟨hall, _⟩
      · have hall : ∀ j, j < 8 → L.getD j false = true := by
          have y5 := hd 5 p8_5
          have y6 := hd 6 p8_6
          have y7 := hd 7 p8_7
          have y4 := hc 5 4 p5_4 (by rw [getD_lt (c := false) (by omega)]; exact y5) (by omega)
          have y3 := hc 4 3 p4_3 (by rw [getD_lt (c := false) (by omega)]; exact y4) (by omega)
          have y2 := hc 5 2 p5_2 (by rw [getD_lt (c := false) (by omega)]; exact y5) (by omega)
          have y1 := hc 2 1 p2_1 (by rw [getD_lt (c := false) (by omega)]; exact y2) (by omega)
          have y0 := hc 1 0 p1_0 (by rw [getD_lt (c := false) (by omega)]; exact y1) (by omega)
          intro j hj
          match j, hj with
          | 0, _ => exact y0
          | 1, _ => exact y1
          | 2, _ => exact y2
          | 3, _ => exact y3
          | 4, _ => exact y4
          | 5, _ => exact y5
          | 6, _ => exact y6
          | 7, _ => exact y7
        obtain ⟨q0, z0, fb0, hq0⟩ : HoldsB (f 6) W w0.heap.size := hF 6 (by omega) (hall 6 (by omega))
        obtain ⟨a0, n0, c0, r0, sl0⟩ : HoldsN (f 23) W g0 v0 := hF 2 (by omega) (hall 2 (by omega))
        obtain ⟨q1, z1, fb1, hq1⟩ : HoldsB (f 7) W w0.heap.size := hF 7 (by omega) (hall 7 (by omega))
        obtain ⟨a1, n1, c1, r1, sl1⟩ : HoldsN (f 26) W g1 v1 := hF 5 (by omega) (hall 5 (by omega))
        have hn01 : q0 ≠ q1 := fun e => hD 6 7 (by omega) (by omega) (by omega) (hall 6 (by omega)) (hall 7 (by omega)) (show f 6 = f 7 by rw [z0, z1, e])
        have hall2 : ∀ j, j < 9 → (L.setIfInBounds 8 true).getD j false = true := fun j hj => by
          by_cases h : j = 8
          · subst h; exact getD_set_self (by omega)
          · exact getD_set_of (hall j (by omega))
        refine wpOp_step ho (fun K hK => ?_)
        rw [if_pos (wanted_none rfl)]
        have x0 : (patch t [21, 22, 23, 24, 25, 26, 6, 7] f).getD 6 undef = .pointer (some ⟨q0, 0, none⟩) := (patch_get (by omega) (by decide)).trans z0
        have x1 : (patch t [21, 22, 23, 24, 25, 26, 6, 7] f).getD 23 undef = .agg #[.bool g0, .slice a0 n0 c0] := (patch_get (by omega) (by decide)).trans r0
        have hfb := fb0
        obtain ⟨w1, w2, w3, w4⟩ := hfb
        go_simp
        refine hK _ _ ⟨f, rfl, hA.put hq0 g0 a0 n0 c0, .inr (.inl ⟨hall2, ⟨_, _, _, _, _, _, _, _, z0, r0, put_sl fb0 sl0, put_new fb0 sl0, hq0, z1, r1, put_sl fb0 sl1, put_fb (Ne.symm hn01) fb1, hq1, hn01⟩, ?_⟩)⟩
        rw [getD_set_ne (by omega)]
        cases hx : L.getD 9 false with
        | false => rfl
        | true =>
          have h9 := hc 9 8 p9_8 (by rw [getD_lt (c := false) (by omega)]; exact hx) (by omega)
          rw [getD_lt (c := true) (by omega), hl] at h9; cases h9
      · exact (no hall (by omega)).elim
      · exact (no hall (by omega)).elim
    | 9, _ =>
      have e := o9
      unfold opIs at e
      rw [ho] at e
      simp only [Option.map_some, Option.some.injEq, Prod.mk.injEq] at e
      obtain ⟨rfl, rfl, rfl⟩ := e
      have hdp := hd 8 p9_8
      rcases hI with ⟨hs, hF, hD⟩ | ⟨hall, hP, hno⟩ | ⟨hall, _⟩
      · rw [hs] at hdp; cases hdp
      · obtain ⟨q0, a0, n0, c0, q1, a1, n1, c1, z0, r0, sl0, ob0, hq0, z1, r1, sl1, fb1, hq1, hn01⟩ := hP
        have hall2 : ∀ j, j < 10 → (L.setIfInBounds 9 true).getD j false = true := fun j hj => by
          by_cases h : j = 9
          · subst h; exact getD_set_self (by omega)
          · exact getD_set_of (hall j (by omega))
        refine wpOp_step ho (fun K hK => ?_)
        rw [if_pos (wanted_none rfl)]
        have x0 : (patch t [21, 22, 23, 24, 25, 26, 6, 7] f).getD 7 undef = .pointer (some ⟨q1, 0, none⟩) := (patch_get (by omega) (by decide)).trans z1
        have x1 : (patch t [21, 22, 23, 24, 25, 26, 6, 7] f).getD 26 undef = .agg #[.bool g1, .slice a1 n1 c1] := (patch_get (by omega) (by decide)).trans r1
        have hfb := fb1
        obtain ⟨w1, w2, w3, w4⟩ := hfb
        go_simp
        refine hK _ _ ⟨f, rfl, hA.put hq1 g1 a1 n1 c1, .inr (.inr (⟨hall2, ⟨_, _, _, _, _, _, _, _, z0, r0, put_sl fb1 sl0, put_ob fb1 hn01 ob0, hq0, z1, r1, put_sl fb1 sl1, put_new fb1 sl1, hq1, hn01⟩⟩))⟩
      · exact (no hall (by omega)).elim
  · rintro L a W hL ⟨f, rfl, hA, h⟩
    rcases h with ⟨h, _⟩ | ⟨_, _, h⟩ | ⟨_, h⟩
    · rw [hL 8 (by omega)] at h; cases h
    · rw [hL 9 (by omega)] at h; cases h
    · exact hQ f W hA h
end Go.Proofs.YthnickjbknpmhaaDoor
