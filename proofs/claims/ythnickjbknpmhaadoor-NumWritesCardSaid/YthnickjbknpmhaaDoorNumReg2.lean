/-
  The regions of NumDigits that draw their order and lay memory.
-/
import Derived.Test.YthnickjbknpmhaaDoorNumRegs
import Derived.Lib.SlBytesRow
namespace Go.Proofs.YthnickjbknpmhaaDoor
open Go.RowKit Go.Shelf

/-- A Num and a true are held. -/
def HoldsT (u : Value) (W : World) (g : Bool) (v : Nat) : Prop := ∃ A n c, u = .tuple #[.agg #[.bool g, .slice A n c], .bool true] ∧ Sl W W.heap.size A n c (digs v)
theorem HoldsT.via {u : Value} {W W1 : World} {g : Bool} {v : Nat} (h : HoldsT u W g v) (hb : Below W.heap.size W W1) : HoldsT u W1 g v := by
  obtain ⟨A, n, c, e, hs⟩ := h
  exact ⟨A, n, c, e, hs.via hb⟩
/-- A slice of one byte is held. -/
def HoldsY (u : Value) (W : World) (y : Int) : Prop := ∃ q, u = .slice (some ⟨q, 0, none⟩) 1 1 ∧ W.cell? ⟨q, 0, none⟩ = some (.int .u8 y) ∧ q < W.heap.size
theorem HoldsY.via {u : Value} {W W1 : World} {y : Int} (h : HoldsY u W y) (hb : Below W.heap.size W W1) : HoldsY u W1 y := by
  obtain ⟨q, e, hc, hq⟩ := h
  exact ⟨q, e, (hb.cell (p := ⟨q, 0, none⟩) hq).trans hc, Nat.lt_of_lt_of_le hq hb.size⟩

def dg5Fact (z : Nat) (g1 : Bool) (A1 : Option Addr) (n1 c1 _v1 : Nat) (_x2 : Int) (g2 : Bool) (v2 : Nat) (g3 : Bool) (v3 : Nat) (j : Nat) (u : Value) (W : World) : Prop := match j with
  | 0 => u = .agg #[.bool g1, .slice A1 n1 c1]
  | 1 => HoldsN u W g2 v2
  | 2 => HoldsT u W g3 v3
  | 3 => HoldsT u W g3 v3
  | 4 => HoldsN u W g3 v3
  | 5 => u = .bool true
  | 6 => HoldsB u W z
  | _ => True
def dg5Slot (j : Nat) : Nat := match j with
  | 0 => 34
  | 1 => 35
  | 2 => 36
  | 3 => 33
  | 4 => 37
  | 5 => 38
  | 6 => 10
  | _ => 0
theorem dg5_via {z : Nat} {g1 : Bool} {A1 : Option Addr} {n1 c1 v1 : Nat} {x2 : Int} {g2 : Bool} {v2 : Nat} {g3 : Bool} {v3 : Nat} {j : Nat} {u : Value} {W W1 : World} (h : dg5Fact z g1 A1 n1 c1 v1 x2 g2 v2 g3 v3 j u W) (hb : Below W.heap.size W W1) : dg5Fact z g1 A1 n1 c1 v1 x2 g2 v2 g3 v3 j u W1 := by
  unfold dg5Fact at h ⊢
  split <;> first | exact h | exact HoldsN.via h hb | exact HoldsT.via h hb | exact HoldsB.via h hb | exact HoldsY.via h hb | trivial | fail "no"
theorem dg5_inj : ∀ x, x < 7 → ∀ y, y < 7 → x ≠ y → dg5Slot x ≠ dg5Slot y := by decide
theorem dg5_upd {z : Nat} {g1 : Bool} {A1 : Option Addr} {n1 c1 v1 : Nat} {x2 : Int} {g2 : Bool} {v2 : Nat} {g3 : Bool} {v3 : Nat} {f : Nat → Value} {L : Array Bool} {i : Nat} {v : Value} {W W1 : World} (hi : i < 7) (hF : ∀ j, j < 7 → L.getD j false = true → dg5Fact z g1 A1 n1 c1 v1 x2 g2 v2 g3 v3 j (f (dg5Slot j)) W) (hb : Below W.heap.size W W1) (hv : dg5Fact z g1 A1 n1 c1 v1 x2 g2 v2 g3 v3 i v W1) :
    ∀ j, j < 7 → (L.setIfInBounds i true).getD j false = true → dg5Fact z g1 A1 n1 c1 v1 x2 g2 v2 g3 v3 j (upd f (dg5Slot i) v (dg5Slot j)) W1 := by
  intro j hj h
  by_cases hji : j = i
  · subst hji; rw [upd_same]; exact hv
  · rw [upd_other (dg5_inj j hj i hi hji)]
    rcases getD_set h with h | h
    · exact absurd h hji
    · exact dg5_via (hF j hj h) hb
def dg5Ph1 (g3 : Bool) (v3 : Nat) (f : Nat → Value) (W : World) : Prop := ∃ q A n c, f 10 = .pointer (some ⟨q, 0, none⟩) ∧ OB W q g3 A n c v3 ∧ ∃ A n c, f 33 = .tuple #[.agg #[.bool g3, .slice A n c], .bool true]
def dg5Ph2 (g3 : Bool) (v3 : Nat) (f : Nat → Value) (W : World) : Prop := ∃ q A n c, f 10 = .pointer (some ⟨q, 0, none⟩) ∧ OB W q g3 A n c v3 ∧ f 11 = .bool true
def dg5Inv (MM : World → Prop) (t : Array Value) (df : List Deferred) (z : Nat) (g1 : Bool) (A1 : Option Addr) (n1 c1 v1 : Nat) (x2 : Int) (g2 : Bool) (v2 : Nat) (g3 : Bool) (v3 : Nat) (L : Array Bool) (a : Act) (W : World) : Prop :=
  ∃ f, a = ⟨patch t [34, 35, 36, 33, 37, 38, 10, 11] f, df⟩ ∧ MM W ∧ z + 1 ≤ W.heap.size ∧
    ((L.getD 7 false = false ∧ (∀ j, j < 7 → L.getD j false = true → dg5Fact z g1 A1 n1 c1 v1 x2 g2 v2 g3 v3 j (f (dg5Slot j)) W)) ∨ ((∀ j, j < 8 → j ≠ 5 → L.getD j false = true) ∧ dg5Ph1 g3 v3 f W ∧ (L.getD 5 false = true → f 38 = .bool true) ∧ L.getD 8 false = false) ∨ ((∀ j, j < 9 → L.getD j false = true) ∧ dg5Ph2 g3 v3 f W))
set_option maxRecDepth 100000 in
set_option maxHeartbeats 4000000 in
theorem dg5_region {ops : Array Oper} {Q : Exit → Act → World → Prop} {id : Nat} (MM : World → Prop) (t : Array Value) (df : List Deferred) (W : World) (z : Nat) (g1 : Bool) (A1 : Option Addr) (n1 c1 v1 : Nat) (x2 : Int) (g2 : Bool) (v2 : Nat) (g3 : Bool) (v3 : Nat)
    (hsz : ops.size = 9) (hback : backB ops = true) (hts : 38 < t.size) (hz : z + 1 ≤ W.heap.size)
    (hM0 : MM W.drew) (hMV : ∀ W W1, MM W → Below W.heap.size W W1 → MM W1)
    (qb : Nat)
    (hpb : t.getD 9 undef = .pointer (some ⟨qb, 0, none⟩))
    (hOB : ∀ W, MM W → OB W qb g1 A1 n1 c1 v1)
    (hOf : ∀ W, Calls Tryd.prog 17 #[.int .i64 10] W (NR g2 v2 W))
    (hOp : ∀ (W : World) (A2 : Option Addr) (n2 c2 : Nat), Sl W W.heap.size A1 n1 c1 (digs v1) → Sl W W.heap.size A2 n2 c2 (digs v2) → Calls Tryd.prog 20 #[.agg #[.bool g1, .slice A1 n1 c1], .agg #[.bool g2, .slice A2 n2 c2]] W (NR2 g3 v3 true W))
    (hMP : ∀ (W : World) (q : Nat) (g : Bool) (A : Option Addr) (n c : Nat), MM W → FB W q → z + 1 ≤ q → MM (put W q g A n c))
    (o0 : opIs ops 0 (some 34) (.load 25 (.tmp 9)))
    (o1 : opIs ops 1 (some 35) (.call { callee := .value (.func 17), args := #[.const (.int .i64 10)], argTypes := #[3] }))
    (o2 : opIs ops 2 (some 36) (.call { callee := .value (.func 20), args := #[.tmp 34, .tmp 35], argTypes := #[25, 25] }))
    (o3 : opIs ops 3 (some 33) (.move (.tmp 36)))
    (o4 : opIs ops 4 (some 37) (.extract (.tmp 33) 0))
    (o5 : opIs ops 5 (some 38) (.extract (.tmp 33) 1))
    (o6 : opIs ops 6 (some 10) (.alloc 25))
    (o7 : opIs ops 7 none (.store 25 (.tmp 10) (.tmp 37)))
    (o8 : opIs ops 8 (some 11) (.assign (.tmp 38)))
    (p2_0 : depB ops 2 0 = true)
    (p2_1 : depB ops 2 1 = true)
    (p3_2 : depB ops 3 2 = true)
    (p4_3 : depB ops 4 3 = true)
    (p5_3 : depB ops 5 3 = true)
    (p7_6 : depB ops 7 6 = true)
    (p7_4 : depB ops 7 4 = true)
    (p8_7 : depB ops 8 7 = true)
    (p8_5 : depB ops 8 5 = true)
    (hQ : ∀ f W, MM W → dg5Ph2 g3 v3 f W → Q .normal ⟨patch t [34, 35, 36, 33, 37, 38, 10, 11] f, df⟩ W) : (Code.region id ops true).wp Tryd.prog Q ⟨t, df⟩ W := by
  refine wp_region_inv (by kernel_rfl) hback (dg5Inv MM t df z g1 A1 n1 c1 v1 x2 g2 v2 g3 v3) ?_ ?_ ?_
  · refine ⟨_, congrArg (fun x => (⟨x, df⟩ : Act)) (patch_start t [34, 35, 36, 33, 37, 38, 10, 11]).symm, hM0, hz, .inl ⟨by simp [Array.getD, hsz], fun j _ h => ?_⟩⟩
    simp [Array.getD] at h
  · rintro L a W i o ho hzz hc hl hd ⟨f, rfl, hA, hzW, hI⟩
    have hi : i < 9 := by have := (Array.getElem?_eq_some_iff.1 ho).1; omega
    have no : ∀ {n : Nat}, (∀ j, j < n → L.getD j false = true) → i < n → False := fun h h2 => by
      have h3 := h i h2
      rw [getD_lt (c := true) (by omega), hl] at h3; cases h3
    have no2 : ∀ {n : Nat}, (∀ j, j < n → j ≠ 5 → L.getD j false = true) → i < n → i ≠ 5 → False := fun h h2 h4 => by
      have h3 := h i h2 h4
      rw [getD_lt (c := true) (by omega), hl] at h3; cases h3
    obtain ⟨dst, op, ty, pos, after, guard⟩ := o
    match i, hi with
    | 0, _ =>
      have e := o0
      unfold opIs at e
      rw [ho] at e
      simp only [Option.map_some, Option.some.injEq, Prod.mk.injEq] at e
      obtain ⟨rfl, rfl, rfl⟩ := e
      rcases hI with ⟨hs, hF⟩ | ⟨hall, _⟩ | ⟨hall, _⟩
      · refine wpOp_step ho (fun K hK => ?_)
        rw [if_pos (wanted_none rfl)]
        have x9 : (patch t [34, 35, 36, 33, 37, 38, 10, 11] f).getD 9 undef = .pointer (some ⟨qb, 0, none⟩) := (patch_out (by decide)).trans hpb
        obtain ⟨w1, w2, _, _⟩ := hOB W hA
        go_simp
        refine hK _ _ ⟨upd f 34 (.agg #[.bool g1, .slice A1 n1 c1]), by rw [patch_set (by decide)], hA, hzW, .inl ⟨?_, dg5_upd (i := 0) (by omega) hF (Below.refl _ _) rfl⟩⟩
        rw [getD_set_ne (by omega)]; exact hs
      · exact (no2 hall (by omega) (by omega)).elim
      · exact (no hall (by omega)).elim
    | 1, _ =>
      have e := o1
      unfold opIs at e
      rw [ho] at e
      simp only [Option.map_some, Option.some.injEq, Prod.mk.injEq] at e
      obtain ⟨rfl, rfl, rfl⟩ := e
      rcases hI with ⟨hs, hF⟩ | ⟨hall, _⟩ | ⟨hall, _⟩
      · refine wpOp_step ho (fun K hK => ?_)
        rw [if_pos (wanted_none rfl)]
        go_simp
        refine (hOf W).mono ?_
        rintro e w1 ⟨A, n, c, rfl, hsl, hb⟩
        refine hK _ _ ⟨upd f 35 (.agg #[.bool g2, .slice A n c]), by rw [patch_set (by decide)], hMV _ _ hA hb, (Nat.le_trans hzW hb.size), .inl ⟨?_, dg5_upd (i := 1) (by omega) hF hb ⟨A, n, c, rfl, hsl⟩⟩⟩
        rw [getD_set_ne (by omega)]; exact hs
      · exact (no2 hall (by omega) (by omega)).elim
      · exact (no hall (by omega)).elim
    | 2, _ =>
      have e := o2
      unfold opIs at e
      rw [ho] at e
      simp only [Option.map_some, Option.some.injEq, Prod.mk.injEq] at e
      obtain ⟨rfl, rfl, rfl⟩ := e
      rcases hI with ⟨hs, hF⟩ | ⟨hall, _⟩ | ⟨hall, _⟩
      · refine wpOp_step ho (fun K hK => ?_)
        rw [if_pos (wanted_none rfl)]
        have x0 : (patch t [34, 35, 36, 33, 37, 38, 10, 11] f).getD 34 undef = .agg #[.bool g1, .slice A1 n1 c1] := (patch_get (by omega) (by decide)).trans (hF 0 (by omega) (hd 0 p2_0))
        have y1 : HoldsN (f 35) W g2 v2 := hF 1 (by omega) (hd 1 p2_1)
        obtain ⟨A2, n2, c2, e2, hs2⟩ := y1
        have x8 : (patch t [34, 35, 36, 33, 37, 38, 10, 11] f).getD 35 undef = .agg #[.bool g2, .slice A2 n2 c2] := (patch_get (by omega) (by decide)).trans e2
        go_simp
        refine (hOp W A2 n2 c2 (hOB W hA).2.2.1 hs2).mono ?_
        rintro e w1 ⟨A3, n3, c3, rfl, hs3, hb⟩
        refine hK _ _ ⟨upd f 36 (.tuple #[.agg #[.bool g3, .slice A3 n3 c3], .bool true]), by rw [patch_set (by decide)], hMV _ _ hA hb, (Nat.le_trans hzW hb.size), .inl ⟨?_, dg5_upd (i := 2) (by omega) hF hb ⟨A3, n3, c3, rfl, hs3⟩⟩⟩
        rw [getD_set_ne (by omega)]; exact hs
      · exact (no2 hall (by omega) (by omega)).elim
      · exact (no hall (by omega)).elim
    | 3, _ =>
      have e := o3
      unfold opIs at e
      rw [ho] at e
      simp only [Option.map_some, Option.some.injEq, Prod.mk.injEq] at e
      obtain ⟨rfl, rfl, rfl⟩ := e
      rcases hI with ⟨hs, hF⟩ | ⟨hall, _⟩ | ⟨hall, _⟩
      · refine wpOp_step ho (fun K hK => ?_)
        rw [if_pos (wanted_none rfl)]
        have y2 : HoldsT (f 36) W g3 v3 := hF 2 (by omega) (hd 2 p3_2)
        obtain ⟨A3, n3, c3, e3, hs3⟩ := y2
        have x8 : (patch t [34, 35, 36, 33, 37, 38, 10, 11] f).getD 36 undef = .tuple #[.agg #[.bool g3, .slice A3 n3 c3], .bool true] := (patch_get (by omega) (by decide)).trans e3
        go_simp
        refine hK _ _ ⟨upd f 33 (.tuple #[.agg #[.bool g3, .slice A3 n3 c3], .bool true]), by rw [patch_set (by decide)], hA, hzW, .inl ⟨?_, dg5_upd (i := 3) (by omega) hF (Below.refl _ _) ⟨A3, n3, c3, rfl, hs3⟩⟩⟩
        rw [getD_set_ne (by omega)]; exact hs
      · exact (no2 hall (by omega) (by omega)).elim
      · exact (no hall (by omega)).elim
    | 4, _ =>
      have e := o4
      unfold opIs at e
      rw [ho] at e
      simp only [Option.map_some, Option.some.injEq, Prod.mk.injEq] at e
      obtain ⟨rfl, rfl, rfl⟩ := e
      rcases hI with ⟨hs, hF⟩ | ⟨hall, _⟩ | ⟨hall, _⟩
      · refine wpOp_step ho (fun K hK => ?_)
        rw [if_pos (wanted_none rfl)]
        have y3 : HoldsT (f 33) W g3 v3 := hF 3 (by omega) (hd 3 p4_3)
        obtain ⟨A3, n3, c3, e3, hs3⟩ := y3
        have x8 : (patch t [34, 35, 36, 33, 37, 38, 10, 11] f).getD 33 undef = .tuple #[.agg #[.bool g3, .slice A3 n3 c3], .bool true] := (patch_get (by omega) (by decide)).trans e3
        go_simp
        refine hK _ _ ⟨upd f 37 (.agg #[.bool g3, .slice A3 n3 c3]), by rw [patch_set (by decide)], hA, hzW, .inl ⟨?_, dg5_upd (i := 4) (by omega) hF (Below.refl _ _) ⟨A3, n3, c3, rfl, hs3⟩⟩⟩
        rw [getD_set_ne (by omega)]; exact hs
      · exact (no2 hall (by omega) (by omega)).elim
      · exact (no hall (by omega)).elim
    | 5, _ =>
      have e := o5
      unfold opIs at e
      rw [ho] at e
      simp only [Option.map_some, Option.some.injEq, Prod.mk.injEq] at e
      obtain ⟨rfl, rfl, rfl⟩ := e
      rcases hI with ⟨hs, hF⟩ | ⟨hall, hP, hE, hno⟩ | ⟨hall, _⟩
      · refine wpOp_step ho (fun K hK => ?_)
        rw [if_pos (wanted_none rfl)]
        have y3 : HoldsT (f 33) W g3 v3 := hF 3 (by omega) (hd 3 p5_3)
        obtain ⟨A3, n3, c3, e3, hs3⟩ := y3
        have x8 : (patch t [34, 35, 36, 33, 37, 38, 10, 11] f).getD 33 undef = .tuple #[.agg #[.bool g3, .slice A3 n3 c3], .bool true] := (patch_get (by omega) (by decide)).trans e3
        go_simp
        refine hK _ _ ⟨upd f 38 (.bool true), by rw [patch_set (by decide)], hA, hzW, .inl ⟨?_, dg5_upd (i := 5) (by omega) hF (Below.refl _ _) rfl⟩⟩
        rw [getD_set_ne (by omega)]; exact hs
      · obtain ⟨q, A3, n3, c3, z0, ob, A4, n4, c4, e4⟩ := hP
        refine wpOp_step ho (fun K hK => ?_)
        rw [if_pos (wanted_none rfl)]
        have x8 : (patch t [34, 35, 36, 33, 37, 38, 10, 11] f).getD 33 undef = .tuple #[.agg #[.bool g3, .slice A4 n4 c4], .bool true] := (patch_get (by omega) (by decide)).trans e4
        go_simp
        refine hK _ _ ⟨upd f 38 (.bool true), by rw [patch_set (by decide)], hA, hzW, .inr (.inl ⟨fun j hj hne => getD_set_of (hall j hj hne), ⟨q, A3, n3, c3, (upd_other (by decide)).trans z0, ob, A4, n4, c4, (upd_other (by decide)).trans e4⟩, fun _ => upd_same _ _ _, ?_⟩)⟩
        rw [getD_set_ne (by omega)]; exact hno
      · exact (no hall (by omega)).elim
    | 6, _ =>
      have e := o6
      unfold opIs at e
      rw [ho] at e
      simp only [Option.map_some, Option.some.injEq, Prod.mk.injEq] at e
      obtain ⟨rfl, rfl, rfl⟩ := e
      rcases hI with ⟨hs, hF⟩ | ⟨hall, _⟩ | ⟨hall, _⟩
      · refine wpOp_step ho (fun K hK => ?_)
        rw [if_pos (wanted_none rfl)]
        go_simp
        have hb : Below W.heap.size W (W.alloc (.cells #[.bool false, .slice none 0 0] 25)) := (Below.refl _ _).alloc (Nat.le_refl _) _
        have hzW1 : z + 1 ≤ W.heap.size := hzW
        refine hK _ _ ⟨upd f 10 (.pointer (some ⟨W.heap.size, 0, none⟩)), by rw [patch_set (by decide)], hMV _ _ hA hb, (Nat.le_trans hzW hb.size), .inl ⟨?_, dg5_upd (i := 6) (by omega) hF hb ⟨_, rfl, FB.new _ _, hzW1⟩⟩⟩
        rw [getD_set_ne (by omega)]; exact hs
      · exact (no2 hall (by omega) (by omega)).elim
      · exact (no hall (by omega)).elim
    | 7, _ =>
      have e := o7
      unfold opIs at e
      rw [ho] at e
      simp only [Option.map_some, Option.some.injEq, Prod.mk.injEq] at e
      obtain ⟨rfl, rfl, rfl⟩ := e
      rcases hI with ⟨hs, hF⟩ | ⟨hall, _⟩ | ⟨hall, _⟩
      · have hall : ∀ j, j < 7 → j ≠ 5 → L.getD j false = true := by
          have v6 := hd 6 p7_6
          have v4 := hd 4 p7_4
          have v3 := hc 4 3 p4_3 (by rw [getD_lt (c := false) (by omega)]; exact v4) (by omega)
          have v2 := hc 3 2 p3_2 (by rw [getD_lt (c := false) (by omega)]; exact v3) (by omega)
          have v0 := hc 2 0 p2_0 (by rw [getD_lt (c := false) (by omega)]; exact v2) (by omega)
          have v1 := hc 2 1 p2_1 (by rw [getD_lt (c := false) (by omega)]; exact v2) (by omega)
          intro j hj hne
          match j, hj, hne with
          | 0, _, _ => exact v0
          | 1, _, _ => exact v1
          | 2, _, _ => exact v2
          | 3, _, _ => exact v3
          | 4, _, _ => exact v4
          | 5, _, hne => exact absurd rfl hne
          | 6, _, _ => exact v6
        obtain ⟨q, z0, fb, hq⟩ : HoldsB (f 10) W z := hF 6 (by omega) (hall 6 (by omega) (by omega))
        obtain ⟨A3, n3, c3, r0, sl⟩ : HoldsN (f 37) W g3 v3 := hF 4 (by omega) (hall 4 (by omega) (by omega))
        obtain ⟨A4, n4, c4, e4, _⟩ : HoldsT (f 33) W g3 v3 := hF 3 (by omega) (hall 3 (by omega) (by omega))
        have hall2 : ∀ j, j < 8 → j ≠ 5 → (L.setIfInBounds 7 true).getD j false = true := fun j hj hne => by
          by_cases h : j = 7
          · subst h; exact getD_set_self (by omega)
          · exact getD_set_of (hall j (by omega) hne)
        have hE2 : (L.setIfInBounds 7 true).getD 5 false = true → f 38 = .bool true := fun h => by rw [getD_set_ne (by omega)] at h; exact hF 5 (by omega) h
        refine wpOp_step ho (fun K hK => ?_)
        rw [if_pos (wanted_none rfl)]
        have x0 : (patch t [34, 35, 36, 33, 37, 38, 10, 11] f).getD 10 undef = .pointer (some ⟨q, 0, none⟩) := (patch_get (by omega) (by decide)).trans z0
        have x1 : (patch t [34, 35, 36, 33, 37, 38, 10, 11] f).getD 37 undef = .agg #[.bool g3, .slice A3 n3 c3] := (patch_get (by omega) (by decide)).trans r0
        have hfb := fb
        obtain ⟨w1, w2, w3, w4⟩ := hfb
        go_simp
        refine hK _ _ ⟨f, rfl, hMP _ q g3 A3 n3 c3 hA fb hq, (put_size (W := W) ▸ hzW), .inr (.inl ⟨hall2, ⟨q, A3, n3, c3, z0, put_new fb sl, A4, n4, c4, e4⟩, hE2, ?_⟩)⟩
        rw [getD_set_ne (by omega)]
        cases hx : L.getD 8 false with
        | false => rfl
        | true =>
          have h9 := hc 8 7 p8_7 (by rw [getD_lt (c := false) (by omega)]; exact hx) (by omega)
          rw [getD_lt (c := true) (by omega), hl] at h9; cases h9
      · exact (no2 hall (by omega) (by omega)).elim
      · exact (no hall (by omega)).elim
    | 8, _ =>
      have e := o8
      unfold opIs at e
      rw [ho] at e
      simp only [Option.map_some, Option.some.injEq, Prod.mk.injEq] at e
      obtain ⟨rfl, rfl, rfl⟩ := e
      have hdp := hd 7 p8_7
      rcases hI with ⟨hs, hF⟩ | ⟨hall, hP, hE, hno⟩ | ⟨hall, _⟩
      · rw [hs] at hdp; cases hdp
      · have hlt := hd 5 p8_5
        have hall : ∀ q, q < 8 → L.getD q false = true := fun q hq => by
          by_cases h : q = 5
          · subst h; exact hlt
          · exact hall q hq h
        obtain ⟨q, A3, n3, c3, z0, ob, _⟩ := hP
        have e1 := hE hlt
        have hall2 : ∀ j, j < 9 → (L.setIfInBounds 8 true).getD j false = true := fun j hj => by
          by_cases h : j = 8
          · subst h; exact getD_set_self (by omega)
          · exact getD_set_of (hall j (by omega))
        refine wpOp_step ho (fun K hK => ?_)
        rw [if_pos (wanted_none rfl)]
        have x1 : (patch t [34, 35, 36, 33, 37, 38, 10, 11] f).getD 38 undef = .bool true := (patch_get (by omega) (by decide)).trans e1
        go_simp
        refine hK _ _ ⟨upd f 11 (.bool true), by rw [patch_set (by decide)], hA, hzW, .inr (.inr (⟨hall2, ⟨q, A3, n3, c3, z0, ob, rfl⟩⟩))⟩
      · exact (no hall (by omega)).elim
  · rintro L a W hL ⟨f, rfl, hA, _, h⟩
    rcases h with ⟨h, _⟩ | ⟨_, _, _, h⟩ | ⟨_, h⟩
    · rw [hL 7 (by omega)] at h; cases h
    · rw [hL 8 (by omega)] at h; cases h
    · exact hQ f W hA h
def dg6Fact (z : Nat) (g1 : Bool) (A1 : Option Addr) (n1 c1 _v1 : Nat) (x2 : Int) (g2 : Bool) (v2 : Nat) (g3 : Bool) (v3 : Nat) (j : Nat) (u : Value) (W : World) : Prop := match j with
  | 0 => u = .agg #[.bool g1, .slice A1 n1 c1]
  | 1 => u = .int .i64 x2
  | 2 => HoldsN u W g2 v2
  | 3 => HoldsT u W g3 v3
  | 4 => HoldsT u W g3 v3
  | 5 => HoldsN u W g3 v3
  | 6 => u = .bool true
  | 7 => HoldsB u W z
  | _ => True
def dg6Slot (j : Nat) : Nat := match j with
  | 0 => 40
  | 1 => 41
  | 2 => 42
  | 3 => 43
  | 4 => 39
  | 5 => 44
  | 6 => 45
  | 7 => 12
  | _ => 0
theorem dg6_via {z : Nat} {g1 : Bool} {A1 : Option Addr} {n1 c1 v1 : Nat} {x2 : Int} {g2 : Bool} {v2 : Nat} {g3 : Bool} {v3 : Nat} {j : Nat} {u : Value} {W W1 : World} (h : dg6Fact z g1 A1 n1 c1 v1 x2 g2 v2 g3 v3 j u W) (hb : Below W.heap.size W W1) : dg6Fact z g1 A1 n1 c1 v1 x2 g2 v2 g3 v3 j u W1 := by
  unfold dg6Fact at h ⊢
  split <;> first | exact h | exact HoldsN.via h hb | exact HoldsT.via h hb | exact HoldsB.via h hb | exact HoldsY.via h hb | trivial | fail "no"
theorem dg6_inj : ∀ x, x < 8 → ∀ y, y < 8 → x ≠ y → dg6Slot x ≠ dg6Slot y := by decide
theorem dg6_upd {z : Nat} {g1 : Bool} {A1 : Option Addr} {n1 c1 v1 : Nat} {x2 : Int} {g2 : Bool} {v2 : Nat} {g3 : Bool} {v3 : Nat} {f : Nat → Value} {L : Array Bool} {i : Nat} {v : Value} {W W1 : World} (hi : i < 8) (hF : ∀ j, j < 8 → L.getD j false = true → dg6Fact z g1 A1 n1 c1 v1 x2 g2 v2 g3 v3 j (f (dg6Slot j)) W) (hb : Below W.heap.size W W1) (hv : dg6Fact z g1 A1 n1 c1 v1 x2 g2 v2 g3 v3 i v W1) :
    ∀ j, j < 8 → (L.setIfInBounds i true).getD j false = true → dg6Fact z g1 A1 n1 c1 v1 x2 g2 v2 g3 v3 j (upd f (dg6Slot i) v (dg6Slot j)) W1 := by
  intro j hj h
  by_cases hji : j = i
  · subst hji; rw [upd_same]; exact hv
  · rw [upd_other (dg6_inj j hj i hi hji)]
    rcases getD_set h with h | h
    · exact absurd h hji
    · exact dg6_via (hF j hj h) hb
def dg6Ph1 (g3 : Bool) (v3 : Nat) (f : Nat → Value) (W : World) : Prop := ∃ q A n c, f 12 = .pointer (some ⟨q, 0, none⟩) ∧ OB W q g3 A n c v3 ∧ ∃ A n c, f 39 = .tuple #[.agg #[.bool g3, .slice A n c], .bool true]
def dg6Ph2 (g3 : Bool) (v3 : Nat) (f : Nat → Value) (W : World) : Prop := ∃ q A n c, f 12 = .pointer (some ⟨q, 0, none⟩) ∧ OB W q g3 A n c v3 ∧ f 13 = .bool true
def dg6Inv (MM : World → Prop) (t : Array Value) (df : List Deferred) (z : Nat) (g1 : Bool) (A1 : Option Addr) (n1 c1 v1 : Nat) (x2 : Int) (g2 : Bool) (v2 : Nat) (g3 : Bool) (v3 : Nat) (L : Array Bool) (a : Act) (W : World) : Prop :=
  ∃ f, a = ⟨patch t [40, 41, 42, 43, 39, 44, 45, 12, 13] f, df⟩ ∧ MM W ∧ z + 1 ≤ W.heap.size ∧
    ((L.getD 8 false = false ∧ (∀ j, j < 8 → L.getD j false = true → dg6Fact z g1 A1 n1 c1 v1 x2 g2 v2 g3 v3 j (f (dg6Slot j)) W)) ∨ ((∀ j, j < 9 → j ≠ 6 → L.getD j false = true) ∧ dg6Ph1 g3 v3 f W ∧ (L.getD 6 false = true → f 45 = .bool true) ∧ L.getD 9 false = false) ∨ ((∀ j, j < 10 → L.getD j false = true) ∧ dg6Ph2 g3 v3 f W))
set_option maxRecDepth 100000 in
set_option maxHeartbeats 4000000 in
theorem dg6_region {ops : Array Oper} {Q : Exit → Act → World → Prop} {id : Nat} (MM : World → Prop) (t : Array Value) (df : List Deferred) (W : World) (z : Nat) (g1 : Bool) (A1 : Option Addr) (n1 c1 v1 : Nat) (x2 : Int) (g2 : Bool) (v2 : Nat) (g3 : Bool) (v3 : Nat)
    (hsz : ops.size = 10) (hback : backB ops = true) (hts : 45 < t.size) (hz : z + 1 ≤ W.heap.size)
    (hM0 : MM W.drew) (hMV : ∀ W W1, MM W → Below W.heap.size W W1 → MM W1)
    (qb : Nat)
    (hpb : t.getD 10 undef = .pointer (some ⟨qb, 0, none⟩))
    (hOB : ∀ W, MM W → OB W qb g1 A1 n1 c1 v1)
    (hx2 : t.getD 8 undef = .int .i64 x2)
    (hOf : ∀ W, Calls Tryd.prog 17 #[.int .i64 x2] W (NR g2 v2 W))
    (hOp : ∀ (W : World) (A2 : Option Addr) (n2 c2 : Nat), Sl W W.heap.size A1 n1 c1 (digs v1) → Sl W W.heap.size A2 n2 c2 (digs v2) → Calls Tryd.prog 18 #[.agg #[.bool g1, .slice A1 n1 c1], .agg #[.bool g2, .slice A2 n2 c2]] W (NR2 g3 v3 true W))
    (hMP : ∀ (W : World) (q : Nat) (g : Bool) (A : Option Addr) (n c : Nat), MM W → FB W q → z + 1 ≤ q → MM (put W q g A n c))
    (o0 : opIs ops 0 (some 40) (.load 25 (.tmp 10)))
    (o1 : opIs ops 1 (some 41) (.move (.tmp 8)))
    (o2 : opIs ops 2 (some 42) (.call { callee := .value (.func 17), args := #[.tmp 41], argTypes := #[3] }))
    (o3 : opIs ops 3 (some 43) (.call { callee := .value (.func 18), args := #[.tmp 40, .tmp 42], argTypes := #[25, 25] }))
    (o4 : opIs ops 4 (some 39) (.move (.tmp 43)))
    (o5 : opIs ops 5 (some 44) (.extract (.tmp 39) 0))
    (o6 : opIs ops 6 (some 45) (.extract (.tmp 39) 1))
    (o7 : opIs ops 7 (some 12) (.alloc 25))
    (o8 : opIs ops 8 none (.store 25 (.tmp 12) (.tmp 44)))
    (o9 : opIs ops 9 (some 13) (.assign (.tmp 45)))
    (p2_1 : depB ops 2 1 = true)
    (p3_0 : depB ops 3 0 = true)
    (p3_2 : depB ops 3 2 = true)
    (p4_3 : depB ops 4 3 = true)
    (p5_4 : depB ops 5 4 = true)
    (p6_4 : depB ops 6 4 = true)
    (p8_7 : depB ops 8 7 = true)
    (p8_5 : depB ops 8 5 = true)
    (p9_8 : depB ops 9 8 = true)
    (p9_6 : depB ops 9 6 = true)
    (hQ : ∀ f W, MM W → dg6Ph2 g3 v3 f W → Q .normal ⟨patch t [40, 41, 42, 43, 39, 44, 45, 12, 13] f, df⟩ W) : (Code.region id ops true).wp Tryd.prog Q ⟨t, df⟩ W := by
  refine wp_region_inv (by kernel_rfl) hback (dg6Inv MM t df z g1 A1 n1 c1 v1 x2 g2 v2 g3 v3) ?_ ?_ ?_
  · refine ⟨_, congrArg (fun x => (⟨x, df⟩ : Act)) (patch_start t [40, 41, 42, 43, 39, 44, 45, 12, 13]).symm, hM0, hz, .inl ⟨by simp [Array.getD, hsz], fun j _ h => ?_⟩⟩
    simp [Array.getD] at h
  · rintro L a W i o ho hzz hc hl hd ⟨f, rfl, hA, hzW, hI⟩
    have hi : i < 10 := by have := (Array.getElem?_eq_some_iff.1 ho).1; omega
    have no : ∀ {n : Nat}, (∀ j, j < n → L.getD j false = true) → i < n → False := fun h h2 => by
      have h3 := h i h2
      rw [getD_lt (c := true) (by omega), hl] at h3; cases h3
    have no2 : ∀ {n : Nat}, (∀ j, j < n → j ≠ 6 → L.getD j false = true) → i < n → i ≠ 6 → False := fun h h2 h4 => by
      have h3 := h i h2 h4
      rw [getD_lt (c := true) (by omega), hl] at h3; cases h3
    obtain ⟨dst, op, ty, pos, after, guard⟩ := o
    match i, hi with
    | 0, _ =>
      have e := o0
      unfold opIs at e
      rw [ho] at e
      simp only [Option.map_some, Option.some.injEq, Prod.mk.injEq] at e
      obtain ⟨rfl, rfl, rfl⟩ := e
      rcases hI with ⟨hs, hF⟩ | ⟨hall, _⟩ | ⟨hall, _⟩
      · refine wpOp_step ho (fun K hK => ?_)
        rw [if_pos (wanted_none rfl)]
        have x9 : (patch t [40, 41, 42, 43, 39, 44, 45, 12, 13] f).getD 10 undef = .pointer (some ⟨qb, 0, none⟩) := (patch_out (by decide)).trans hpb
        obtain ⟨w1, w2, _, _⟩ := hOB W hA
        go_simp
        refine hK _ _ ⟨upd f 40 (.agg #[.bool g1, .slice A1 n1 c1]), by rw [patch_set (by decide)], hA, hzW, .inl ⟨?_, dg6_upd (i := 0) (by omega) hF (Below.refl _ _) rfl⟩⟩
        rw [getD_set_ne (by omega)]; exact hs
      · exact (no2 hall (by omega) (by omega)).elim
      · exact (no hall (by omega)).elim
    | 1, _ =>
      have e := o1
      unfold opIs at e
      rw [ho] at e
      simp only [Option.map_some, Option.some.injEq, Prod.mk.injEq] at e
      obtain ⟨rfl, rfl, rfl⟩ := e
      rcases hI with ⟨hs, hF⟩ | ⟨hall, _⟩ | ⟨hall, _⟩
      · refine wpOp_step ho (fun K hK => ?_)
        rw [if_pos (wanted_none rfl)]
        have x9 : (patch t [40, 41, 42, 43, 39, 44, 45, 12, 13] f).getD 8 undef = .int .i64 x2 := (patch_out (by decide)).trans hx2
        go_simp
        refine hK _ _ ⟨upd f 41 (.int .i64 x2), by rw [patch_set (by decide)], hA, hzW, .inl ⟨?_, dg6_upd (i := 1) (by omega) hF (Below.refl _ _) rfl⟩⟩
        rw [getD_set_ne (by omega)]; exact hs
      · exact (no2 hall (by omega) (by omega)).elim
      · exact (no hall (by omega)).elim
    | 2, _ =>
      have e := o2
      unfold opIs at e
      rw [ho] at e
      simp only [Option.map_some, Option.some.injEq, Prod.mk.injEq] at e
      obtain ⟨rfl, rfl, rfl⟩ := e
      rcases hI with ⟨hs, hF⟩ | ⟨hall, _⟩ | ⟨hall, _⟩
      · refine wpOp_step ho (fun K hK => ?_)
        rw [if_pos (wanted_none rfl)]
        have x1 : (patch t [40, 41, 42, 43, 39, 44, 45, 12, 13] f).getD 41 undef = .int .i64 x2 := (patch_get (by omega) (by decide)).trans (hF 1 (by omega) (hd 1 p2_1))
        go_simp
        refine (hOf W).mono ?_
        rintro e w1 ⟨A, n, c, rfl, hsl, hb⟩
        refine hK _ _ ⟨upd f 42 (.agg #[.bool g2, .slice A n c]), by rw [patch_set (by decide)], hMV _ _ hA hb, (Nat.le_trans hzW hb.size), .inl ⟨?_, dg6_upd (i := 2) (by omega) hF hb ⟨A, n, c, rfl, hsl⟩⟩⟩
        rw [getD_set_ne (by omega)]; exact hs
      · exact (no2 hall (by omega) (by omega)).elim
      · exact (no hall (by omega)).elim
    | 3, _ =>
      have e := o3
      unfold opIs at e
      rw [ho] at e
      simp only [Option.map_some, Option.some.injEq, Prod.mk.injEq] at e
      obtain ⟨rfl, rfl, rfl⟩ := e
      rcases hI with ⟨hs, hF⟩ | ⟨hall, _⟩ | ⟨hall, _⟩
      · refine wpOp_step ho (fun K hK => ?_)
        rw [if_pos (wanted_none rfl)]
        have x0 : (patch t [40, 41, 42, 43, 39, 44, 45, 12, 13] f).getD 40 undef = .agg #[.bool g1, .slice A1 n1 c1] := (patch_get (by omega) (by decide)).trans (hF 0 (by omega) (hd 0 p3_0))
        have y2 : HoldsN (f 42) W g2 v2 := hF 2 (by omega) (hd 2 p3_2)
        obtain ⟨A2, n2, c2, e2, hs2⟩ := y2
        have x8 : (patch t [40, 41, 42, 43, 39, 44, 45, 12, 13] f).getD 42 undef = .agg #[.bool g2, .slice A2 n2 c2] := (patch_get (by omega) (by decide)).trans e2
        go_simp
        refine (hOp W A2 n2 c2 (hOB W hA).2.2.1 hs2).mono ?_
        rintro e w1 ⟨A3, n3, c3, rfl, hs3, hb⟩
        refine hK _ _ ⟨upd f 43 (.tuple #[.agg #[.bool g3, .slice A3 n3 c3], .bool true]), by rw [patch_set (by decide)], hMV _ _ hA hb, (Nat.le_trans hzW hb.size), .inl ⟨?_, dg6_upd (i := 3) (by omega) hF hb ⟨A3, n3, c3, rfl, hs3⟩⟩⟩
        rw [getD_set_ne (by omega)]; exact hs
      · exact (no2 hall (by omega) (by omega)).elim
      · exact (no hall (by omega)).elim
    | 4, _ =>
      have e := o4
      unfold opIs at e
      rw [ho] at e
      simp only [Option.map_some, Option.some.injEq, Prod.mk.injEq] at e
      obtain ⟨rfl, rfl, rfl⟩ := e
      rcases hI with ⟨hs, hF⟩ | ⟨hall, _⟩ | ⟨hall, _⟩
      · refine wpOp_step ho (fun K hK => ?_)
        rw [if_pos (wanted_none rfl)]
        have y3 : HoldsT (f 43) W g3 v3 := hF 3 (by omega) (hd 3 p4_3)
        obtain ⟨A3, n3, c3, e3, hs3⟩ := y3
        have x8 : (patch t [40, 41, 42, 43, 39, 44, 45, 12, 13] f).getD 43 undef = .tuple #[.agg #[.bool g3, .slice A3 n3 c3], .bool true] := (patch_get (by omega) (by decide)).trans e3
        go_simp
        refine hK _ _ ⟨upd f 39 (.tuple #[.agg #[.bool g3, .slice A3 n3 c3], .bool true]), by rw [patch_set (by decide)], hA, hzW, .inl ⟨?_, dg6_upd (i := 4) (by omega) hF (Below.refl _ _) ⟨A3, n3, c3, rfl, hs3⟩⟩⟩
        rw [getD_set_ne (by omega)]; exact hs
      · exact (no2 hall (by omega) (by omega)).elim
      · exact (no hall (by omega)).elim
    | 5, _ =>
      have e := o5
      unfold opIs at e
      rw [ho] at e
      simp only [Option.map_some, Option.some.injEq, Prod.mk.injEq] at e
      obtain ⟨rfl, rfl, rfl⟩ := e
      rcases hI with ⟨hs, hF⟩ | ⟨hall, _⟩ | ⟨hall, _⟩
      · refine wpOp_step ho (fun K hK => ?_)
        rw [if_pos (wanted_none rfl)]
        have y4 : HoldsT (f 39) W g3 v3 := hF 4 (by omega) (hd 4 p5_4)
        obtain ⟨A3, n3, c3, e3, hs3⟩ := y4
        have x8 : (patch t [40, 41, 42, 43, 39, 44, 45, 12, 13] f).getD 39 undef = .tuple #[.agg #[.bool g3, .slice A3 n3 c3], .bool true] := (patch_get (by omega) (by decide)).trans e3
        go_simp
        refine hK _ _ ⟨upd f 44 (.agg #[.bool g3, .slice A3 n3 c3]), by rw [patch_set (by decide)], hA, hzW, .inl ⟨?_, dg6_upd (i := 5) (by omega) hF (Below.refl _ _) ⟨A3, n3, c3, rfl, hs3⟩⟩⟩
        rw [getD_set_ne (by omega)]; exact hs
      · exact (no2 hall (by omega) (by omega)).elim
      · exact (no hall (by omega)).elim
    | 6, _ =>
      have e := o6
      unfold opIs at e
      rw [ho] at e
      simp only [Option.map_some, Option.some.injEq, Prod.mk.injEq] at e
      obtain ⟨rfl, rfl, rfl⟩ := e
      rcases hI with ⟨hs, hF⟩ | ⟨hall, hP, hE, hno⟩ | ⟨hall, _⟩
      · refine wpOp_step ho (fun K hK => ?_)
        rw [if_pos (wanted_none rfl)]
        have y4 : HoldsT (f 39) W g3 v3 := hF 4 (by omega) (hd 4 p6_4)
        obtain ⟨A3, n3, c3, e3, hs3⟩ := y4
        have x8 : (patch t [40, 41, 42, 43, 39, 44, 45, 12, 13] f).getD 39 undef = .tuple #[.agg #[.bool g3, .slice A3 n3 c3], .bool true] := (patch_get (by omega) (by decide)).trans e3
        go_simp
        refine hK _ _ ⟨upd f 45 (.bool true), by rw [patch_set (by decide)], hA, hzW, .inl ⟨?_, dg6_upd (i := 6) (by omega) hF (Below.refl _ _) rfl⟩⟩
        rw [getD_set_ne (by omega)]; exact hs
      · obtain ⟨q, A3, n3, c3, z0, ob, A4, n4, c4, e4⟩ := hP
        refine wpOp_step ho (fun K hK => ?_)
        rw [if_pos (wanted_none rfl)]
        have x8 : (patch t [40, 41, 42, 43, 39, 44, 45, 12, 13] f).getD 39 undef = .tuple #[.agg #[.bool g3, .slice A4 n4 c4], .bool true] := (patch_get (by omega) (by decide)).trans e4
        go_simp
        refine hK _ _ ⟨upd f 45 (.bool true), by rw [patch_set (by decide)], hA, hzW, .inr (.inl ⟨fun j hj hne => getD_set_of (hall j hj hne), ⟨q, A3, n3, c3, (upd_other (by decide)).trans z0, ob, A4, n4, c4, (upd_other (by decide)).trans e4⟩, fun _ => upd_same _ _ _, ?_⟩)⟩
        rw [getD_set_ne (by omega)]; exact hno
      · exact (no hall (by omega)).elim
    | 7, _ =>
      have e := o7
      unfold opIs at e
      rw [ho] at e
      simp only [Option.map_some, Option.some.injEq, Prod.mk.injEq] at e
      obtain ⟨rfl, rfl, rfl⟩ := e
      rcases hI with ⟨hs, hF⟩ | ⟨hall, _⟩ | ⟨hall, _⟩
      · refine wpOp_step ho (fun K hK => ?_)
        rw [if_pos (wanted_none rfl)]
        go_simp
        have hb : Below W.heap.size W (W.alloc (.cells #[.bool false, .slice none 0 0] 25)) := (Below.refl _ _).alloc (Nat.le_refl _) _
        have hzW1 : z + 1 ≤ W.heap.size := hzW
        refine hK _ _ ⟨upd f 12 (.pointer (some ⟨W.heap.size, 0, none⟩)), by rw [patch_set (by decide)], hMV _ _ hA hb, (Nat.le_trans hzW hb.size), .inl ⟨?_, dg6_upd (i := 7) (by omega) hF hb ⟨_, rfl, FB.new _ _, hzW1⟩⟩⟩
        rw [getD_set_ne (by omega)]; exact hs
      · exact (no2 hall (by omega) (by omega)).elim
      · exact (no hall (by omega)).elim
    | 8, _ =>
      have e := o8
      unfold opIs at e
      rw [ho] at e
      simp only [Option.map_some, Option.some.injEq, Prod.mk.injEq] at e
      obtain ⟨rfl, rfl, rfl⟩ := e
      rcases hI with ⟨hs, hF⟩ | ⟨hall, _⟩ | ⟨hall, _⟩
      · have hall : ∀ j, j < 8 → j ≠ 6 → L.getD j false = true := by
          have v7 := hd 7 p8_7
          have v5 := hd 5 p8_5
          have v4 := hc 5 4 p5_4 (by rw [getD_lt (c := false) (by omega)]; exact v5) (by omega)
          have v3 := hc 4 3 p4_3 (by rw [getD_lt (c := false) (by omega)]; exact v4) (by omega)
          have v0 := hc 3 0 p3_0 (by rw [getD_lt (c := false) (by omega)]; exact v3) (by omega)
          have v2 := hc 3 2 p3_2 (by rw [getD_lt (c := false) (by omega)]; exact v3) (by omega)
          have v1 := hc 2 1 p2_1 (by rw [getD_lt (c := false) (by omega)]; exact v2) (by omega)
          intro j hj hne
          match j, hj, hne with
          | 0, _, _ => exact v0
          | 1, _, _ => exact v1
          | 2, _, _ => exact v2
          | 3, _, _ => exact v3
          | 4, _, _ => exact v4
          | 5, _, _ => exact v5
          | 6, _, hne => exact absurd rfl hne
          | 7, _, _ => exact v7
        obtain ⟨q, z0, fb, hq⟩ : HoldsB (f 12) W z := hF 7 (by omega) (hall 7 (by omega) (by omega))
        obtain ⟨A3, n3, c3, r0, sl⟩ : HoldsN (f 44) W g3 v3 := hF 5 (by omega) (hall 5 (by omega) (by omega))
        obtain ⟨A4, n4, c4, e4, _⟩ : HoldsT (f 39) W g3 v3 := hF 4 (by omega) (hall 4 (by omega) (by omega))
        have hall2 : ∀ j, j < 9 → j ≠ 6 → (L.setIfInBounds 8 true).getD j false = true := fun j hj hne => by
          by_cases h : j = 8
          · subst h; exact getD_set_self (by omega)
          · exact getD_set_of (hall j (by omega) hne)
        have hE2 : (L.setIfInBounds 8 true).getD 6 false = true → f 45 = .bool true := fun h => by rw [getD_set_ne (by omega)] at h; exact hF 6 (by omega) h
        refine wpOp_step ho (fun K hK => ?_)
        rw [if_pos (wanted_none rfl)]
        have x0 : (patch t [40, 41, 42, 43, 39, 44, 45, 12, 13] f).getD 12 undef = .pointer (some ⟨q, 0, none⟩) := (patch_get (by omega) (by decide)).trans z0
        have x1 : (patch t [40, 41, 42, 43, 39, 44, 45, 12, 13] f).getD 44 undef = .agg #[.bool g3, .slice A3 n3 c3] := (patch_get (by omega) (by decide)).trans r0
        have hfb := fb
        obtain ⟨w1, w2, w3, w4⟩ := hfb
        go_simp
        refine hK _ _ ⟨f, rfl, hMP _ q g3 A3 n3 c3 hA fb hq, (put_size (W := W) ▸ hzW), .inr (.inl ⟨hall2, ⟨q, A3, n3, c3, z0, put_new fb sl, A4, n4, c4, e4⟩, hE2, ?_⟩)⟩
        rw [getD_set_ne (by omega)]
        cases hx : L.getD 9 false with
        | false => rfl
        | true =>
          have h9 := hc 9 8 p9_8 (by rw [getD_lt (c := false) (by omega)]; exact hx) (by omega)
          rw [getD_lt (c := true) (by omega), hl] at h9; cases h9
      · exact (no2 hall (by omega) (by omega)).elim
      · exact (no hall (by omega)).elim
    | 9, _ =>
      have e := o9
      unfold opIs at e
      rw [ho] at e
      simp only [Option.map_some, Option.some.injEq, Prod.mk.injEq] at e
      obtain ⟨rfl, rfl, rfl⟩ := e
      have hdp := hd 8 p9_8
      rcases hI with ⟨hs, hF⟩ | ⟨hall, hP, hE, hno⟩ | ⟨hall, _⟩
      · rw [hs] at hdp; cases hdp
      · have hlt := hd 6 p9_6
        have hall : ∀ q, q < 9 → L.getD q false = true := fun q hq => by
          by_cases h : q = 6
          · subst h; exact hlt
          · exact hall q hq h
        obtain ⟨q, A3, n3, c3, z0, ob, _⟩ := hP
        have e1 := hE hlt
        have hall2 : ∀ j, j < 10 → (L.setIfInBounds 9 true).getD j false = true := fun j hj => by
          by_cases h : j = 9
          · subst h; exact getD_set_self (by omega)
          · exact getD_set_of (hall j (by omega))
        refine wpOp_step ho (fun K hK => ?_)
        rw [if_pos (wanted_none rfl)]
        have x1 : (patch t [40, 41, 42, 43, 39, 44, 45, 12, 13] f).getD 45 undef = .bool true := (patch_get (by omega) (by decide)).trans e1
        go_simp
        refine hK _ _ ⟨upd f 13 (.bool true), by rw [patch_set (by decide)], hA, hzW, .inr (.inr (⟨hall2, ⟨q, A3, n3, c3, z0, ob, rfl⟩⟩))⟩
      · exact (no hall (by omega)).elim
  · rintro L a W hL ⟨f, rfl, hA, _, h⟩
    rcases h with ⟨h, _⟩ | ⟨_, _, _, h⟩ | ⟨_, h⟩
    · rw [hL 8 (by omega)] at h; cases h
    · rw [hL 9 (by omega)] at h; cases h
    · exact hQ f W hA h
def dg7Fact (_z : Nat) (A1 : Option Addr) (n1 c1 : Nat) (d : Nat) (tx : List UInt8) (j : Nat) (u : Value) (W : World) : Prop := match j with
  | 0 => u = .agg #[.bool false, .slice A1 n1 c1]
  | 1 => u = .string ⟨tx.toArray⟩
  | 2 => u = .int .i64 (d : Int)
  | 3 => u = .int .i64 (48 + (d : Int))
  | 4 => u = .int .u8 (48 + (d : Int))
  | 5 => HoldsY u W (48 + (d : Int))
  | 6 => u = .string ⟨[db d].toArray⟩
  | 7 => u = .string ⟨(tx ++ [db d]).toArray⟩
  | _ => True
def dg7Slot (j : Nat) : Nat := match j with
  | 0 => 46
  | 1 => 47
  | 2 => 48
  | 3 => 49
  | 4 => 50
  | 5 => 51
  | 6 => 52
  | 7 => 53
  | _ => 0
theorem dg7_via {z : Nat} {A1 : Option Addr} {n1 c1 : Nat} {d : Nat} {tx : List UInt8} {j : Nat} {u : Value} {W W1 : World} (h : dg7Fact z A1 n1 c1 d tx j u W) (hb : Below W.heap.size W W1) : dg7Fact z A1 n1 c1 d tx j u W1 := by
  unfold dg7Fact at h ⊢
  split <;> first | exact h | exact HoldsN.via h hb | exact HoldsT.via h hb | exact HoldsB.via h hb | exact HoldsY.via h hb | trivial | fail "no"
theorem dg7_inj : ∀ x, x < 8 → ∀ y, y < 8 → x ≠ y → dg7Slot x ≠ dg7Slot y := by decide
theorem dg7_upd {z : Nat} {A1 : Option Addr} {n1 c1 : Nat} {d : Nat} {tx : List UInt8} {f : Nat → Value} {L : Array Bool} {i : Nat} {v : Value} {W W1 : World} (hi : i < 8) (hF : ∀ j, j < 8 → L.getD j false = true → dg7Fact z A1 n1 c1 d tx j (f (dg7Slot j)) W) (hb : Below W.heap.size W W1) (hv : dg7Fact z A1 n1 c1 d tx i v W1) :
    ∀ j, j < 8 → (L.setIfInBounds i true).getD j false = true → dg7Fact z A1 n1 c1 d tx j (upd f (dg7Slot i) v (dg7Slot j)) W1 := by
  intro j hj h
  by_cases hji : j = i
  · subst hji; rw [upd_same]; exact hv
  · rw [upd_other (dg7_inj j hj i hi hji)]
    rcases getD_set h with h | h
    · exact absurd h hji
    · exact dg7_via (hF j hj h) hb
def dg7Ph1 (d : Nat) (tx : List UInt8) (f : Nat → Value) (_W : World) : Prop := f 14 = .string ⟨(tx ++ [db d]).toArray⟩
def dg7Inv (MM : World → Prop) (t : Array Value) (df : List Deferred) (z : Nat) (A1 : Option Addr) (n1 c1 : Nat) (d : Nat) (tx : List UInt8) (L : Array Bool) (a : Act) (W : World) : Prop :=
  ∃ f, a = ⟨patch t [46, 47, 48, 49, 50, 51, 52, 53, 14] f, df⟩ ∧ MM W ∧ z + 1 ≤ W.heap.size ∧
    ((L.getD 8 false = false ∧ (∀ j, j < 8 → L.getD j false = true → dg7Fact z A1 n1 c1 d tx j (f (dg7Slot j)) W)) ∨ ((∀ j, j < 9 → L.getD j false = true) ∧ dg7Ph1 d tx f W))
set_option maxRecDepth 100000 in
set_option maxHeartbeats 4000000 in
theorem dg7_region {ops : Array Oper} {Q : Exit → Act → World → Prop} {id : Nat} (MM : World → Prop) (t : Array Value) (df : List Deferred) (W : World) (z : Nat) (A1 : Option Addr) (n1 c1 : Nat) (d : Nat) (tx : List UInt8)
    (hsz : ops.size = 9) (hback : backB ops = true) (hts : 53 < t.size) (hz : z + 1 ≤ W.heap.size)
    (hM0 : MM W.drew) (hMV : ∀ W W1, MM W → Below W.heap.size W W1 → MM W1)
    (qb v1 : Nat)
    (hdd : d < 10)
    (hll : tx.length < 1000)
    (hpb : t.getD 9 undef = .pointer (some ⟨qb, 0, none⟩))
    (hOB : ∀ W, MM W → OB W qb false A1 n1 c1 v1)
    (hx2 : t.getD 8 undef = .int .i64 (d : Int))
    (hTx : ∀ W, MM W → Calls Tryd.prog 12 #[.agg #[.bool false, .slice A1 n1 c1]] W fun e w1 => e = .returned (.string ⟨tx.toArray⟩) ∧ Below W.heap.size W w1)
    (o0 : opIs ops 0 (some 46) (.load 25 (.tmp 9)))
    (o1 : opIs ops 1 (some 47) (.call { callee := .value (.func 12), args := #[.tmp 46], argTypes := #[25] }))
    (o2 : opIs ops 2 (some 48) (.move (.tmp 8)))
    (o3 : opIs ops 3 (some 49) (.binOp .add 3 (.const (.int .i64 48)) (.tmp 48) 3))
    (o4 : opIs ops 4 (some 50) (.convert 3 5 (.tmp 49)))
    (o5 : opIs ops 5 (some 51) (.buildSlice 48 1 #[(0, .tmp 50)]))
    (o6 : opIs ops 6 (some 52) (.convert 48 9 (.tmp 51)))
    (o7 : opIs ops 7 (some 53) (.binOp .add 9 (.tmp 47) (.tmp 52) 9))
    (o8 : opIs ops 8 (some 14) (.assign (.tmp 53)))
    (p1_0 : depB ops 1 0 = true)
    (p3_2 : depB ops 3 2 = true)
    (p4_3 : depB ops 4 3 = true)
    (p5_4 : depB ops 5 4 = true)
    (p6_5 : depB ops 6 5 = true)
    (p7_1 : depB ops 7 1 = true)
    (p7_6 : depB ops 7 6 = true)
    (p8_7 : depB ops 8 7 = true)
    (hQ : ∀ f W, MM W → dg7Ph1 d tx f W → Q .normal ⟨patch t [46, 47, 48, 49, 50, 51, 52, 53, 14] f, df⟩ W) : (Code.region id ops true).wp Tryd.prog Q ⟨t, df⟩ W := by
  refine wp_region_inv (by kernel_rfl) hback (dg7Inv MM t df z A1 n1 c1 d tx) ?_ ?_ ?_
  · refine ⟨_, congrArg (fun x => (⟨x, df⟩ : Act)) (patch_start t [46, 47, 48, 49, 50, 51, 52, 53, 14]).symm, hM0, hz, .inl ⟨by simp [Array.getD, hsz], fun j _ h => ?_⟩⟩
    simp [Array.getD] at h
  · rintro L a W i o ho hzz hc hl hd ⟨f, rfl, hA, hzW, hI⟩
    have hi : i < 9 := by have := (Array.getElem?_eq_some_iff.1 ho).1; omega
    have no : ∀ {n : Nat}, (∀ j, j < n → L.getD j false = true) → i < n → False := fun h h2 => by
      have h3 := h i h2
      rw [getD_lt (c := true) (by omega), hl] at h3; cases h3
    obtain ⟨dst, op, ty, pos, after, guard⟩ := o
    match i, hi with
    | 0, _ =>
      have e := o0
      unfold opIs at e
      rw [ho] at e
      simp only [Option.map_some, Option.some.injEq, Prod.mk.injEq] at e
      obtain ⟨rfl, rfl, rfl⟩ := e
      rcases hI with ⟨hs, hF⟩ | ⟨hall, _⟩
      · refine wpOp_step ho (fun K hK => ?_)
        rw [if_pos (wanted_none rfl)]
        have x9 : (patch t [46, 47, 48, 49, 50, 51, 52, 53, 14] f).getD 9 undef = .pointer (some ⟨qb, 0, none⟩) := (patch_out (by decide)).trans hpb
        obtain ⟨w1, w2, _, _⟩ := hOB W hA
        go_simp
        refine hK _ _ ⟨upd f 46 (.agg #[.bool false, .slice A1 n1 c1]), by rw [patch_set (by decide)], hA, hzW, .inl ⟨?_, dg7_upd (i := 0) (by omega) hF (Below.refl _ _) rfl⟩⟩
        rw [getD_set_ne (by omega)]; exact hs
      · exact (no hall (by omega)).elim
    | 1, _ =>
      have e := o1
      unfold opIs at e
      rw [ho] at e
      simp only [Option.map_some, Option.some.injEq, Prod.mk.injEq] at e
      obtain ⟨rfl, rfl, rfl⟩ := e
      rcases hI with ⟨hs, hF⟩ | ⟨hall, _⟩
      · refine wpOp_step ho (fun K hK => ?_)
        rw [if_pos (wanted_none rfl)]
        have x0 : (patch t [46, 47, 48, 49, 50, 51, 52, 53, 14] f).getD 46 undef = .agg #[.bool false, .slice A1 n1 c1] := (patch_get (by omega) (by decide)).trans (hF 0 (by omega) (hd 0 p1_0))
        go_simp
        refine (hTx W hA).mono ?_
        rintro e w1 ⟨rfl, hb⟩
        refine hK _ _ ⟨upd f 47 (.string ⟨tx.toArray⟩), by rw [patch_set (by decide)], hMV _ _ hA hb, (Nat.le_trans hzW hb.size), .inl ⟨?_, dg7_upd (i := 1) (by omega) hF hb rfl⟩⟩
        rw [getD_set_ne (by omega)]; exact hs
      · exact (no hall (by omega)).elim
    | 2, _ =>
      have e := o2
      unfold opIs at e
      rw [ho] at e
      simp only [Option.map_some, Option.some.injEq, Prod.mk.injEq] at e
      obtain ⟨rfl, rfl, rfl⟩ := e
      rcases hI with ⟨hs, hF⟩ | ⟨hall, _⟩
      · refine wpOp_step ho (fun K hK => ?_)
        rw [if_pos (wanted_none rfl)]
        have x9 : (patch t [46, 47, 48, 49, 50, 51, 52, 53, 14] f).getD 8 undef = .int .i64 (d : Int) := (patch_out (by decide)).trans hx2
        go_simp
        refine hK _ _ ⟨upd f 48 (.int .i64 (d : Int)), by rw [patch_set (by decide)], hA, hzW, .inl ⟨?_, dg7_upd (i := 2) (by omega) hF (Below.refl _ _) rfl⟩⟩
        rw [getD_set_ne (by omega)]; exact hs
      · exact (no hall (by omega)).elim
    | 3, _ =>
      have e := o3
      unfold opIs at e
      rw [ho] at e
      simp only [Option.map_some, Option.some.injEq, Prod.mk.injEq] at e
      obtain ⟨rfl, rfl, rfl⟩ := e
      rcases hI with ⟨hs, hF⟩ | ⟨hall, _⟩
      · refine wpOp_step ho (fun K hK => ?_)
        rw [if_pos (wanted_none rfl)]
        have x2 : (patch t [46, 47, 48, 49, 50, 51, 52, 53, 14] f).getD 48 undef = .int .i64 (d : Int) := (patch_get (by omega) (by decide)).trans (hF 2 (by omega) (hd 2 p3_2))
        go_simp
        rw [show IntKind.i64.wrap (48 + (d : Int)) = 48 + (d : Int) by unfold IntKind.wrap; simp [IntKind.bits, IntKind.signed]; omega]
        refine hK _ _ ⟨upd f 49 (.int .i64 (48 + (d : Int))), by rw [patch_set (by decide)], hA, hzW, .inl ⟨?_, dg7_upd (i := 3) (by omega) hF (Below.refl _ _) rfl⟩⟩
        rw [getD_set_ne (by omega)]; exact hs
      · exact (no hall (by omega)).elim
    | 4, _ =>
      have e := o4
      unfold opIs at e
      rw [ho] at e
      simp only [Option.map_some, Option.some.injEq, Prod.mk.injEq] at e
      obtain ⟨rfl, rfl, rfl⟩ := e
      rcases hI with ⟨hs, hF⟩ | ⟨hall, _⟩
      · refine wpOp_step ho (fun K hK => ?_)
        rw [if_pos (wanted_none rfl)]
        have x3 : (patch t [46, 47, 48, 49, 50, 51, 52, 53, 14] f).getD 49 undef = .int .i64 (48 + (d : Int)) := (patch_get (by omega) (by decide)).trans (hF 3 (by omega) (hd 3 p4_3))
        go_simp
        rw [show IntKind.u8.wrap (48 + (d : Int)) = 48 + (d : Int) by unfold IntKind.wrap; simp [IntKind.bits, IntKind.signed]; omega]
        refine hK _ _ ⟨upd f 50 (.int .u8 (48 + (d : Int))), by rw [patch_set (by decide)], hA, hzW, .inl ⟨?_, dg7_upd (i := 4) (by omega) hF (Below.refl _ _) rfl⟩⟩
        rw [getD_set_ne (by omega)]; exact hs
      · exact (no hall (by omega)).elim
    | 5, _ =>
      have e := o5
      unfold opIs at e
      rw [ho] at e
      simp only [Option.map_some, Option.some.injEq, Prod.mk.injEq] at e
      obtain ⟨rfl, rfl, rfl⟩ := e
      rcases hI with ⟨hs, hF⟩ | ⟨hall, _⟩
      · refine wpOp_step ho (fun K hK => ?_)
        rw [if_pos (wanted_none rfl)]
        have x4 : (patch t [46, 47, 48, 49, 50, 51, 52, 53, 14] f).getD 50 undef = .int .u8 (48 + (d : Int)) := (patch_get (by omega) (by decide)).trans (hF 4 (by omega) (hd 4 p5_4))
        rw [Array.getD_eq_getD_getElem?] at x4
        go_simp
        have hb : Below W.heap.size W (W.alloc (.cells #[.int .u8 (48 + (d : Int))] 5)) := (Below.refl _ _).alloc (Nat.le_refl _) _
        refine hK _ _ ⟨upd f 51 (.slice (some ⟨W.heap.size, 0, none⟩) 1 1), by rw [patch_set (by decide)], hMV _ _ hA hb, (Nat.le_trans hzW hb.size), .inl ⟨?_, dg7_upd (i := 5) (by omega) hF hb ⟨W.heap.size, rfl, by simp [go_sem], by simp⟩⟩⟩
        rw [getD_set_ne (by omega)]; exact hs
      · exact (no hall (by omega)).elim
    | 6, _ =>
      have e := o6
      unfold opIs at e
      rw [ho] at e
      simp only [Option.map_some, Option.some.injEq, Prod.mk.injEq] at e
      obtain ⟨rfl, rfl, rfl⟩ := e
      rcases hI with ⟨hs, hF⟩ | ⟨hall, _⟩
      · refine wpOp_step ho (fun K hK => ?_)
        rw [if_pos (wanted_none rfl)]
        have y5 : HoldsY (f 51) W (48 + (d : Int)) := hF 5 (by omega) (hd 5 p6_5)
        obtain ⟨q, e2, hs2, hs3⟩ := y5
        have x8 : (patch t [46, 47, 48, 49, 50, 51, 52, 53, 14] f).getD 51 undef = .slice (some ⟨q, 0, none⟩) 1 1 := (patch_get (by omega) (by decide)).trans e2
        have hcv : (convert 48 9 (.slice (some ⟨q, 0, none⟩) 1 1)).run Tryd.prog W = .ok (.string ⟨#[db d]⟩) W := Go.Lib.run_convert_whole W 48 5 9 (by kernel_rfl) (by kernel_rfl) (by kernel_rfl) q 0 ⟨#[db d]⟩ (fun i hi => by obtain rfl : i = 0 := (by have h5 : i < 1 := hi; omega); exact hs2.trans (show some (Value.int .u8 (48 + (d : Int))) = some (Value.int .u8 (((db d).toNat : Nat) : Int)) by rw [db_toNat hdd]; rfl)) 1
        go_simp
        refine hK _ _ ⟨upd f 52 (.string ⟨[db d].toArray⟩), by rw [patch_set (by decide)], hA, hzW, .inl ⟨?_, dg7_upd (i := 6) (by omega) hF (Below.refl _ _) rfl⟩⟩
        rw [getD_set_ne (by omega)]; exact hs
      · exact (no hall (by omega)).elim
    | 7, _ =>
      have e := o7
      unfold opIs at e
      rw [ho] at e
      simp only [Option.map_some, Option.some.injEq, Prod.mk.injEq] at e
      obtain ⟨rfl, rfl, rfl⟩ := e
      rcases hI with ⟨hs, hF⟩ | ⟨hall, _⟩
      · refine wpOp_step ho (fun K hK => ?_)
        rw [if_pos (wanted_none rfl)]
        have x1 : (patch t [46, 47, 48, 49, 50, 51, 52, 53, 14] f).getD 47 undef = .string ⟨tx.toArray⟩ := (patch_get (by omega) (by decide)).trans (hF 1 (by omega) (hd 1 p7_1))
        have x6 : (patch t [46, 47, 48, 49, 50, 51, 52, 53, 14] f).getD 52 undef = .string ⟨[db d].toArray⟩ := (patch_get (by omega) (by decide)).trans (hF 6 (by omega) (hd 6 p7_6))
        go_simp
        rw [if_neg (by omega), bapp]
        go_simp
        refine hK _ _ ⟨upd f 53 (.string ⟨(tx ++ [db d]).toArray⟩), by rw [patch_set (by decide)], hA, hzW, .inl ⟨?_, dg7_upd (i := 7) (by omega) hF (Below.refl _ _) rfl⟩⟩
        rw [getD_set_ne (by omega)]; exact hs
      · exact (no hall (by omega)).elim
    | 8, _ =>
      have e := o8
      unfold opIs at e
      rw [ho] at e
      simp only [Option.map_some, Option.some.injEq, Prod.mk.injEq] at e
      obtain ⟨rfl, rfl, rfl⟩ := e
      rcases hI with ⟨hs, hF⟩ | ⟨hall, _⟩
      · have hall : ∀ j, j < 8 → L.getD j false = true := by
          have v7 := hd 7 p8_7
          have v1 := hc 7 1 p7_1 (by rw [getD_lt (c := false) (by omega)]; exact v7) (by omega)
          have v6 := hc 7 6 p7_6 (by rw [getD_lt (c := false) (by omega)]; exact v7) (by omega)
          have v5 := hc 6 5 p6_5 (by rw [getD_lt (c := false) (by omega)]; exact v6) (by omega)
          have v4 := hc 5 4 p5_4 (by rw [getD_lt (c := false) (by omega)]; exact v5) (by omega)
          have v3 := hc 4 3 p4_3 (by rw [getD_lt (c := false) (by omega)]; exact v4) (by omega)
          have v2 := hc 3 2 p3_2 (by rw [getD_lt (c := false) (by omega)]; exact v3) (by omega)
          have v0 := hc 1 0 p1_0 (by rw [getD_lt (c := false) (by omega)]; exact v1) (by omega)
          intro j hj
          match j, hj with
          | 0, _ => exact v0
          | 1, _ => exact v1
          | 2, _ => exact v2
          | 3, _ => exact v3
          | 4, _ => exact v4
          | 5, _ => exact v5
          | 6, _ => exact v6
          | 7, _ => exact v7
        have e1 : f 53 = .string ⟨(tx ++ [db d]).toArray⟩ := hF 7 (by omega) (hall 7 (by omega))
        have hall2 : ∀ j, j < 9 → (L.setIfInBounds 8 true).getD j false = true := fun j hj => by
          by_cases h : j = 8
          · subst h; exact getD_set_self (by omega)
          · exact getD_set_of (hall j (by omega))
        refine wpOp_step ho (fun K hK => ?_)
        rw [if_pos (wanted_none rfl)]
        have x1 : (patch t [46, 47, 48, 49, 50, 51, 52, 53, 14] f).getD 53 undef = .string ⟨(tx ++ [db d]).toArray⟩ := (patch_get (by omega) (by decide)).trans e1
        go_simp
        refine hK _ _ ⟨upd f 14 (.string ⟨(tx ++ [db d]).toArray⟩), by rw [patch_set (by decide)], hA, hzW, .inr (⟨hall2, upd_same _ _ _⟩)⟩
      · exact (no hall (by omega)).elim
  · rintro L a W hL ⟨f, rfl, hA, _, h⟩
    rcases h with ⟨h, _⟩ | ⟨_, h⟩
    · rw [hL 8 (by omega)] at h; cases h
    · exact hQ f W hA h
/-- What an operation is, with its guard. -/
def opIsG (ops : Array Oper) (i : Nat) (dst : Option Nat) (op : Op) (g : Option (Nat × Bool)) : Prop := (ops[i]?).map (fun o => (o.dst, o.op, o.guard)) = some (dst, op, g)
theorem yielded_of {ops : Array Oper} {i d : Nat} {op : Op} {g : Option (Nat × Bool)} {tmps : Array Value} {b : Bool} (h : opIsG ops i (some d) op g) (ht : tmps.getD d undef = .bool b) (hlt : d < tmps.size) : yielded ops tmps i = some b := by
  unfold opIsG at h
  cases ho : ops[i]? with
  | none => rw [ho] at h; cases h
  | some o =>
    rw [ho] at h
    simp only [Option.map_some, Option.some.injEq, Prod.mk.injEq] at h
    unfold yielded
    rw [ho, Option.bind_some, h.1, Option.bind_some]
    rw [Array.getD_eq_getD_getElem?, Array.getElem?_eq_getElem hlt, Option.getD_some] at ht
    rw [Array.getElem?_eq_getElem hlt, ht]
theorem wanted_yes {o : Oper} {y : Nat → Option Bool} {i : Nat} {b : Bool} (h : o.guard = some (i, b)) (hy : y i = some b) : Region.wanted o y = true := by
  unfold Region.wanted; rw [h]; simp [hy]
theorem wanted_no {o : Oper} {y : Nat → Option Bool} {i : Nat} {b c : Bool} (h : o.guard = some (i, b)) (hy : y i = some c) (hc : c ≠ b) : ¬ Region.wanted o y = true := by
  unfold Region.wanted; rw [h]; simp [hy, hc]
theorem bcons (t : List UInt8) : (⟨#[45]⟩ : ByteArray) ++ (⟨t.toArray⟩ : ByteArray) = ⟨(45 :: t).toArray⟩ := bapp [45] t
theorem patch_size {t : Array Value} {S : List Nat} {f : Nat → Value} : (patch t S f).size = t.size := by simp [patch]

def dg11Fact (A0 : Option Addr) (n0 c0 : Nat) (An : Option Addr) (nn cn : Nat) (Ak : Option Addr) (nk ck : Nat) (tn : List UInt8) (q0 : Nat) (j : Nat) (u : Value) (_W : World) : Prop := match j with
  | 0 => u = .bool true
  | 1 => u = .bool false
  | 2 => u = .bool false
  | 3 => u = .bool true
  | 4 => u = .bool false
  | 5 => u = .bool false
  | 6 => u = .bool false
  | 7 => u = .bool true
  | 8 => u = .bool false
  | 9 => u = .bool false
  | 10 => u = .bool false
  | 11 => u = .agg #[.bool false, .slice An nn cn]
  | 12 => u = .string ⟨tn.toArray⟩
  | 13 => u = .string ⟨tn.toArray⟩
  | 14 => u = .bool false
  | 15 => u = .bool false
  | 16 => u = .bool false
  | 17 => u = .agg #[.bool false, .slice Ak nk ck]
  | 18 => u = .agg #[.bool false, .slice A0 n0 c0]
  | 19 => u = .bool true
  | 20 => u = .bool false
  | 21 => u = .bool false
  | 22 => u = .bool false
  | 23 => u = .pointer (some ⟨q0, 0, none⟩)
  | 24 => u = .bool false
  | 25 => u = .bool false
  | 26 => True
  | 27 => True
  | 28 => True
  | 29 => True
  | 30 => True
  | 31 => True
  | 32 => u = .bool false
  | 33 => u = .bool false
  | _ => True
def dg11Slot (j : Nat) : Nat := match j with
  | 0 => 69
  | 1 => 70
  | 2 => 71
  | 3 => 72
  | 4 => 73
  | 5 => 74
  | 6 => 75
  | 7 => 76
  | 8 => 77
  | 9 => 78
  | 10 => 79
  | 11 => 80
  | 12 => 81
  | 13 => 82
  | 14 => 83
  | 15 => 84
  | 16 => 85
  | 17 => 86
  | 18 => 87
  | 19 => 88
  | 20 => 89
  | 21 => 90
  | 22 => 91
  | 23 => 92
  | 24 => 93
  | 25 => 94
  | 26 => 95
  | 27 => 96
  | 28 => 97
  | 29 => 98
  | 30 => 99
  | 31 => 100
  | 32 => 101
  | 33 => 102
  | _ => 0
theorem dg11_via {A0 : Option Addr} {n0 c0 : Nat} {An : Option Addr} {nn cn : Nat} {Ak : Option Addr} {nk ck : Nat} {tn : List UInt8} {q0 : Nat} {j : Nat} {u : Value} {W W1 : World} (h : dg11Fact A0 n0 c0 An nn cn Ak nk ck tn q0 j u W) (_hb : Below W.heap.size W W1) : dg11Fact A0 n0 c0 An nn cn Ak nk ck tn q0 j u W1 := by
  unfold dg11Fact at h ⊢
  split <;> first | exact h | exact HoldsN.via h _hb | trivial | fail "no"
theorem dg11_inj : ∀ x, x < 34 → ∀ y, y < 34 → x ≠ y → dg11Slot x ≠ dg11Slot y := by decide
theorem dg11_upd {A0 : Option Addr} {n0 c0 : Nat} {An : Option Addr} {nn cn : Nat} {Ak : Option Addr} {nk ck : Nat} {tn : List UInt8} {q0 : Nat} {f : Nat → Value} {L : Array Bool} {i : Nat} {v : Value} {W W1 : World} (hi : i < 34) (hF : ∀ j, j < 34 → L.getD j false = true → dg11Fact A0 n0 c0 An nn cn Ak nk ck tn q0 j (f (dg11Slot j)) W) (hb : Below W.heap.size W W1) (hv : dg11Fact A0 n0 c0 An nn cn Ak nk ck tn q0 i v W1) :
    ∀ j, j < 34 → (L.setIfInBounds i true).getD j false = true → dg11Fact A0 n0 c0 An nn cn Ak nk ck tn q0 j (upd f (dg11Slot i) v (dg11Slot j)) W1 := by
  intro j hj h
  by_cases hji : j = i
  · subst hji; rw [upd_same]; exact hv
  · rw [upd_other (dg11_inj j hj i hi hji)]
    rcases getD_set h with h | h
    · exact absurd h hji
    · exact dg11_via (hF j hj h) hb
def dg11Inv (MM : World → Prop) (t : Array Value) (df : List Deferred) (A0 : Option Addr) (n0 c0 : Nat) (An : Option Addr) (nn cn : Nat) (Ak : Option Addr) (nk ck : Nat) (tn : List UInt8) (q0 : Nat) (L : Array Bool) (a : Act) (W : World) : Prop :=
  ∃ f, a = ⟨patch t [69, 70, 71, 72, 73, 74, 75, 76, 77, 78, 79, 80, 81, 82, 83, 84, 85, 86, 87, 88, 89, 90, 91, 92, 93, 94, 95, 96, 97, 98, 99, 100, 101, 102] f, df⟩ ∧ MM W ∧ (∀ j, j < 34 → L.getD j false = true → dg11Fact A0 n0 c0 An nn cn Ak nk ck tn q0 j (f (dg11Slot j)) W)
set_option maxRecDepth 100000 in
set_option maxHeartbeats 4000000 in
theorem dg11_region {ops : Array Oper} {Q : Exit → Act → World → Prop} {id : Nat} (MM : World → Prop) (t : Array Value) (df : List Deferred) (W : World) (A0 : Option Addr) (n0 c0 : Nat) (An : Option Addr) (nn cn : Nat) (Ak : Option Addr) (nk ck : Nat) (tn : List UInt8) (q0 : Nat)
    (hsz : ops.size = 34) (hback : backB ops = true) (hts : 102 < t.size)
    (hM0 : MM W.drew) (hMV : ∀ W W1, MM W → Below W.heap.size W W1 → MM W1)
    (h11 : t.getD 11 undef = .bool true)
    (h13 : t.getD 13 undef = .bool true)
    (h16 : t.getD 16 undef = .bool true)
    (h14 : t.getD 14 undef = .string ⟨tn.toArray⟩)
    (qn qk : Nat)
    (hp12 : t.getD 12 undef = .pointer (some ⟨qn, 0, none⟩))
    (hp15 : t.getD 15 undef = .pointer (some ⟨qk, 0, none⟩))
    (hp6 : t.getD 6 undef = .pointer (some ⟨q0, 0, none⟩))
    (hn : ∀ W, MM W → W.cell? ⟨qn, 0, none⟩ = some (.bool false) ∧ W.cell? ⟨qn, 1, none⟩ = some (.slice An nn cn))
    (hk : ∀ W, MM W → W.cell? ⟨qk, 0, none⟩ = some (.bool false) ∧ W.cell? ⟨qk, 1, none⟩ = some (.slice Ak nk ck))
    (h0 : ∀ W, MM W → W.cell? ⟨q0, 0, none⟩ = some (.bool false) ∧ W.cell? ⟨q0, 1, none⟩ = some (.slice A0 n0 c0))
    (hTn : ∀ W, MM W → Calls Tryd.prog 12 #[.agg #[.bool false, .slice An nn cn]] W fun e w1 => e = .returned (.string ⟨tn.toArray⟩) ∧ Below W.heap.size W w1)
    (hSb : ∀ W, MM W → Calls Tryd.prog 15 #[.agg #[.bool false, .slice Ak nk ck], .agg #[.bool false, .slice A0 n0 c0]] W fun e w1 => e = .returned (.bool true) ∧ Below W.heap.size W w1)
    (o0 : opIsG ops 0 (some 69) (.move (.tmp 11)) none)
    (o1 : opIsG ops 1 (some 70) (.unOp .not 4 (.tmp 69)) none)
    (o2 : opIsG ops 2 (some 71) (.move (.tmp 70)) none)
    (o3 : opIsG ops 3 (some 72) (.move (.tmp 13)) (some (2, false)))
    (o4 : opIsG ops 4 (some 73) (.unOp .not 4 (.tmp 72)) (some (2, false)))
    (o5 : opIsG ops 5 (some 74) (.pick (.tmp 71) (.const (.bool true)) (.tmp 73)) none)
    (o6 : opIsG ops 6 (some 75) (.move (.tmp 74)) none)
    (o7 : opIsG ops 7 (some 76) (.move (.tmp 16)) (some (6, false)))
    (o8 : opIsG ops 8 (some 77) (.unOp .not 4 (.tmp 76)) (some (6, false)))
    (o9 : opIsG ops 9 (some 78) (.pick (.tmp 75) (.const (.bool true)) (.tmp 77)) none)
    (o10 : opIsG ops 10 (some 79) (.move (.tmp 78)) none)
    (o11 : opIsG ops 11 (some 80) (.load 25 (.tmp 12)) (some (10, false)))
    (o12 : opIsG ops 12 (some 81) (.call { callee := .value (.func 12), args := #[.tmp 80], argTypes := #[25] }) (some (10, false)))
    (o13 : opIsG ops 13 (some 82) (.move (.tmp 14)) (some (10, false)))
    (o14 : opIsG ops 14 (some 83) (.binOp .neq 9 (.tmp 81) (.tmp 82) 9) (some (10, false)))
    (o15 : opIsG ops 15 (some 84) (.pick (.tmp 79) (.const (.bool true)) (.tmp 83)) none)
    (o16 : opIsG ops 16 (some 85) (.move (.tmp 84)) none)
    (o17 : opIsG ops 17 (some 86) (.load 25 (.tmp 15)) (some (16, false)))
    (o18 : opIsG ops 18 (some 87) (.load 25 (.tmp 6)) (some (16, false)))
    (o19 : opIsG ops 19 (some 88) (.call { callee := .value (.func 15), args := #[.tmp 86, .tmp 87], argTypes := #[25, 25] }) (some (16, false)))
    (o20 : opIsG ops 20 (some 89) (.unOp .not 4 (.tmp 88)) (some (16, false)))
    (o21 : opIsG ops 21 (some 90) (.pick (.tmp 85) (.const (.bool true)) (.tmp 89)) none)
    (o22 : opIsG ops 22 (some 91) (.move (.tmp 90)) none)
    (o23 : opIsG ops 23 (some 92) (.fieldAddr 25 (.tmp 6) 0) (some (22, false)))
    (o24 : opIsG ops 24 (some 93) (.load 4 (.tmp 92)) (some (22, false)))
    (o25 : opIsG ops 25 (some 94) (.move (.tmp 93)) (some (22, false)))
    (o26 : opIsG ops 26 (some 95) (.load 25 (.tmp 6)) (some (25, true)))
    (o27 : opIsG ops 27 (some 96) (.call { callee := .value (.func 12), args := #[.tmp 95], argTypes := #[25] }) (some (25, true)))
    (o28 : opIsG ops 28 (some 97) (.load 25 (.tmp 9)) (some (25, true)))
    (o29 : opIsG ops 29 (some 98) (.call { callee := .value (.func 12), args := #[.tmp 97], argTypes := #[25] }) (some (25, true)))
    (o30 : opIsG ops 30 (some 99) (.binOp .add 9 (.const (.string ⟨#[45]⟩)) (.tmp 98) 9) (some (25, true)))
    (o31 : opIsG ops 31 (some 100) (.binOp .neq 9 (.tmp 96) (.tmp 99) 9) (some (25, true)))
    (o32 : opIsG ops 32 (some 101) (.pick (.tmp 94) (.tmp 100) (.const (.bool false))) (some (22, false)))
    (o33 : opIsG ops 33 (some 102) (.pick (.tmp 91) (.const (.bool true)) (.tmp 101)) none)
    (p1_0 : depB ops 1 0 = true)
    (p2_1 : depB ops 2 1 = true)
    (p3_2 : depB ops 3 2 = true)
    (p4_3 : depB ops 4 3 = true)
    (p4_2 : depB ops 4 2 = true)
    (p5_2 : depB ops 5 2 = true)
    (p5_4 : depB ops 5 4 = true)
    (p6_5 : depB ops 6 5 = true)
    (p7_6 : depB ops 7 6 = true)
    (p8_7 : depB ops 8 7 = true)
    (p8_6 : depB ops 8 6 = true)
    (p9_6 : depB ops 9 6 = true)
    (p9_8 : depB ops 9 8 = true)
    (p10_9 : depB ops 10 9 = true)
    (p11_10 : depB ops 11 10 = true)
    (p12_11 : depB ops 12 11 = true)
    (p12_10 : depB ops 12 10 = true)
    (p13_10 : depB ops 13 10 = true)
    (p14_12 : depB ops 14 12 = true)
    (p14_13 : depB ops 14 13 = true)
    (p14_10 : depB ops 14 10 = true)
    (p15_10 : depB ops 15 10 = true)
    (p15_14 : depB ops 15 14 = true)
    (p16_15 : depB ops 16 15 = true)
    (p17_16 : depB ops 17 16 = true)
    (p18_16 : depB ops 18 16 = true)
    (p19_17 : depB ops 19 17 = true)
    (p19_18 : depB ops 19 18 = true)
    (p19_16 : depB ops 19 16 = true)
    (p20_19 : depB ops 20 19 = true)
    (p20_16 : depB ops 20 16 = true)
    (p21_16 : depB ops 21 16 = true)
    (p21_20 : depB ops 21 20 = true)
    (p22_21 : depB ops 22 21 = true)
    (p23_22 : depB ops 23 22 = true)
    (p24_23 : depB ops 24 23 = true)
    (p24_22 : depB ops 24 22 = true)
    (p25_24 : depB ops 25 24 = true)
    (p25_22 : depB ops 25 22 = true)
    (p26_25 : depB ops 26 25 = true)
    (p27_25 : depB ops 27 25 = true)
    (p28_25 : depB ops 28 25 = true)
    (p29_25 : depB ops 29 25 = true)
    (p30_25 : depB ops 30 25 = true)
    (p31_25 : depB ops 31 25 = true)
    (p32_25 : depB ops 32 25 = true)
    (p32_22 : depB ops 32 22 = true)
    (p33_22 : depB ops 33 22 = true)
    (p33_32 : depB ops 33 32 = true)
    (hQ : ∀ f W, MM W → (f 102 = .bool false) → Q .normal ⟨patch t [69, 70, 71, 72, 73, 74, 75, 76, 77, 78, 79, 80, 81, 82, 83, 84, 85, 86, 87, 88, 89, 90, 91, 92, 93, 94, 95, 96, 97, 98, 99, 100, 101, 102] f, df⟩ W) : (Code.region id ops true).wp Tryd.prog Q ⟨t, df⟩ W := by
  refine wp_region_inv (by kernel_rfl) hback (dg11Inv MM t df A0 n0 c0 An nn cn Ak nk ck tn q0) ?_ ?_ ?_
  · refine ⟨_, congrArg (fun x => (⟨x, df⟩ : Act)) (patch_start t [69, 70, 71, 72, 73, 74, 75, 76, 77, 78, 79, 80, 81, 82, 83, 84, 85, 86, 87, 88, 89, 90, 91, 92, 93, 94, 95, 96, 97, 98, 99, 100, 101, 102]).symm, hM0, fun j _ h => ?_⟩
    simp [Array.getD] at h
  · rintro L a W i o ho hzz hc hl hd ⟨f, rfl, hA, hF⟩
    have hi : i < 34 := by have := (Array.getElem?_eq_some_iff.1 ho).1; omega
    obtain ⟨dst, op, ty, pos, after, guard⟩ := o
    match i, hi with
    | 0, _ =>
      have e := o0
      unfold opIsG at e
      rw [ho] at e
      simp only [Option.map_some, Option.some.injEq, Prod.mk.injEq] at e
      obtain ⟨rfl, rfl, rfl⟩ := e
      refine wpOp_step ho (fun K hK => ?_)
      rw [if_pos (wanted_none rfl)]
      have x9 : (patch t [69, 70, 71, 72, 73, 74, 75, 76, 77, 78, 79, 80, 81, 82, 83, 84, 85, 86, 87, 88, 89, 90, 91, 92, 93, 94, 95, 96, 97, 98, 99, 100, 101, 102] f).getD 11 undef = .bool true := (patch_out (by decide)).trans h11
      go_simp
      exact hK _ _ ⟨upd f 69 (.bool true), by rw [patch_set (by decide)], hA, dg11_upd (i := 0) (by omega) hF (Below.refl _ _) rfl⟩
    | 1, _ =>
      have e := o1
      unfold opIsG at e
      rw [ho] at e
      simp only [Option.map_some, Option.some.injEq, Prod.mk.injEq] at e
      obtain ⟨rfl, rfl, rfl⟩ := e
      refine wpOp_step ho (fun K hK => ?_)
      rw [if_pos (wanted_none rfl)]
      have x0 : (patch t [69, 70, 71, 72, 73, 74, 75, 76, 77, 78, 79, 80, 81, 82, 83, 84, 85, 86, 87, 88, 89, 90, 91, 92, 93, 94, 95, 96, 97, 98, 99, 100, 101, 102] f).getD 69 undef = .bool true := (patch_get (by omega) (by decide)).trans (hF 0 (by omega) (hd 0 p1_0))
      go_simp
      exact hK _ _ ⟨upd f 70 (.bool false), by rw [patch_set (by decide)], hA, dg11_upd (i := 1) (by omega) hF (Below.refl _ _) rfl⟩
    | 2, _ =>
      have e := o2
      unfold opIsG at e
      rw [ho] at e
      simp only [Option.map_some, Option.some.injEq, Prod.mk.injEq] at e
      obtain ⟨rfl, rfl, rfl⟩ := e
      refine wpOp_step ho (fun K hK => ?_)
      rw [if_pos (wanted_none rfl)]
      have x1 : (patch t [69, 70, 71, 72, 73, 74, 75, 76, 77, 78, 79, 80, 81, 82, 83, 84, 85, 86, 87, 88, 89, 90, 91, 92, 93, 94, 95, 96, 97, 98, 99, 100, 101, 102] f).getD 70 undef = .bool false := (patch_get (by omega) (by decide)).trans (hF 1 (by omega) (hd 1 p2_1))
      go_simp
      exact hK _ _ ⟨upd f 71 (.bool false), by rw [patch_set (by decide)], hA, dg11_upd (i := 2) (by omega) hF (Below.refl _ _) rfl⟩
    | 3, _ =>
      have e := o3
      unfold opIsG at e
      rw [ho] at e
      simp only [Option.map_some, Option.some.injEq, Prod.mk.injEq] at e
      obtain ⟨rfl, rfl, rfl⟩ := e
      refine wpOp_step ho (fun K hK => ?_)
      have yg : (patch t [69, 70, 71, 72, 73, 74, 75, 76, 77, 78, 79, 80, 81, 82, 83, 84, 85, 86, 87, 88, 89, 90, 91, 92, 93, 94, 95, 96, 97, 98, 99, 100, 101, 102] f).getD 71 undef = .bool false := (patch_get (by omega) (by decide)).trans (hF 2 (by omega) (hd 2 p3_2))
      rw [if_pos (wanted_yes rfl (yielded_of o2 yg (by rw [patch_size]; omega)))]
      have x9 : (patch t [69, 70, 71, 72, 73, 74, 75, 76, 77, 78, 79, 80, 81, 82, 83, 84, 85, 86, 87, 88, 89, 90, 91, 92, 93, 94, 95, 96, 97, 98, 99, 100, 101, 102] f).getD 13 undef = .bool true := (patch_out (by decide)).trans h13
      go_simp
      exact hK _ _ ⟨upd f 72 (.bool true), by rw [patch_set (by decide)], hA, dg11_upd (i := 3) (by omega) hF (Below.refl _ _) rfl⟩
    | 4, _ =>
      have e := o4
      unfold opIsG at e
      rw [ho] at e
      simp only [Option.map_some, Option.some.injEq, Prod.mk.injEq] at e
      obtain ⟨rfl, rfl, rfl⟩ := e
      refine wpOp_step ho (fun K hK => ?_)
      have yg : (patch t [69, 70, 71, 72, 73, 74, 75, 76, 77, 78, 79, 80, 81, 82, 83, 84, 85, 86, 87, 88, 89, 90, 91, 92, 93, 94, 95, 96, 97, 98, 99, 100, 101, 102] f).getD 71 undef = .bool false := (patch_get (by omega) (by decide)).trans (hF 2 (by omega) (hd 2 p4_2))
      rw [if_pos (wanted_yes rfl (yielded_of o2 yg (by rw [patch_size]; omega)))]
      have x3 : (patch t [69, 70, 71, 72, 73, 74, 75, 76, 77, 78, 79, 80, 81, 82, 83, 84, 85, 86, 87, 88, 89, 90, 91, 92, 93, 94, 95, 96, 97, 98, 99, 100, 101, 102] f).getD 72 undef = .bool true := (patch_get (by omega) (by decide)).trans (hF 3 (by omega) (hd 3 p4_3))
      go_simp
      exact hK _ _ ⟨upd f 73 (.bool false), by rw [patch_set (by decide)], hA, dg11_upd (i := 4) (by omega) hF (Below.refl _ _) rfl⟩
    | 5, _ =>
      have e := o5
      unfold opIsG at e
      rw [ho] at e
      simp only [Option.map_some, Option.some.injEq, Prod.mk.injEq] at e
      obtain ⟨rfl, rfl, rfl⟩ := e
      refine wpOp_step ho (fun K hK => ?_)
      rw [if_pos (wanted_none rfl)]
      have x2 : (patch t [69, 70, 71, 72, 73, 74, 75, 76, 77, 78, 79, 80, 81, 82, 83, 84, 85, 86, 87, 88, 89, 90, 91, 92, 93, 94, 95, 96, 97, 98, 99, 100, 101, 102] f).getD 71 undef = .bool false := (patch_get (by omega) (by decide)).trans (hF 2 (by omega) (hd 2 p5_2))
      have x4 : (patch t [69, 70, 71, 72, 73, 74, 75, 76, 77, 78, 79, 80, 81, 82, 83, 84, 85, 86, 87, 88, 89, 90, 91, 92, 93, 94, 95, 96, 97, 98, 99, 100, 101, 102] f).getD 73 undef = .bool false := (patch_get (by omega) (by decide)).trans (hF 4 (by omega) (hd 4 p5_4))
      go_simp
      exact hK _ _ ⟨upd f 74 (.bool false), by rw [patch_set (by decide)], hA, dg11_upd (i := 5) (by omega) hF (Below.refl _ _) rfl⟩
    | 6, _ =>
      have e := o6
      unfold opIsG at e
      rw [ho] at e
      simp only [Option.map_some, Option.some.injEq, Prod.mk.injEq] at e
      obtain ⟨rfl, rfl, rfl⟩ := e
      refine wpOp_step ho (fun K hK => ?_)
      rw [if_pos (wanted_none rfl)]
      have x5 : (patch t [69, 70, 71, 72, 73, 74, 75, 76, 77, 78, 79, 80, 81, 82, 83, 84, 85, 86, 87, 88, 89, 90, 91, 92, 93, 94, 95, 96, 97, 98, 99, 100, 101, 102] f).getD 74 undef = .bool false := (patch_get (by omega) (by decide)).trans (hF 5 (by omega) (hd 5 p6_5))
      go_simp
      exact hK _ _ ⟨upd f 75 (.bool false), by rw [patch_set (by decide)], hA, dg11_upd (i := 6) (by omega) hF (Below.refl _ _) rfl⟩
    | 7, _ =>
      have e := o7
      unfold opIsG at e
      rw [ho] at e
      simp only [Option.map_some, Option.some.injEq, Prod.mk.injEq] at e
      obtain ⟨rfl, rfl, rfl⟩ := e
      refine wpOp_step ho (fun K hK => ?_)
      have yg : (patch t [69, 70, 71, 72, 73, 74, 75, 76, 77, 78, 79, 80, 81, 82, 83, 84, 85, 86, 87, 88, 89, 90, 91, 92, 93, 94, 95, 96, 97, 98, 99, 100, 101, 102] f).getD 75 undef = .bool false := (patch_get (by omega) (by decide)).trans (hF 6 (by omega) (hd 6 p7_6))
      rw [if_pos (wanted_yes rfl (yielded_of o6 yg (by rw [patch_size]; omega)))]
      have x9 : (patch t [69, 70, 71, 72, 73, 74, 75, 76, 77, 78, 79, 80, 81, 82, 83, 84, 85, 86, 87, 88, 89, 90, 91, 92, 93, 94, 95, 96, 97, 98, 99, 100, 101, 102] f).getD 16 undef = .bool true := (patch_out (by decide)).trans h16
      go_simp
      exact hK _ _ ⟨upd f 76 (.bool true), by rw [patch_set (by decide)], hA, dg11_upd (i := 7) (by omega) hF (Below.refl _ _) rfl⟩
    | 8, _ =>
      have e := o8
      unfold opIsG at e
      rw [ho] at e
      simp only [Option.map_some, Option.some.injEq, Prod.mk.injEq] at e
      obtain ⟨rfl, rfl, rfl⟩ := e
      refine wpOp_step ho (fun K hK => ?_)
      have yg : (patch t [69, 70, 71, 72, 73, 74, 75, 76, 77, 78, 79, 80, 81, 82, 83, 84, 85, 86, 87, 88, 89, 90, 91, 92, 93, 94, 95, 96, 97, 98, 99, 100, 101, 102] f).getD 75 undef = .bool false := (patch_get (by omega) (by decide)).trans (hF 6 (by omega) (hd 6 p8_6))
      rw [if_pos (wanted_yes rfl (yielded_of o6 yg (by rw [patch_size]; omega)))]
      have x7 : (patch t [69, 70, 71, 72, 73, 74, 75, 76, 77, 78, 79, 80, 81, 82, 83, 84, 85, 86, 87, 88, 89, 90, 91, 92, 93, 94, 95, 96, 97, 98, 99, 100, 101, 102] f).getD 76 undef = .bool true := (patch_get (by omega) (by decide)).trans (hF 7 (by omega) (hd 7 p8_7))
      go_simp
      exact hK _ _ ⟨upd f 77 (.bool false), by rw [patch_set (by decide)], hA, dg11_upd (i := 8) (by omega) hF (Below.refl _ _) rfl⟩
    | 9, _ =>
      have e := o9
      unfold opIsG at e
      rw [ho] at e
      simp only [Option.map_some, Option.some.injEq, Prod.mk.injEq] at e
      obtain ⟨rfl, rfl, rfl⟩ := e
      refine wpOp_step ho (fun K hK => ?_)
      rw [if_pos (wanted_none rfl)]
      have x6 : (patch t [69, 70, 71, 72, 73, 74, 75, 76, 77, 78, 79, 80, 81, 82, 83, 84, 85, 86, 87, 88, 89, 90, 91, 92, 93, 94, 95, 96, 97, 98, 99, 100, 101, 102] f).getD 75 undef = .bool false := (patch_get (by omega) (by decide)).trans (hF 6 (by omega) (hd 6 p9_6))
      have x8 : (patch t [69, 70, 71, 72, 73, 74, 75, 76, 77, 78, 79, 80, 81, 82, 83, 84, 85, 86, 87, 88, 89, 90, 91, 92, 93, 94, 95, 96, 97, 98, 99, 100, 101, 102] f).getD 77 undef = .bool false := (patch_get (by omega) (by decide)).trans (hF 8 (by omega) (hd 8 p9_8))
      go_simp
      exact hK _ _ ⟨upd f 78 (.bool false), by rw [patch_set (by decide)], hA, dg11_upd (i := 9) (by omega) hF (Below.refl _ _) rfl⟩
    | 10, _ =>
      have e := o10
      unfold opIsG at e
      rw [ho] at e
      simp only [Option.map_some, Option.some.injEq, Prod.mk.injEq] at e
      obtain ⟨rfl, rfl, rfl⟩ := e
      refine wpOp_step ho (fun K hK => ?_)
      rw [if_pos (wanted_none rfl)]
      have x9 : (patch t [69, 70, 71, 72, 73, 74, 75, 76, 77, 78, 79, 80, 81, 82, 83, 84, 85, 86, 87, 88, 89, 90, 91, 92, 93, 94, 95, 96, 97, 98, 99, 100, 101, 102] f).getD 78 undef = .bool false := (patch_get (by omega) (by decide)).trans (hF 9 (by omega) (hd 9 p10_9))
      go_simp
      exact hK _ _ ⟨upd f 79 (.bool false), by rw [patch_set (by decide)], hA, dg11_upd (i := 10) (by omega) hF (Below.refl _ _) rfl⟩
    | 11, _ =>
      have e := o11
      unfold opIsG at e
      rw [ho] at e
      simp only [Option.map_some, Option.some.injEq, Prod.mk.injEq] at e
      obtain ⟨rfl, rfl, rfl⟩ := e
      refine wpOp_step ho (fun K hK => ?_)
      have yg : (patch t [69, 70, 71, 72, 73, 74, 75, 76, 77, 78, 79, 80, 81, 82, 83, 84, 85, 86, 87, 88, 89, 90, 91, 92, 93, 94, 95, 96, 97, 98, 99, 100, 101, 102] f).getD 79 undef = .bool false := (patch_get (by omega) (by decide)).trans (hF 10 (by omega) (hd 10 p11_10))
      rw [if_pos (wanted_yes rfl (yielded_of o10 yg (by rw [patch_size]; omega)))]
      have x9 : (patch t [69, 70, 71, 72, 73, 74, 75, 76, 77, 78, 79, 80, 81, 82, 83, 84, 85, 86, 87, 88, 89, 90, 91, 92, 93, 94, 95, 96, 97, 98, 99, 100, 101, 102] f).getD 12 undef = .pointer (some ⟨qn, 0, none⟩) := (patch_out (by decide)).trans hp12
      obtain ⟨w1, w2⟩ := hn W hA
      go_simp
      exact hK _ _ ⟨upd f 80 (.agg #[.bool false, .slice An nn cn]), by rw [patch_set (by decide)], hA, dg11_upd (i := 11) (by omega) hF (Below.refl _ _) rfl⟩
    | 12, _ =>
      have e := o12
      unfold opIsG at e
      rw [ho] at e
      simp only [Option.map_some, Option.some.injEq, Prod.mk.injEq] at e
      obtain ⟨rfl, rfl, rfl⟩ := e
      refine wpOp_step ho (fun K hK => ?_)
      have yg : (patch t [69, 70, 71, 72, 73, 74, 75, 76, 77, 78, 79, 80, 81, 82, 83, 84, 85, 86, 87, 88, 89, 90, 91, 92, 93, 94, 95, 96, 97, 98, 99, 100, 101, 102] f).getD 79 undef = .bool false := (patch_get (by omega) (by decide)).trans (hF 10 (by omega) (hd 10 p12_10))
      rw [if_pos (wanted_yes rfl (yielded_of o10 yg (by rw [patch_size]; omega)))]
      have x11 : (patch t [69, 70, 71, 72, 73, 74, 75, 76, 77, 78, 79, 80, 81, 82, 83, 84, 85, 86, 87, 88, 89, 90, 91, 92, 93, 94, 95, 96, 97, 98, 99, 100, 101, 102] f).getD 80 undef = .agg #[.bool false, .slice An nn cn] := (patch_get (by omega) (by decide)).trans (hF 11 (by omega) (hd 11 p12_11))
      go_simp
      refine (hTn W hA).mono ?_
      rintro e w1 ⟨rfl, hb⟩
      exact hK _ _ ⟨upd f 81 (.string ⟨tn.toArray⟩), by rw [patch_set (by decide)], (hMV _ _ hA hb), dg11_upd (i := 12) (by omega) hF hb rfl⟩
    | 13, _ =>
      have e := o13
      unfold opIsG at e
      rw [ho] at e
      simp only [Option.map_some, Option.some.injEq, Prod.mk.injEq] at e
      obtain ⟨rfl, rfl, rfl⟩ := e
      refine wpOp_step ho (fun K hK => ?_)
      have yg : (patch t [69, 70, 71, 72, 73, 74, 75, 76, 77, 78, 79, 80, 81, 82, 83, 84, 85, 86, 87, 88, 89, 90, 91, 92, 93, 94, 95, 96, 97, 98, 99, 100, 101, 102] f).getD 79 undef = .bool false := (patch_get (by omega) (by decide)).trans (hF 10 (by omega) (hd 10 p13_10))
      rw [if_pos (wanted_yes rfl (yielded_of o10 yg (by rw [patch_size]; omega)))]
      have x9 : (patch t [69, 70, 71, 72, 73, 74, 75, 76, 77, 78, 79, 80, 81, 82, 83, 84, 85, 86, 87, 88, 89, 90, 91, 92, 93, 94, 95, 96, 97, 98, 99, 100, 101, 102] f).getD 14 undef = .string ⟨tn.toArray⟩ := (patch_out (by decide)).trans h14
      go_simp
      exact hK _ _ ⟨upd f 82 (.string ⟨tn.toArray⟩), by rw [patch_set (by decide)], hA, dg11_upd (i := 13) (by omega) hF (Below.refl _ _) rfl⟩
    | 14, _ =>
      have e := o14
      unfold opIsG at e
      rw [ho] at e
      simp only [Option.map_some, Option.some.injEq, Prod.mk.injEq] at e
      obtain ⟨rfl, rfl, rfl⟩ := e
      refine wpOp_step ho (fun K hK => ?_)
      have yg : (patch t [69, 70, 71, 72, 73, 74, 75, 76, 77, 78, 79, 80, 81, 82, 83, 84, 85, 86, 87, 88, 89, 90, 91, 92, 93, 94, 95, 96, 97, 98, 99, 100, 101, 102] f).getD 79 undef = .bool false := (patch_get (by omega) (by decide)).trans (hF 10 (by omega) (hd 10 p14_10))
      rw [if_pos (wanted_yes rfl (yielded_of o10 yg (by rw [patch_size]; omega)))]
      have x12 : (patch t [69, 70, 71, 72, 73, 74, 75, 76, 77, 78, 79, 80, 81, 82, 83, 84, 85, 86, 87, 88, 89, 90, 91, 92, 93, 94, 95, 96, 97, 98, 99, 100, 101, 102] f).getD 81 undef = .string ⟨tn.toArray⟩ := (patch_get (by omega) (by decide)).trans (hF 12 (by omega) (hd 12 p14_12))
      have x13 : (patch t [69, 70, 71, 72, 73, 74, 75, 76, 77, 78, 79, 80, 81, 82, 83, 84, 85, 86, 87, 88, 89, 90, 91, 92, 93, 94, 95, 96, 97, 98, 99, 100, 101, 102] f).getD 82 undef = .string ⟨tn.toArray⟩ := (patch_get (by omega) (by decide)).trans (hF 13 (by omega) (hd 13 p14_13))
      go_simp
      exact hK _ _ ⟨upd f 83 (.bool false), by rw [patch_set (by decide)], hA, dg11_upd (i := 14) (by omega) hF (Below.refl _ _) rfl⟩
    | 15, _ =>
      have e := o15
      unfold opIsG at e
      rw [ho] at e
      simp only [Option.map_some, Option.some.injEq, Prod.mk.injEq] at e
      obtain ⟨rfl, rfl, rfl⟩ := e
      refine wpOp_step ho (fun K hK => ?_)
      rw [if_pos (wanted_none rfl)]
      have x10 : (patch t [69, 70, 71, 72, 73, 74, 75, 76, 77, 78, 79, 80, 81, 82, 83, 84, 85, 86, 87, 88, 89, 90, 91, 92, 93, 94, 95, 96, 97, 98, 99, 100, 101, 102] f).getD 79 undef = .bool false := (patch_get (by omega) (by decide)).trans (hF 10 (by omega) (hd 10 p15_10))
      have x14 : (patch t [69, 70, 71, 72, 73, 74, 75, 76, 77, 78, 79, 80, 81, 82, 83, 84, 85, 86, 87, 88, 89, 90, 91, 92, 93, 94, 95, 96, 97, 98, 99, 100, 101, 102] f).getD 83 undef = .bool false := (patch_get (by omega) (by decide)).trans (hF 14 (by omega) (hd 14 p15_14))
      go_simp
      exact hK _ _ ⟨upd f 84 (.bool false), by rw [patch_set (by decide)], hA, dg11_upd (i := 15) (by omega) hF (Below.refl _ _) rfl⟩
    | 16, _ =>
      have e := o16
      unfold opIsG at e
      rw [ho] at e
      simp only [Option.map_some, Option.some.injEq, Prod.mk.injEq] at e
      obtain ⟨rfl, rfl, rfl⟩ := e
      refine wpOp_step ho (fun K hK => ?_)
      rw [if_pos (wanted_none rfl)]
      have x15 : (patch t [69, 70, 71, 72, 73, 74, 75, 76, 77, 78, 79, 80, 81, 82, 83, 84, 85, 86, 87, 88, 89, 90, 91, 92, 93, 94, 95, 96, 97, 98, 99, 100, 101, 102] f).getD 84 undef = .bool false := (patch_get (by omega) (by decide)).trans (hF 15 (by omega) (hd 15 p16_15))
      go_simp
      exact hK _ _ ⟨upd f 85 (.bool false), by rw [patch_set (by decide)], hA, dg11_upd (i := 16) (by omega) hF (Below.refl _ _) rfl⟩
    | 17, _ =>
      have e := o17
      unfold opIsG at e
      rw [ho] at e
      simp only [Option.map_some, Option.some.injEq, Prod.mk.injEq] at e
      obtain ⟨rfl, rfl, rfl⟩ := e
      refine wpOp_step ho (fun K hK => ?_)
      have yg : (patch t [69, 70, 71, 72, 73, 74, 75, 76, 77, 78, 79, 80, 81, 82, 83, 84, 85, 86, 87, 88, 89, 90, 91, 92, 93, 94, 95, 96, 97, 98, 99, 100, 101, 102] f).getD 85 undef = .bool false := (patch_get (by omega) (by decide)).trans (hF 16 (by omega) (hd 16 p17_16))
      rw [if_pos (wanted_yes rfl (yielded_of o16 yg (by rw [patch_size]; omega)))]
      have x9 : (patch t [69, 70, 71, 72, 73, 74, 75, 76, 77, 78, 79, 80, 81, 82, 83, 84, 85, 86, 87, 88, 89, 90, 91, 92, 93, 94, 95, 96, 97, 98, 99, 100, 101, 102] f).getD 15 undef = .pointer (some ⟨qk, 0, none⟩) := (patch_out (by decide)).trans hp15
      obtain ⟨w1, w2⟩ := hk W hA
      go_simp
      exact hK _ _ ⟨upd f 86 (.agg #[.bool false, .slice Ak nk ck]), by rw [patch_set (by decide)], hA, dg11_upd (i := 17) (by omega) hF (Below.refl _ _) rfl⟩
    | 18, _ =>
      have e := o18
      unfold opIsG at e
      rw [ho] at e
      simp only [Option.map_some, Option.some.injEq, Prod.mk.injEq] at e
      obtain ⟨rfl, rfl, rfl⟩ := e
      refine wpOp_step ho (fun K hK => ?_)
      have yg : (patch t [69, 70, 71, 72, 73, 74, 75, 76, 77, 78, 79, 80, 81, 82, 83, 84, 85, 86, 87, 88, 89, 90, 91, 92, 93, 94, 95, 96, 97, 98, 99, 100, 101, 102] f).getD 85 undef = .bool false := (patch_get (by omega) (by decide)).trans (hF 16 (by omega) (hd 16 p18_16))
      rw [if_pos (wanted_yes rfl (yielded_of o16 yg (by rw [patch_size]; omega)))]
      have x9 : (patch t [69, 70, 71, 72, 73, 74, 75, 76, 77, 78, 79, 80, 81, 82, 83, 84, 85, 86, 87, 88, 89, 90, 91, 92, 93, 94, 95, 96, 97, 98, 99, 100, 101, 102] f).getD 6 undef = .pointer (some ⟨q0, 0, none⟩) := (patch_out (by decide)).trans hp6
      obtain ⟨w1, w2⟩ := h0 W hA
      go_simp
      exact hK _ _ ⟨upd f 87 (.agg #[.bool false, .slice A0 n0 c0]), by rw [patch_set (by decide)], hA, dg11_upd (i := 18) (by omega) hF (Below.refl _ _) rfl⟩
    | 19, _ =>
      have e := o19
      unfold opIsG at e
      rw [ho] at e
      simp only [Option.map_some, Option.some.injEq, Prod.mk.injEq] at e
      obtain ⟨rfl, rfl, rfl⟩ := e
      refine wpOp_step ho (fun K hK => ?_)
      have yg : (patch t [69, 70, 71, 72, 73, 74, 75, 76, 77, 78, 79, 80, 81, 82, 83, 84, 85, 86, 87, 88, 89, 90, 91, 92, 93, 94, 95, 96, 97, 98, 99, 100, 101, 102] f).getD 85 undef = .bool false := (patch_get (by omega) (by decide)).trans (hF 16 (by omega) (hd 16 p19_16))
      rw [if_pos (wanted_yes rfl (yielded_of o16 yg (by rw [patch_size]; omega)))]
      have x17 : (patch t [69, 70, 71, 72, 73, 74, 75, 76, 77, 78, 79, 80, 81, 82, 83, 84, 85, 86, 87, 88, 89, 90, 91, 92, 93, 94, 95, 96, 97, 98, 99, 100, 101, 102] f).getD 86 undef = .agg #[.bool false, .slice Ak nk ck] := (patch_get (by omega) (by decide)).trans (hF 17 (by omega) (hd 17 p19_17))
      have x18 : (patch t [69, 70, 71, 72, 73, 74, 75, 76, 77, 78, 79, 80, 81, 82, 83, 84, 85, 86, 87, 88, 89, 90, 91, 92, 93, 94, 95, 96, 97, 98, 99, 100, 101, 102] f).getD 87 undef = .agg #[.bool false, .slice A0 n0 c0] := (patch_get (by omega) (by decide)).trans (hF 18 (by omega) (hd 18 p19_18))
      go_simp
      refine (hSb W hA).mono ?_
      rintro e w1 ⟨rfl, hb⟩
      exact hK _ _ ⟨upd f 88 (.bool true), by rw [patch_set (by decide)], (hMV _ _ hA hb), dg11_upd (i := 19) (by omega) hF hb rfl⟩
    | 20, _ =>
      have e := o20
      unfold opIsG at e
      rw [ho] at e
      simp only [Option.map_some, Option.some.injEq, Prod.mk.injEq] at e
      obtain ⟨rfl, rfl, rfl⟩ := e
      refine wpOp_step ho (fun K hK => ?_)
      have yg : (patch t [69, 70, 71, 72, 73, 74, 75, 76, 77, 78, 79, 80, 81, 82, 83, 84, 85, 86, 87, 88, 89, 90, 91, 92, 93, 94, 95, 96, 97, 98, 99, 100, 101, 102] f).getD 85 undef = .bool false := (patch_get (by omega) (by decide)).trans (hF 16 (by omega) (hd 16 p20_16))
      rw [if_pos (wanted_yes rfl (yielded_of o16 yg (by rw [patch_size]; omega)))]
      have x19 : (patch t [69, 70, 71, 72, 73, 74, 75, 76, 77, 78, 79, 80, 81, 82, 83, 84, 85, 86, 87, 88, 89, 90, 91, 92, 93, 94, 95, 96, 97, 98, 99, 100, 101, 102] f).getD 88 undef = .bool true := (patch_get (by omega) (by decide)).trans (hF 19 (by omega) (hd 19 p20_19))
      go_simp
      exact hK _ _ ⟨upd f 89 (.bool false), by rw [patch_set (by decide)], hA, dg11_upd (i := 20) (by omega) hF (Below.refl _ _) rfl⟩
    | 21, _ =>
      have e := o21
      unfold opIsG at e
      rw [ho] at e
      simp only [Option.map_some, Option.some.injEq, Prod.mk.injEq] at e
      obtain ⟨rfl, rfl, rfl⟩ := e
      refine wpOp_step ho (fun K hK => ?_)
      rw [if_pos (wanted_none rfl)]
      have x16 : (patch t [69, 70, 71, 72, 73, 74, 75, 76, 77, 78, 79, 80, 81, 82, 83, 84, 85, 86, 87, 88, 89, 90, 91, 92, 93, 94, 95, 96, 97, 98, 99, 100, 101, 102] f).getD 85 undef = .bool false := (patch_get (by omega) (by decide)).trans (hF 16 (by omega) (hd 16 p21_16))
      have x20 : (patch t [69, 70, 71, 72, 73, 74, 75, 76, 77, 78, 79, 80, 81, 82, 83, 84, 85, 86, 87, 88, 89, 90, 91, 92, 93, 94, 95, 96, 97, 98, 99, 100, 101, 102] f).getD 89 undef = .bool false := (patch_get (by omega) (by decide)).trans (hF 20 (by omega) (hd 20 p21_20))
      go_simp
      exact hK _ _ ⟨upd f 90 (.bool false), by rw [patch_set (by decide)], hA, dg11_upd (i := 21) (by omega) hF (Below.refl _ _) rfl⟩
    | 22, _ =>
      have e := o22
      unfold opIsG at e
      rw [ho] at e
      simp only [Option.map_some, Option.some.injEq, Prod.mk.injEq] at e
      obtain ⟨rfl, rfl, rfl⟩ := e
      refine wpOp_step ho (fun K hK => ?_)
      rw [if_pos (wanted_none rfl)]
      have x21 : (patch t [69, 70, 71, 72, 73, 74, 75, 76, 77, 78, 79, 80, 81, 82, 83, 84, 85, 86, 87, 88, 89, 90, 91, 92, 93, 94, 95, 96, 97, 98, 99, 100, 101, 102] f).getD 90 undef = .bool false := (patch_get (by omega) (by decide)).trans (hF 21 (by omega) (hd 21 p22_21))
      go_simp
      exact hK _ _ ⟨upd f 91 (.bool false), by rw [patch_set (by decide)], hA, dg11_upd (i := 22) (by omega) hF (Below.refl _ _) rfl⟩
    | 23, _ =>
      have e := o23
      unfold opIsG at e
      rw [ho] at e
      simp only [Option.map_some, Option.some.injEq, Prod.mk.injEq] at e
      obtain ⟨rfl, rfl, rfl⟩ := e
      refine wpOp_step ho (fun K hK => ?_)
      have yg : (patch t [69, 70, 71, 72, 73, 74, 75, 76, 77, 78, 79, 80, 81, 82, 83, 84, 85, 86, 87, 88, 89, 90, 91, 92, 93, 94, 95, 96, 97, 98, 99, 100, 101, 102] f).getD 91 undef = .bool false := (patch_get (by omega) (by decide)).trans (hF 22 (by omega) (hd 22 p23_22))
      rw [if_pos (wanted_yes rfl (yielded_of o22 yg (by rw [patch_size]; omega)))]
      have x9 : (patch t [69, 70, 71, 72, 73, 74, 75, 76, 77, 78, 79, 80, 81, 82, 83, 84, 85, 86, 87, 88, 89, 90, 91, 92, 93, 94, 95, 96, 97, 98, 99, 100, 101, 102] f).getD 6 undef = .pointer (some ⟨q0, 0, none⟩) := (patch_out (by decide)).trans hp6
      go_simp
      exact hK _ _ ⟨upd f 92 (.pointer (some ⟨q0, 0, none⟩)), by rw [patch_set (by decide)], hA, dg11_upd (i := 23) (by omega) hF (Below.refl _ _) rfl⟩
    | 24, _ =>
      have e := o24
      unfold opIsG at e
      rw [ho] at e
      simp only [Option.map_some, Option.some.injEq, Prod.mk.injEq] at e
      obtain ⟨rfl, rfl, rfl⟩ := e
      refine wpOp_step ho (fun K hK => ?_)
      have yg : (patch t [69, 70, 71, 72, 73, 74, 75, 76, 77, 78, 79, 80, 81, 82, 83, 84, 85, 86, 87, 88, 89, 90, 91, 92, 93, 94, 95, 96, 97, 98, 99, 100, 101, 102] f).getD 91 undef = .bool false := (patch_get (by omega) (by decide)).trans (hF 22 (by omega) (hd 22 p24_22))
      rw [if_pos (wanted_yes rfl (yielded_of o22 yg (by rw [patch_size]; omega)))]
      have x23 : (patch t [69, 70, 71, 72, 73, 74, 75, 76, 77, 78, 79, 80, 81, 82, 83, 84, 85, 86, 87, 88, 89, 90, 91, 92, 93, 94, 95, 96, 97, 98, 99, 100, 101, 102] f).getD 92 undef = .pointer (some ⟨q0, 0, none⟩) := (patch_get (by omega) (by decide)).trans (hF 23 (by omega) (hd 23 p24_23))
      obtain ⟨w1, w2⟩ := h0 W hA
      go_simp
      exact hK _ _ ⟨upd f 93 (.bool false), by rw [patch_set (by decide)], hA, dg11_upd (i := 24) (by omega) hF (Below.refl _ _) rfl⟩
    | 25, _ =>
      have e := o25
      unfold opIsG at e
      rw [ho] at e
      simp only [Option.map_some, Option.some.injEq, Prod.mk.injEq] at e
      obtain ⟨rfl, rfl, rfl⟩ := e
      refine wpOp_step ho (fun K hK => ?_)
      have yg : (patch t [69, 70, 71, 72, 73, 74, 75, 76, 77, 78, 79, 80, 81, 82, 83, 84, 85, 86, 87, 88, 89, 90, 91, 92, 93, 94, 95, 96, 97, 98, 99, 100, 101, 102] f).getD 91 undef = .bool false := (patch_get (by omega) (by decide)).trans (hF 22 (by omega) (hd 22 p25_22))
      rw [if_pos (wanted_yes rfl (yielded_of o22 yg (by rw [patch_size]; omega)))]
      have x24 : (patch t [69, 70, 71, 72, 73, 74, 75, 76, 77, 78, 79, 80, 81, 82, 83, 84, 85, 86, 87, 88, 89, 90, 91, 92, 93, 94, 95, 96, 97, 98, 99, 100, 101, 102] f).getD 93 undef = .bool false := (patch_get (by omega) (by decide)).trans (hF 24 (by omega) (hd 24 p25_24))
      go_simp
      exact hK _ _ ⟨upd f 94 (.bool false), by rw [patch_set (by decide)], hA, dg11_upd (i := 25) (by omega) hF (Below.refl _ _) rfl⟩
    | 26, _ =>
      have e := o26
      unfold opIsG at e
      rw [ho] at e
      simp only [Option.map_some, Option.some.injEq, Prod.mk.injEq] at e
      obtain ⟨rfl, rfl, rfl⟩ := e
      refine wpOp_step ho (fun K hK => ?_)
      have yg : (patch t [69, 70, 71, 72, 73, 74, 75, 76, 77, 78, 79, 80, 81, 82, 83, 84, 85, 86, 87, 88, 89, 90, 91, 92, 93, 94, 95, 96, 97, 98, 99, 100, 101, 102] f).getD 94 undef = .bool false := (patch_get (by omega) (by decide)).trans (hF 25 (by omega) (hd 25 p26_25))
      rw [if_neg (wanted_no rfl (yielded_of o25 yg (by rw [patch_size]; omega)) (by decide))]
      exact hK _ _ ⟨upd f 95 undef, by rw [← patch_set (by decide)]; rfl, hA, dg11_upd (i := 26) (by omega) hF (Below.refl _ _) trivial⟩
    | 27, _ =>
      have e := o27
      unfold opIsG at e
      rw [ho] at e
      simp only [Option.map_some, Option.some.injEq, Prod.mk.injEq] at e
      obtain ⟨rfl, rfl, rfl⟩ := e
      refine wpOp_step ho (fun K hK => ?_)
      have yg : (patch t [69, 70, 71, 72, 73, 74, 75, 76, 77, 78, 79, 80, 81, 82, 83, 84, 85, 86, 87, 88, 89, 90, 91, 92, 93, 94, 95, 96, 97, 98, 99, 100, 101, 102] f).getD 94 undef = .bool false := (patch_get (by omega) (by decide)).trans (hF 25 (by omega) (hd 25 p27_25))
      rw [if_neg (wanted_no rfl (yielded_of o25 yg (by rw [patch_size]; omega)) (by decide))]
      exact hK _ _ ⟨upd f 96 undef, by rw [← patch_set (by decide)]; rfl, hA, dg11_upd (i := 27) (by omega) hF (Below.refl _ _) trivial⟩
    | 28, _ =>
      have e := o28
      unfold opIsG at e
      rw [ho] at e
      simp only [Option.map_some, Option.some.injEq, Prod.mk.injEq] at e
      obtain ⟨rfl, rfl, rfl⟩ := e
      refine wpOp_step ho (fun K hK => ?_)
      have yg : (patch t [69, 70, 71, 72, 73, 74, 75, 76, 77, 78, 79, 80, 81, 82, 83, 84, 85, 86, 87, 88, 89, 90, 91, 92, 93, 94, 95, 96, 97, 98, 99, 100, 101, 102] f).getD 94 undef = .bool false := (patch_get (by omega) (by decide)).trans (hF 25 (by omega) (hd 25 p28_25))
      rw [if_neg (wanted_no rfl (yielded_of o25 yg (by rw [patch_size]; omega)) (by decide))]
      exact hK _ _ ⟨upd f 97 undef, by rw [← patch_set (by decide)]; rfl, hA, dg11_upd (i := 28) (by omega) hF (Below.refl _ _) trivial⟩
    | 29, _ =>
      have e := o29
      unfold opIsG at e
      rw [ho] at e
      simp only [Option.map_some, Option.some.injEq, Prod.mk.injEq] at e
      obtain ⟨rfl, rfl, rfl⟩ := e
      refine wpOp_step ho (fun K hK => ?_)
      have yg : (patch t [69, 70, 71, 72, 73, 74, 75, 76, 77, 78, 79, 80, 81, 82, 83, 84, 85, 86, 87, 88, 89, 90, 91, 92, 93, 94, 95, 96, 97, 98, 99, 100, 101, 102] f).getD 94 undef = .bool false := (patch_get (by omega) (by decide)).trans (hF 25 (by omega) (hd 25 p29_25))
      rw [if_neg (wanted_no rfl (yielded_of o25 yg (by rw [patch_size]; omega)) (by decide))]
      exact hK _ _ ⟨upd f 98 undef, by rw [← patch_set (by decide)]; rfl, hA, dg11_upd (i := 29) (by omega) hF (Below.refl _ _) trivial⟩
    | 30, _ =>
      have e := o30
      unfold opIsG at e
      rw [ho] at e
      simp only [Option.map_some, Option.some.injEq, Prod.mk.injEq] at e
      obtain ⟨rfl, rfl, rfl⟩ := e
      refine wpOp_step ho (fun K hK => ?_)
      have yg : (patch t [69, 70, 71, 72, 73, 74, 75, 76, 77, 78, 79, 80, 81, 82, 83, 84, 85, 86, 87, 88, 89, 90, 91, 92, 93, 94, 95, 96, 97, 98, 99, 100, 101, 102] f).getD 94 undef = .bool false := (patch_get (by omega) (by decide)).trans (hF 25 (by omega) (hd 25 p30_25))
      rw [if_neg (wanted_no rfl (yielded_of o25 yg (by rw [patch_size]; omega)) (by decide))]
      exact hK _ _ ⟨upd f 99 undef, by rw [← patch_set (by decide)]; rfl, hA, dg11_upd (i := 30) (by omega) hF (Below.refl _ _) trivial⟩
    | 31, _ =>
      have e := o31
      unfold opIsG at e
      rw [ho] at e
      simp only [Option.map_some, Option.some.injEq, Prod.mk.injEq] at e
      obtain ⟨rfl, rfl, rfl⟩ := e
      refine wpOp_step ho (fun K hK => ?_)
      have yg : (patch t [69, 70, 71, 72, 73, 74, 75, 76, 77, 78, 79, 80, 81, 82, 83, 84, 85, 86, 87, 88, 89, 90, 91, 92, 93, 94, 95, 96, 97, 98, 99, 100, 101, 102] f).getD 94 undef = .bool false := (patch_get (by omega) (by decide)).trans (hF 25 (by omega) (hd 25 p31_25))
      rw [if_neg (wanted_no rfl (yielded_of o25 yg (by rw [patch_size]; omega)) (by decide))]
      exact hK _ _ ⟨upd f 100 undef, by rw [← patch_set (by decide)]; rfl, hA, dg11_upd (i := 31) (by omega) hF (Below.refl _ _) trivial⟩
    | 32, _ =>
      have e := o32
      unfold opIsG at e
      rw [ho] at e
      simp only [Option.map_some, Option.some.injEq, Prod.mk.injEq] at e
      obtain ⟨rfl, rfl, rfl⟩ := e
      refine wpOp_step ho (fun K hK => ?_)
      have yg : (patch t [69, 70, 71, 72, 73, 74, 75, 76, 77, 78, 79, 80, 81, 82, 83, 84, 85, 86, 87, 88, 89, 90, 91, 92, 93, 94, 95, 96, 97, 98, 99, 100, 101, 102] f).getD 91 undef = .bool false := (patch_get (by omega) (by decide)).trans (hF 22 (by omega) (hd 22 p32_22))
      rw [if_pos (wanted_yes rfl (yielded_of o22 yg (by rw [patch_size]; omega)))]
      have x25 : (patch t [69, 70, 71, 72, 73, 74, 75, 76, 77, 78, 79, 80, 81, 82, 83, 84, 85, 86, 87, 88, 89, 90, 91, 92, 93, 94, 95, 96, 97, 98, 99, 100, 101, 102] f).getD 94 undef = .bool false := (patch_get (by omega) (by decide)).trans (hF 25 (by omega) (hd 25 p32_25))
      go_simp
      exact hK _ _ ⟨upd f 101 (.bool false), by rw [patch_set (by decide)], hA, dg11_upd (i := 32) (by omega) hF (Below.refl _ _) rfl⟩
    | 33, _ =>
      have e := o33
      unfold opIsG at e
      rw [ho] at e
      simp only [Option.map_some, Option.some.injEq, Prod.mk.injEq] at e
      obtain ⟨rfl, rfl, rfl⟩ := e
      refine wpOp_step ho (fun K hK => ?_)
      rw [if_pos (wanted_none rfl)]
      have x22 : (patch t [69, 70, 71, 72, 73, 74, 75, 76, 77, 78, 79, 80, 81, 82, 83, 84, 85, 86, 87, 88, 89, 90, 91, 92, 93, 94, 95, 96, 97, 98, 99, 100, 101, 102] f).getD 91 undef = .bool false := (patch_get (by omega) (by decide)).trans (hF 22 (by omega) (hd 22 p33_22))
      have x32 : (patch t [69, 70, 71, 72, 73, 74, 75, 76, 77, 78, 79, 80, 81, 82, 83, 84, 85, 86, 87, 88, 89, 90, 91, 92, 93, 94, 95, 96, 97, 98, 99, 100, 101, 102] f).getD 101 undef = .bool false := (patch_get (by omega) (by decide)).trans (hF 32 (by omega) (hd 32 p33_32))
      go_simp
      exact hK _ _ ⟨upd f 102 (.bool false), by rw [patch_set (by decide)], hA, dg11_upd (i := 33) (by omega) hF (Below.refl _ _) rfl⟩
    | k + 34, h => exact absurd h (by omega)
  · rintro L a W hL ⟨f, rfl, hA, hF⟩
    exact hQ f W hA (hF 33 (by omega) (hL 33 (by omega)))
def dg11tFact (A0 : Option Addr) (n0 c0 : Nat) (An : Option Addr) (nn cn : Nat) (Ak : Option Addr) (nk ck : Nat) (tn tx : List UInt8) (q0 : Nat) (j : Nat) (u : Value) (_W : World) : Prop := match j with
  | 0 => u = .bool true
  | 1 => u = .bool false
  | 2 => u = .bool false
  | 3 => u = .bool true
  | 4 => u = .bool false
  | 5 => u = .bool false
  | 6 => u = .bool false
  | 7 => u = .bool true
  | 8 => u = .bool false
  | 9 => u = .bool false
  | 10 => u = .bool false
  | 11 => u = .agg #[.bool false, .slice An nn cn]
  | 12 => u = .string ⟨tn.toArray⟩
  | 13 => u = .string ⟨tn.toArray⟩
  | 14 => u = .bool false
  | 15 => u = .bool false
  | 16 => u = .bool false
  | 17 => u = .agg #[.bool true, .slice Ak nk ck]
  | 18 => u = .agg #[.bool true, .slice A0 n0 c0]
  | 19 => u = .bool true
  | 20 => u = .bool false
  | 21 => u = .bool false
  | 22 => u = .bool false
  | 23 => u = .pointer (some ⟨q0, 0, none⟩)
  | 24 => u = .bool true
  | 25 => u = .bool true
  | 26 => u = .agg #[.bool true, .slice A0 n0 c0]
  | 27 => u = .string ⟨(45 :: tx).toArray⟩
  | 28 => u = .agg #[.bool false, .slice A0 n0 c0]
  | 29 => u = .string ⟨tx.toArray⟩
  | 30 => u = .string ⟨(45 :: tx).toArray⟩
  | 31 => u = .bool false
  | 32 => u = .bool false
  | 33 => u = .bool false
  | _ => True
def dg11tSlot (j : Nat) : Nat := match j with
  | 0 => 69
  | 1 => 70
  | 2 => 71
  | 3 => 72
  | 4 => 73
  | 5 => 74
  | 6 => 75
  | 7 => 76
  | 8 => 77
  | 9 => 78
  | 10 => 79
  | 11 => 80
  | 12 => 81
  | 13 => 82
  | 14 => 83
  | 15 => 84
  | 16 => 85
  | 17 => 86
  | 18 => 87
  | 19 => 88
  | 20 => 89
  | 21 => 90
  | 22 => 91
  | 23 => 92
  | 24 => 93
  | 25 => 94
  | 26 => 95
  | 27 => 96
  | 28 => 97
  | 29 => 98
  | 30 => 99
  | 31 => 100
  | 32 => 101
  | 33 => 102
  | _ => 0
theorem dg11t_via {A0 : Option Addr} {n0 c0 : Nat} {An : Option Addr} {nn cn : Nat} {Ak : Option Addr} {nk ck : Nat} {tn tx : List UInt8} {q0 : Nat} {j : Nat} {u : Value} {W W1 : World} (h : dg11tFact A0 n0 c0 An nn cn Ak nk ck tn tx q0 j u W) (_hb : Below W.heap.size W W1) : dg11tFact A0 n0 c0 An nn cn Ak nk ck tn tx q0 j u W1 := by
  unfold dg11tFact at h ⊢
  split <;> first | exact h | exact HoldsN.via h _hb | trivial | fail "no"
theorem dg11t_inj : ∀ x, x < 34 → ∀ y, y < 34 → x ≠ y → dg11tSlot x ≠ dg11tSlot y := by decide
theorem dg11t_upd {A0 : Option Addr} {n0 c0 : Nat} {An : Option Addr} {nn cn : Nat} {Ak : Option Addr} {nk ck : Nat} {tn tx : List UInt8} {q0 : Nat} {f : Nat → Value} {L : Array Bool} {i : Nat} {v : Value} {W W1 : World} (hi : i < 34) (hF : ∀ j, j < 34 → L.getD j false = true → dg11tFact A0 n0 c0 An nn cn Ak nk ck tn tx q0 j (f (dg11tSlot j)) W) (hb : Below W.heap.size W W1) (hv : dg11tFact A0 n0 c0 An nn cn Ak nk ck tn tx q0 i v W1) :
    ∀ j, j < 34 → (L.setIfInBounds i true).getD j false = true → dg11tFact A0 n0 c0 An nn cn Ak nk ck tn tx q0 j (upd f (dg11tSlot i) v (dg11tSlot j)) W1 := by
  intro j hj h
  by_cases hji : j = i
  · subst hji; rw [upd_same]; exact hv
  · rw [upd_other (dg11t_inj j hj i hi hji)]
    rcases getD_set h with h | h
    · exact absurd h hji
    · exact dg11t_via (hF j hj h) hb
def dg11tInv (MM : World → Prop) (t : Array Value) (df : List Deferred) (A0 : Option Addr) (n0 c0 : Nat) (An : Option Addr) (nn cn : Nat) (Ak : Option Addr) (nk ck : Nat) (tn tx : List UInt8) (q0 : Nat) (L : Array Bool) (a : Act) (W : World) : Prop :=
  ∃ f, a = ⟨patch t [69, 70, 71, 72, 73, 74, 75, 76, 77, 78, 79, 80, 81, 82, 83, 84, 85, 86, 87, 88, 89, 90, 91, 92, 93, 94, 95, 96, 97, 98, 99, 100, 101, 102] f, df⟩ ∧ MM W ∧ (∀ j, j < 34 → L.getD j false = true → dg11tFact A0 n0 c0 An nn cn Ak nk ck tn tx q0 j (f (dg11tSlot j)) W)
set_option maxRecDepth 100000 in
set_option maxHeartbeats 4000000 in
theorem dg11t_region {ops : Array Oper} {Q : Exit → Act → World → Prop} {id : Nat} (MM : World → Prop) (t : Array Value) (df : List Deferred) (W : World) (A0 : Option Addr) (n0 c0 : Nat) (An : Option Addr) (nn cn : Nat) (Ak : Option Addr) (nk ck : Nat) (tn tx : List UInt8) (q0 : Nat)
    (hsz : ops.size = 34) (hback : backB ops = true) (hts : 102 < t.size)
    (hM0 : MM W.drew) (hMV : ∀ W W1, MM W → Below W.heap.size W W1 → MM W1)
    (h11 : t.getD 11 undef = .bool true)
    (h13 : t.getD 13 undef = .bool true)
    (h16 : t.getD 16 undef = .bool true)
    (h14 : t.getD 14 undef = .string ⟨tn.toArray⟩)
    (qn qk : Nat)
    (hp12 : t.getD 12 undef = .pointer (some ⟨qn, 0, none⟩))
    (hp15 : t.getD 15 undef = .pointer (some ⟨qk, 0, none⟩))
    (hp6 : t.getD 6 undef = .pointer (some ⟨q0, 0, none⟩))
    (hn : ∀ W, MM W → W.cell? ⟨qn, 0, none⟩ = some (.bool false) ∧ W.cell? ⟨qn, 1, none⟩ = some (.slice An nn cn))
    (hk : ∀ W, MM W → W.cell? ⟨qk, 0, none⟩ = some (.bool true) ∧ W.cell? ⟨qk, 1, none⟩ = some (.slice Ak nk ck))
    (h0 : ∀ W, MM W → W.cell? ⟨q0, 0, none⟩ = some (.bool true) ∧ W.cell? ⟨q0, 1, none⟩ = some (.slice A0 n0 c0))
    (hTn : ∀ W, MM W → Calls Tryd.prog 12 #[.agg #[.bool false, .slice An nn cn]] W fun e w1 => e = .returned (.string ⟨tn.toArray⟩) ∧ Below W.heap.size W w1)
    (hSb : ∀ W, MM W → Calls Tryd.prog 15 #[.agg #[.bool true, .slice Ak nk ck], .agg #[.bool true, .slice A0 n0 c0]] W fun e w1 => e = .returned (.bool true) ∧ Below W.heap.size W w1)
    (q2 : Nat)
    (hll : tx.length < 1000)
    (hp9 : t.getD 9 undef = .pointer (some ⟨q2, 0, none⟩))
    (h2 : ∀ W, MM W → W.cell? ⟨q2, 0, none⟩ = some (.bool false) ∧ W.cell? ⟨q2, 1, none⟩ = some (.slice A0 n0 c0))
    (hTa : ∀ W, MM W → Calls Tryd.prog 12 #[.agg #[.bool true, .slice A0 n0 c0]] W fun e w1 => e = .returned (.string ⟨(45 :: tx).toArray⟩) ∧ Below W.heap.size W w1)
    (hTx : ∀ W, MM W → Calls Tryd.prog 12 #[.agg #[.bool false, .slice A0 n0 c0]] W fun e w1 => e = .returned (.string ⟨tx.toArray⟩) ∧ Below W.heap.size W w1)
    (o0 : opIsG ops 0 (some 69) (.move (.tmp 11)) none)
    (o1 : opIsG ops 1 (some 70) (.unOp .not 4 (.tmp 69)) none)
    (o2 : opIsG ops 2 (some 71) (.move (.tmp 70)) none)
    (o3 : opIsG ops 3 (some 72) (.move (.tmp 13)) (some (2, false)))
    (o4 : opIsG ops 4 (some 73) (.unOp .not 4 (.tmp 72)) (some (2, false)))
    (o5 : opIsG ops 5 (some 74) (.pick (.tmp 71) (.const (.bool true)) (.tmp 73)) none)
    (o6 : opIsG ops 6 (some 75) (.move (.tmp 74)) none)
    (o7 : opIsG ops 7 (some 76) (.move (.tmp 16)) (some (6, false)))
    (o8 : opIsG ops 8 (some 77) (.unOp .not 4 (.tmp 76)) (some (6, false)))
    (o9 : opIsG ops 9 (some 78) (.pick (.tmp 75) (.const (.bool true)) (.tmp 77)) none)
    (o10 : opIsG ops 10 (some 79) (.move (.tmp 78)) none)
    (o11 : opIsG ops 11 (some 80) (.load 25 (.tmp 12)) (some (10, false)))
    (o12 : opIsG ops 12 (some 81) (.call { callee := .value (.func 12), args := #[.tmp 80], argTypes := #[25] }) (some (10, false)))
    (o13 : opIsG ops 13 (some 82) (.move (.tmp 14)) (some (10, false)))
    (o14 : opIsG ops 14 (some 83) (.binOp .neq 9 (.tmp 81) (.tmp 82) 9) (some (10, false)))
    (o15 : opIsG ops 15 (some 84) (.pick (.tmp 79) (.const (.bool true)) (.tmp 83)) none)
    (o16 : opIsG ops 16 (some 85) (.move (.tmp 84)) none)
    (o17 : opIsG ops 17 (some 86) (.load 25 (.tmp 15)) (some (16, false)))
    (o18 : opIsG ops 18 (some 87) (.load 25 (.tmp 6)) (some (16, false)))
    (o19 : opIsG ops 19 (some 88) (.call { callee := .value (.func 15), args := #[.tmp 86, .tmp 87], argTypes := #[25, 25] }) (some (16, false)))
    (o20 : opIsG ops 20 (some 89) (.unOp .not 4 (.tmp 88)) (some (16, false)))
    (o21 : opIsG ops 21 (some 90) (.pick (.tmp 85) (.const (.bool true)) (.tmp 89)) none)
    (o22 : opIsG ops 22 (some 91) (.move (.tmp 90)) none)
    (o23 : opIsG ops 23 (some 92) (.fieldAddr 25 (.tmp 6) 0) (some (22, false)))
    (o24 : opIsG ops 24 (some 93) (.load 4 (.tmp 92)) (some (22, false)))
    (o25 : opIsG ops 25 (some 94) (.move (.tmp 93)) (some (22, false)))
    (o26 : opIsG ops 26 (some 95) (.load 25 (.tmp 6)) (some (25, true)))
    (o27 : opIsG ops 27 (some 96) (.call { callee := .value (.func 12), args := #[.tmp 95], argTypes := #[25] }) (some (25, true)))
    (o28 : opIsG ops 28 (some 97) (.load 25 (.tmp 9)) (some (25, true)))
    (o29 : opIsG ops 29 (some 98) (.call { callee := .value (.func 12), args := #[.tmp 97], argTypes := #[25] }) (some (25, true)))
    (o30 : opIsG ops 30 (some 99) (.binOp .add 9 (.const (.string ⟨#[45]⟩)) (.tmp 98) 9) (some (25, true)))
    (o31 : opIsG ops 31 (some 100) (.binOp .neq 9 (.tmp 96) (.tmp 99) 9) (some (25, true)))
    (o32 : opIsG ops 32 (some 101) (.pick (.tmp 94) (.tmp 100) (.const (.bool false))) (some (22, false)))
    (o33 : opIsG ops 33 (some 102) (.pick (.tmp 91) (.const (.bool true)) (.tmp 101)) none)
    (p1_0 : depB ops 1 0 = true)
    (p2_1 : depB ops 2 1 = true)
    (p3_2 : depB ops 3 2 = true)
    (p4_3 : depB ops 4 3 = true)
    (p4_2 : depB ops 4 2 = true)
    (p5_2 : depB ops 5 2 = true)
    (p5_4 : depB ops 5 4 = true)
    (p6_5 : depB ops 6 5 = true)
    (p7_6 : depB ops 7 6 = true)
    (p8_7 : depB ops 8 7 = true)
    (p8_6 : depB ops 8 6 = true)
    (p9_6 : depB ops 9 6 = true)
    (p9_8 : depB ops 9 8 = true)
    (p10_9 : depB ops 10 9 = true)
    (p11_10 : depB ops 11 10 = true)
    (p12_11 : depB ops 12 11 = true)
    (p12_10 : depB ops 12 10 = true)
    (p13_10 : depB ops 13 10 = true)
    (p14_12 : depB ops 14 12 = true)
    (p14_13 : depB ops 14 13 = true)
    (p14_10 : depB ops 14 10 = true)
    (p15_10 : depB ops 15 10 = true)
    (p15_14 : depB ops 15 14 = true)
    (p16_15 : depB ops 16 15 = true)
    (p17_16 : depB ops 17 16 = true)
    (p18_16 : depB ops 18 16 = true)
    (p19_17 : depB ops 19 17 = true)
    (p19_18 : depB ops 19 18 = true)
    (p19_16 : depB ops 19 16 = true)
    (p20_19 : depB ops 20 19 = true)
    (p20_16 : depB ops 20 16 = true)
    (p21_16 : depB ops 21 16 = true)
    (p21_20 : depB ops 21 20 = true)
    (p22_21 : depB ops 22 21 = true)
    (p23_22 : depB ops 23 22 = true)
    (p24_23 : depB ops 24 23 = true)
    (p24_22 : depB ops 24 22 = true)
    (p25_24 : depB ops 25 24 = true)
    (p25_22 : depB ops 25 22 = true)
    (p26_25 : depB ops 26 25 = true)
    (p27_26 : depB ops 27 26 = true)
    (p27_25 : depB ops 27 25 = true)
    (p28_25 : depB ops 28 25 = true)
    (p29_28 : depB ops 29 28 = true)
    (p29_25 : depB ops 29 25 = true)
    (p30_29 : depB ops 30 29 = true)
    (p30_25 : depB ops 30 25 = true)
    (p31_27 : depB ops 31 27 = true)
    (p31_30 : depB ops 31 30 = true)
    (p31_25 : depB ops 31 25 = true)
    (p32_25 : depB ops 32 25 = true)
    (p32_31 : depB ops 32 31 = true)
    (p32_22 : depB ops 32 22 = true)
    (p33_22 : depB ops 33 22 = true)
    (p33_32 : depB ops 33 32 = true)
    (hQ : ∀ f W, MM W → (f 102 = .bool false) → Q .normal ⟨patch t [69, 70, 71, 72, 73, 74, 75, 76, 77, 78, 79, 80, 81, 82, 83, 84, 85, 86, 87, 88, 89, 90, 91, 92, 93, 94, 95, 96, 97, 98, 99, 100, 101, 102] f, df⟩ W) : (Code.region id ops true).wp Tryd.prog Q ⟨t, df⟩ W := by
  refine wp_region_inv (by kernel_rfl) hback (dg11tInv MM t df A0 n0 c0 An nn cn Ak nk ck tn tx q0) ?_ ?_ ?_
  · refine ⟨_, congrArg (fun x => (⟨x, df⟩ : Act)) (patch_start t [69, 70, 71, 72, 73, 74, 75, 76, 77, 78, 79, 80, 81, 82, 83, 84, 85, 86, 87, 88, 89, 90, 91, 92, 93, 94, 95, 96, 97, 98, 99, 100, 101, 102]).symm, hM0, fun j _ h => ?_⟩
    simp [Array.getD] at h
  · rintro L a W i o ho hzz hc hl hd ⟨f, rfl, hA, hF⟩
    have hi : i < 34 := by have := (Array.getElem?_eq_some_iff.1 ho).1; omega
    obtain ⟨dst, op, ty, pos, after, guard⟩ := o
    match i, hi with
    | 0, _ =>
      have e := o0
      unfold opIsG at e
      rw [ho] at e
      simp only [Option.map_some, Option.some.injEq, Prod.mk.injEq] at e
      obtain ⟨rfl, rfl, rfl⟩ := e
      refine wpOp_step ho (fun K hK => ?_)
      rw [if_pos (wanted_none rfl)]
      have x9 : (patch t [69, 70, 71, 72, 73, 74, 75, 76, 77, 78, 79, 80, 81, 82, 83, 84, 85, 86, 87, 88, 89, 90, 91, 92, 93, 94, 95, 96, 97, 98, 99, 100, 101, 102] f).getD 11 undef = .bool true := (patch_out (by decide)).trans h11
      go_simp
      exact hK _ _ ⟨upd f 69 (.bool true), by rw [patch_set (by decide)], hA, dg11t_upd (i := 0) (by omega) hF (Below.refl _ _) rfl⟩
    | 1, _ =>
      have e := o1
      unfold opIsG at e
      rw [ho] at e
      simp only [Option.map_some, Option.some.injEq, Prod.mk.injEq] at e
      obtain ⟨rfl, rfl, rfl⟩ := e
      refine wpOp_step ho (fun K hK => ?_)
      rw [if_pos (wanted_none rfl)]
      have x0 : (patch t [69, 70, 71, 72, 73, 74, 75, 76, 77, 78, 79, 80, 81, 82, 83, 84, 85, 86, 87, 88, 89, 90, 91, 92, 93, 94, 95, 96, 97, 98, 99, 100, 101, 102] f).getD 69 undef = .bool true := (patch_get (by omega) (by decide)).trans (hF 0 (by omega) (hd 0 p1_0))
      go_simp
      exact hK _ _ ⟨upd f 70 (.bool false), by rw [patch_set (by decide)], hA, dg11t_upd (i := 1) (by omega) hF (Below.refl _ _) rfl⟩
    | 2, _ =>
      have e := o2
      unfold opIsG at e
      rw [ho] at e
      simp only [Option.map_some, Option.some.injEq, Prod.mk.injEq] at e
      obtain ⟨rfl, rfl, rfl⟩ := e
      refine wpOp_step ho (fun K hK => ?_)
      rw [if_pos (wanted_none rfl)]
      have x1 : (patch t [69, 70, 71, 72, 73, 74, 75, 76, 77, 78, 79, 80, 81, 82, 83, 84, 85, 86, 87, 88, 89, 90, 91, 92, 93, 94, 95, 96, 97, 98, 99, 100, 101, 102] f).getD 70 undef = .bool false := (patch_get (by omega) (by decide)).trans (hF 1 (by omega) (hd 1 p2_1))
      go_simp
      exact hK _ _ ⟨upd f 71 (.bool false), by rw [patch_set (by decide)], hA, dg11t_upd (i := 2) (by omega) hF (Below.refl _ _) rfl⟩
    | 3, _ =>
      have e := o3
      unfold opIsG at e
      rw [ho] at e
      simp only [Option.map_some, Option.some.injEq, Prod.mk.injEq] at e
      obtain ⟨rfl, rfl, rfl⟩ := e
      refine wpOp_step ho (fun K hK => ?_)
      have yg : (patch t [69, 70, 71, 72, 73, 74, 75, 76, 77, 78, 79, 80, 81, 82, 83, 84, 85, 86, 87, 88, 89, 90, 91, 92, 93, 94, 95, 96, 97, 98, 99, 100, 101, 102] f).getD 71 undef = .bool false := (patch_get (by omega) (by decide)).trans (hF 2 (by omega) (hd 2 p3_2))
      rw [if_pos (wanted_yes rfl (yielded_of o2 yg (by rw [patch_size]; omega)))]
      have x9 : (patch t [69, 70, 71, 72, 73, 74, 75, 76, 77, 78, 79, 80, 81, 82, 83, 84, 85, 86, 87, 88, 89, 90, 91, 92, 93, 94, 95, 96, 97, 98, 99, 100, 101, 102] f).getD 13 undef = .bool true := (patch_out (by decide)).trans h13
      go_simp
      exact hK _ _ ⟨upd f 72 (.bool true), by rw [patch_set (by decide)], hA, dg11t_upd (i := 3) (by omega) hF (Below.refl _ _) rfl⟩
    | 4, _ =>
      have e := o4
      unfold opIsG at e
      rw [ho] at e
      simp only [Option.map_some, Option.some.injEq, Prod.mk.injEq] at e
      obtain ⟨rfl, rfl, rfl⟩ := e
      refine wpOp_step ho (fun K hK => ?_)
      have yg : (patch t [69, 70, 71, 72, 73, 74, 75, 76, 77, 78, 79, 80, 81, 82, 83, 84, 85, 86, 87, 88, 89, 90, 91, 92, 93, 94, 95, 96, 97, 98, 99, 100, 101, 102] f).getD 71 undef = .bool false := (patch_get (by omega) (by decide)).trans (hF 2 (by omega) (hd 2 p4_2))
      rw [if_pos (wanted_yes rfl (yielded_of o2 yg (by rw [patch_size]; omega)))]
      have x3 : (patch t [69, 70, 71, 72, 73, 74, 75, 76, 77, 78, 79, 80, 81, 82, 83, 84, 85, 86, 87, 88, 89, 90, 91, 92, 93, 94, 95, 96, 97, 98, 99, 100, 101, 102] f).getD 72 undef = .bool true := (patch_get (by omega) (by decide)).trans (hF 3 (by omega) (hd 3 p4_3))
      go_simp
      exact hK _ _ ⟨upd f 73 (.bool false), by rw [patch_set (by decide)], hA, dg11t_upd (i := 4) (by omega) hF (Below.refl _ _) rfl⟩
    | 5, _ =>
      have e := o5
      unfold opIsG at e
      rw [ho] at e
      simp only [Option.map_some, Option.some.injEq, Prod.mk.injEq] at e
      obtain ⟨rfl, rfl, rfl⟩ := e
      refine wpOp_step ho (fun K hK => ?_)
      rw [if_pos (wanted_none rfl)]
      have x2 : (patch t [69, 70, 71, 72, 73, 74, 75, 76, 77, 78, 79, 80, 81, 82, 83, 84, 85, 86, 87, 88, 89, 90, 91, 92, 93, 94, 95, 96, 97, 98, 99, 100, 101, 102] f).getD 71 undef = .bool false := (patch_get (by omega) (by decide)).trans (hF 2 (by omega) (hd 2 p5_2))
      have x4 : (patch t [69, 70, 71, 72, 73, 74, 75, 76, 77, 78, 79, 80, 81, 82, 83, 84, 85, 86, 87, 88, 89, 90, 91, 92, 93, 94, 95, 96, 97, 98, 99, 100, 101, 102] f).getD 73 undef = .bool false := (patch_get (by omega) (by decide)).trans (hF 4 (by omega) (hd 4 p5_4))
      go_simp
      exact hK _ _ ⟨upd f 74 (.bool false), by rw [patch_set (by decide)], hA, dg11t_upd (i := 5) (by omega) hF (Below.refl _ _) rfl⟩
    | 6, _ =>
      have e := o6
      unfold opIsG at e
      rw [ho] at e
      simp only [Option.map_some, Option.some.injEq, Prod.mk.injEq] at e
      obtain ⟨rfl, rfl, rfl⟩ := e
      refine wpOp_step ho (fun K hK => ?_)
      rw [if_pos (wanted_none rfl)]
      have x5 : (patch t [69, 70, 71, 72, 73, 74, 75, 76, 77, 78, 79, 80, 81, 82, 83, 84, 85, 86, 87, 88, 89, 90, 91, 92, 93, 94, 95, 96, 97, 98, 99, 100, 101, 102] f).getD 74 undef = .bool false := (patch_get (by omega) (by decide)).trans (hF 5 (by omega) (hd 5 p6_5))
      go_simp
      exact hK _ _ ⟨upd f 75 (.bool false), by rw [patch_set (by decide)], hA, dg11t_upd (i := 6) (by omega) hF (Below.refl _ _) rfl⟩
    | 7, _ =>
      have e := o7
      unfold opIsG at e
      rw [ho] at e
      simp only [Option.map_some, Option.some.injEq, Prod.mk.injEq] at e
      obtain ⟨rfl, rfl, rfl⟩ := e
      refine wpOp_step ho (fun K hK => ?_)
      have yg : (patch t [69, 70, 71, 72, 73, 74, 75, 76, 77, 78, 79, 80, 81, 82, 83, 84, 85, 86, 87, 88, 89, 90, 91, 92, 93, 94, 95, 96, 97, 98, 99, 100, 101, 102] f).getD 75 undef = .bool false := (patch_get (by omega) (by decide)).trans (hF 6 (by omega) (hd 6 p7_6))
      rw [if_pos (wanted_yes rfl (yielded_of o6 yg (by rw [patch_size]; omega)))]
      have x9 : (patch t [69, 70, 71, 72, 73, 74, 75, 76, 77, 78, 79, 80, 81, 82, 83, 84, 85, 86, 87, 88, 89, 90, 91, 92, 93, 94, 95, 96, 97, 98, 99, 100, 101, 102] f).getD 16 undef = .bool true := (patch_out (by decide)).trans h16
      go_simp
      exact hK _ _ ⟨upd f 76 (.bool true), by rw [patch_set (by decide)], hA, dg11t_upd (i := 7) (by omega) hF (Below.refl _ _) rfl⟩
    | 8, _ =>
      have e := o8
      unfold opIsG at e
      rw [ho] at e
      simp only [Option.map_some, Option.some.injEq, Prod.mk.injEq] at e
      obtain ⟨rfl, rfl, rfl⟩ := e
      refine wpOp_step ho (fun K hK => ?_)
      have yg : (patch t [69, 70, 71, 72, 73, 74, 75, 76, 77, 78, 79, 80, 81, 82, 83, 84, 85, 86, 87, 88, 89, 90, 91, 92, 93, 94, 95, 96, 97, 98, 99, 100, 101, 102] f).getD 75 undef = .bool false := (patch_get (by omega) (by decide)).trans (hF 6 (by omega) (hd 6 p8_6))
      rw [if_pos (wanted_yes rfl (yielded_of o6 yg (by rw [patch_size]; omega)))]
      have x7 : (patch t [69, 70, 71, 72, 73, 74, 75, 76, 77, 78, 79, 80, 81, 82, 83, 84, 85, 86, 87, 88, 89, 90, 91, 92, 93, 94, 95, 96, 97, 98, 99, 100, 101, 102] f).getD 76 undef = .bool true := (patch_get (by omega) (by decide)).trans (hF 7 (by omega) (hd 7 p8_7))
      go_simp
      exact hK _ _ ⟨upd f 77 (.bool false), by rw [patch_set (by decide)], hA, dg11t_upd (i := 8) (by omega) hF (Below.refl _ _) rfl⟩
    | 9, _ =>
      have e := o9
      unfold opIsG at e
      rw [ho] at e
      simp only [Option.map_some, Option.some.injEq, Prod.mk.injEq] at e
      obtain ⟨rfl, rfl, rfl⟩ := e
      refine wpOp_step ho (fun K hK => ?_)
      rw [if_pos (wanted_none rfl)]
      have x6 : (patch t [69, 70, 71, 72, 73, 74, 75, 76, 77, 78, 79, 80, 81, 82, 83, 84, 85, 86, 87, 88, 89, 90, 91, 92, 93, 94, 95, 96, 97, 98, 99, 100, 101, 102] f).getD 75 undef = .bool false := (patch_get (by omega) (by decide)).trans (hF 6 (by omega) (hd 6 p9_6))
      have x8 : (patch t [69, 70, 71, 72, 73, 74, 75, 76, 77, 78, 79, 80, 81, 82, 83, 84, 85, 86, 87, 88, 89, 90, 91, 92, 93, 94, 95, 96, 97, 98, 99, 100, 101, 102] f).getD 77 undef = .bool false := (patch_get (by omega) (by decide)).trans (hF 8 (by omega) (hd 8 p9_8))
      go_simp
      exact hK _ _ ⟨upd f 78 (.bool false), by rw [patch_set (by decide)], hA, dg11t_upd (i := 9) (by omega) hF (Below.refl _ _) rfl⟩
    | 10, _ =>
      have e := o10
      unfold opIsG at e
      rw [ho] at e
      simp only [Option.map_some, Option.some.injEq, Prod.mk.injEq] at e
      obtain ⟨rfl, rfl, rfl⟩ := e
      refine wpOp_step ho (fun K hK => ?_)
      rw [if_pos (wanted_none rfl)]
      have x9 : (patch t [69, 70, 71, 72, 73, 74, 75, 76, 77, 78, 79, 80, 81, 82, 83, 84, 85, 86, 87, 88, 89, 90, 91, 92, 93, 94, 95, 96, 97, 98, 99, 100, 101, 102] f).getD 78 undef = .bool false := (patch_get (by omega) (by decide)).trans (hF 9 (by omega) (hd 9 p10_9))
      go_simp
      exact hK _ _ ⟨upd f 79 (.bool false), by rw [patch_set (by decide)], hA, dg11t_upd (i := 10) (by omega) hF (Below.refl _ _) rfl⟩
    | 11, _ =>
      have e := o11
      unfold opIsG at e
      rw [ho] at e
      simp only [Option.map_some, Option.some.injEq, Prod.mk.injEq] at e
      obtain ⟨rfl, rfl, rfl⟩ := e
      refine wpOp_step ho (fun K hK => ?_)
      have yg : (patch t [69, 70, 71, 72, 73, 74, 75, 76, 77, 78, 79, 80, 81, 82, 83, 84, 85, 86, 87, 88, 89, 90, 91, 92, 93, 94, 95, 96, 97, 98, 99, 100, 101, 102] f).getD 79 undef = .bool false := (patch_get (by omega) (by decide)).trans (hF 10 (by omega) (hd 10 p11_10))
      rw [if_pos (wanted_yes rfl (yielded_of o10 yg (by rw [patch_size]; omega)))]
      have x9 : (patch t [69, 70, 71, 72, 73, 74, 75, 76, 77, 78, 79, 80, 81, 82, 83, 84, 85, 86, 87, 88, 89, 90, 91, 92, 93, 94, 95, 96, 97, 98, 99, 100, 101, 102] f).getD 12 undef = .pointer (some ⟨qn, 0, none⟩) := (patch_out (by decide)).trans hp12
      obtain ⟨w1, w2⟩ := hn W hA
      go_simp
      exact hK _ _ ⟨upd f 80 (.agg #[.bool false, .slice An nn cn]), by rw [patch_set (by decide)], hA, dg11t_upd (i := 11) (by omega) hF (Below.refl _ _) rfl⟩
    | 12, _ =>
      have e := o12
      unfold opIsG at e
      rw [ho] at e
      simp only [Option.map_some, Option.some.injEq, Prod.mk.injEq] at e
      obtain ⟨rfl, rfl, rfl⟩ := e
      refine wpOp_step ho (fun K hK => ?_)
      have yg : (patch t [69, 70, 71, 72, 73, 74, 75, 76, 77, 78, 79, 80, 81, 82, 83, 84, 85, 86, 87, 88, 89, 90, 91, 92, 93, 94, 95, 96, 97, 98, 99, 100, 101, 102] f).getD 79 undef = .bool false := (patch_get (by omega) (by decide)).trans (hF 10 (by omega) (hd 10 p12_10))
      rw [if_pos (wanted_yes rfl (yielded_of o10 yg (by rw [patch_size]; omega)))]
      have x11 : (patch t [69, 70, 71, 72, 73, 74, 75, 76, 77, 78, 79, 80, 81, 82, 83, 84, 85, 86, 87, 88, 89, 90, 91, 92, 93, 94, 95, 96, 97, 98, 99, 100, 101, 102] f).getD 80 undef = .agg #[.bool false, .slice An nn cn] := (patch_get (by omega) (by decide)).trans (hF 11 (by omega) (hd 11 p12_11))
      go_simp
      refine (hTn W hA).mono ?_
      rintro e w1 ⟨rfl, hb⟩
      exact hK _ _ ⟨upd f 81 (.string ⟨tn.toArray⟩), by rw [patch_set (by decide)], (hMV _ _ hA hb), dg11t_upd (i := 12) (by omega) hF hb rfl⟩
    | 13, _ =>
      have e := o13
      unfold opIsG at e
      rw [ho] at e
      simp only [Option.map_some, Option.some.injEq, Prod.mk.injEq] at e
      obtain ⟨rfl, rfl, rfl⟩ := e
      refine wpOp_step ho (fun K hK => ?_)
      have yg : (patch t [69, 70, 71, 72, 73, 74, 75, 76, 77, 78, 79, 80, 81, 82, 83, 84, 85, 86, 87, 88, 89, 90, 91, 92, 93, 94, 95, 96, 97, 98, 99, 100, 101, 102] f).getD 79 undef = .bool false := (patch_get (by omega) (by decide)).trans (hF 10 (by omega) (hd 10 p13_10))
      rw [if_pos (wanted_yes rfl (yielded_of o10 yg (by rw [patch_size]; omega)))]
      have x9 : (patch t [69, 70, 71, 72, 73, 74, 75, 76, 77, 78, 79, 80, 81, 82, 83, 84, 85, 86, 87, 88, 89, 90, 91, 92, 93, 94, 95, 96, 97, 98, 99, 100, 101, 102] f).getD 14 undef = .string ⟨tn.toArray⟩ := (patch_out (by decide)).trans h14
      go_simp
      exact hK _ _ ⟨upd f 82 (.string ⟨tn.toArray⟩), by rw [patch_set (by decide)], hA, dg11t_upd (i := 13) (by omega) hF (Below.refl _ _) rfl⟩
    | 14, _ =>
      have e := o14
      unfold opIsG at e
      rw [ho] at e
      simp only [Option.map_some, Option.some.injEq, Prod.mk.injEq] at e
      obtain ⟨rfl, rfl, rfl⟩ := e
      refine wpOp_step ho (fun K hK => ?_)
      have yg : (patch t [69, 70, 71, 72, 73, 74, 75, 76, 77, 78, 79, 80, 81, 82, 83, 84, 85, 86, 87, 88, 89, 90, 91, 92, 93, 94, 95, 96, 97, 98, 99, 100, 101, 102] f).getD 79 undef = .bool false := (patch_get (by omega) (by decide)).trans (hF 10 (by omega) (hd 10 p14_10))
      rw [if_pos (wanted_yes rfl (yielded_of o10 yg (by rw [patch_size]; omega)))]
      have x12 : (patch t [69, 70, 71, 72, 73, 74, 75, 76, 77, 78, 79, 80, 81, 82, 83, 84, 85, 86, 87, 88, 89, 90, 91, 92, 93, 94, 95, 96, 97, 98, 99, 100, 101, 102] f).getD 81 undef = .string ⟨tn.toArray⟩ := (patch_get (by omega) (by decide)).trans (hF 12 (by omega) (hd 12 p14_12))
      have x13 : (patch t [69, 70, 71, 72, 73, 74, 75, 76, 77, 78, 79, 80, 81, 82, 83, 84, 85, 86, 87, 88, 89, 90, 91, 92, 93, 94, 95, 96, 97, 98, 99, 100, 101, 102] f).getD 82 undef = .string ⟨tn.toArray⟩ := (patch_get (by omega) (by decide)).trans (hF 13 (by omega) (hd 13 p14_13))
      go_simp
      exact hK _ _ ⟨upd f 83 (.bool false), by rw [patch_set (by decide)], hA, dg11t_upd (i := 14) (by omega) hF (Below.refl _ _) rfl⟩
    | 15, _ =>
      have e := o15
      unfold opIsG at e
      rw [ho] at e
      simp only [Option.map_some, Option.some.injEq, Prod.mk.injEq] at e
      obtain ⟨rfl, rfl, rfl⟩ := e
      refine wpOp_step ho (fun K hK => ?_)
      rw [if_pos (wanted_none rfl)]
      have x10 : (patch t [69, 70, 71, 72, 73, 74, 75, 76, 77, 78, 79, 80, 81, 82, 83, 84, 85, 86, 87, 88, 89, 90, 91, 92, 93, 94, 95, 96, 97, 98, 99, 100, 101, 102] f).getD 79 undef = .bool false := (patch_get (by omega) (by decide)).trans (hF 10 (by omega) (hd 10 p15_10))
      have x14 : (patch t [69, 70, 71, 72, 73, 74, 75, 76, 77, 78, 79, 80, 81, 82, 83, 84, 85, 86, 87, 88, 89, 90, 91, 92, 93, 94, 95, 96, 97, 98, 99, 100, 101, 102] f).getD 83 undef = .bool false := (patch_get (by omega) (by decide)).trans (hF 14 (by omega) (hd 14 p15_14))
      go_simp
      exact hK _ _ ⟨upd f 84 (.bool false), by rw [patch_set (by decide)], hA, dg11t_upd (i := 15) (by omega) hF (Below.refl _ _) rfl⟩
    | 16, _ =>
      have e := o16
      unfold opIsG at e
      rw [ho] at e
      simp only [Option.map_some, Option.some.injEq, Prod.mk.injEq] at e
      obtain ⟨rfl, rfl, rfl⟩ := e
      refine wpOp_step ho (fun K hK => ?_)
      rw [if_pos (wanted_none rfl)]
      have x15 : (patch t [69, 70, 71, 72, 73, 74, 75, 76, 77, 78, 79, 80, 81, 82, 83, 84, 85, 86, 87, 88, 89, 90, 91, 92, 93, 94, 95, 96, 97, 98, 99, 100, 101, 102] f).getD 84 undef = .bool false := (patch_get (by omega) (by decide)).trans (hF 15 (by omega) (hd 15 p16_15))
      go_simp
      exact hK _ _ ⟨upd f 85 (.bool false), by rw [patch_set (by decide)], hA, dg11t_upd (i := 16) (by omega) hF (Below.refl _ _) rfl⟩
    | 17, _ =>
      have e := o17
      unfold opIsG at e
      rw [ho] at e
      simp only [Option.map_some, Option.some.injEq, Prod.mk.injEq] at e
      obtain ⟨rfl, rfl, rfl⟩ := e
      refine wpOp_step ho (fun K hK => ?_)
      have yg : (patch t [69, 70, 71, 72, 73, 74, 75, 76, 77, 78, 79, 80, 81, 82, 83, 84, 85, 86, 87, 88, 89, 90, 91, 92, 93, 94, 95, 96, 97, 98, 99, 100, 101, 102] f).getD 85 undef = .bool false := (patch_get (by omega) (by decide)).trans (hF 16 (by omega) (hd 16 p17_16))
      rw [if_pos (wanted_yes rfl (yielded_of o16 yg (by rw [patch_size]; omega)))]
      have x9 : (patch t [69, 70, 71, 72, 73, 74, 75, 76, 77, 78, 79, 80, 81, 82, 83, 84, 85, 86, 87, 88, 89, 90, 91, 92, 93, 94, 95, 96, 97, 98, 99, 100, 101, 102] f).getD 15 undef = .pointer (some ⟨qk, 0, none⟩) := (patch_out (by decide)).trans hp15
      obtain ⟨w1, w2⟩ := hk W hA
      go_simp
      exact hK _ _ ⟨upd f 86 (.agg #[.bool true, .slice Ak nk ck]), by rw [patch_set (by decide)], hA, dg11t_upd (i := 17) (by omega) hF (Below.refl _ _) rfl⟩
    | 18, _ =>
      have e := o18
      unfold opIsG at e
      rw [ho] at e
      simp only [Option.map_some, Option.some.injEq, Prod.mk.injEq] at e
      obtain ⟨rfl, rfl, rfl⟩ := e
      refine wpOp_step ho (fun K hK => ?_)
      have yg : (patch t [69, 70, 71, 72, 73, 74, 75, 76, 77, 78, 79, 80, 81, 82, 83, 84, 85, 86, 87, 88, 89, 90, 91, 92, 93, 94, 95, 96, 97, 98, 99, 100, 101, 102] f).getD 85 undef = .bool false := (patch_get (by omega) (by decide)).trans (hF 16 (by omega) (hd 16 p18_16))
      rw [if_pos (wanted_yes rfl (yielded_of o16 yg (by rw [patch_size]; omega)))]
      have x9 : (patch t [69, 70, 71, 72, 73, 74, 75, 76, 77, 78, 79, 80, 81, 82, 83, 84, 85, 86, 87, 88, 89, 90, 91, 92, 93, 94, 95, 96, 97, 98, 99, 100, 101, 102] f).getD 6 undef = .pointer (some ⟨q0, 0, none⟩) := (patch_out (by decide)).trans hp6
      obtain ⟨w1, w2⟩ := h0 W hA
      go_simp
      exact hK _ _ ⟨upd f 87 (.agg #[.bool true, .slice A0 n0 c0]), by rw [patch_set (by decide)], hA, dg11t_upd (i := 18) (by omega) hF (Below.refl _ _) rfl⟩
    | 19, _ =>
      have e := o19
      unfold opIsG at e
      rw [ho] at e
      simp only [Option.map_some, Option.some.injEq, Prod.mk.injEq] at e
      obtain ⟨rfl, rfl, rfl⟩ := e
      refine wpOp_step ho (fun K hK => ?_)
      have yg : (patch t [69, 70, 71, 72, 73, 74, 75, 76, 77, 78, 79, 80, 81, 82, 83, 84, 85, 86, 87, 88, 89, 90, 91, 92, 93, 94, 95, 96, 97, 98, 99, 100, 101, 102] f).getD 85 undef = .bool false := (patch_get (by omega) (by decide)).trans (hF 16 (by omega) (hd 16 p19_16))
      rw [if_pos (wanted_yes rfl (yielded_of o16 yg (by rw [patch_size]; omega)))]
      have x17 : (patch t [69, 70, 71, 72, 73, 74, 75, 76, 77, 78, 79, 80, 81, 82, 83, 84, 85, 86, 87, 88, 89, 90, 91, 92, 93, 94, 95, 96, 97, 98, 99, 100, 101, 102] f).getD 86 undef = .agg #[.bool true, .slice Ak nk ck] := (patch_get (by omega) (by decide)).trans (hF 17 (by omega) (hd 17 p19_17))
      have x18 : (patch t [69, 70, 71, 72, 73, 74, 75, 76, 77, 78, 79, 80, 81, 82, 83, 84, 85, 86, 87, 88, 89, 90, 91, 92, 93, 94, 95, 96, 97, 98, 99, 100, 101, 102] f).getD 87 undef = .agg #[.bool true, .slice A0 n0 c0] := (patch_get (by omega) (by decide)).trans (hF 18 (by omega) (hd 18 p19_18))
      go_simp
      refine (hSb W hA).mono ?_
      rintro e w1 ⟨rfl, hb⟩
      exact hK _ _ ⟨upd f 88 (.bool true), by rw [patch_set (by decide)], (hMV _ _ hA hb), dg11t_upd (i := 19) (by omega) hF hb rfl⟩
    | 20, _ =>
      have e := o20
      unfold opIsG at e
      rw [ho] at e
      simp only [Option.map_some, Option.some.injEq, Prod.mk.injEq] at e
      obtain ⟨rfl, rfl, rfl⟩ := e
      refine wpOp_step ho (fun K hK => ?_)
      have yg : (patch t [69, 70, 71, 72, 73, 74, 75, 76, 77, 78, 79, 80, 81, 82, 83, 84, 85, 86, 87, 88, 89, 90, 91, 92, 93, 94, 95, 96, 97, 98, 99, 100, 101, 102] f).getD 85 undef = .bool false := (patch_get (by omega) (by decide)).trans (hF 16 (by omega) (hd 16 p20_16))
      rw [if_pos (wanted_yes rfl (yielded_of o16 yg (by rw [patch_size]; omega)))]
      have x19 : (patch t [69, 70, 71, 72, 73, 74, 75, 76, 77, 78, 79, 80, 81, 82, 83, 84, 85, 86, 87, 88, 89, 90, 91, 92, 93, 94, 95, 96, 97, 98, 99, 100, 101, 102] f).getD 88 undef = .bool true := (patch_get (by omega) (by decide)).trans (hF 19 (by omega) (hd 19 p20_19))
      go_simp
      exact hK _ _ ⟨upd f 89 (.bool false), by rw [patch_set (by decide)], hA, dg11t_upd (i := 20) (by omega) hF (Below.refl _ _) rfl⟩
    | 21, _ =>
      have e := o21
      unfold opIsG at e
      rw [ho] at e
      simp only [Option.map_some, Option.some.injEq, Prod.mk.injEq] at e
      obtain ⟨rfl, rfl, rfl⟩ := e
      refine wpOp_step ho (fun K hK => ?_)
      rw [if_pos (wanted_none rfl)]
      have x16 : (patch t [69, 70, 71, 72, 73, 74, 75, 76, 77, 78, 79, 80, 81, 82, 83, 84, 85, 86, 87, 88, 89, 90, 91, 92, 93, 94, 95, 96, 97, 98, 99, 100, 101, 102] f).getD 85 undef = .bool false := (patch_get (by omega) (by decide)).trans (hF 16 (by omega) (hd 16 p21_16))
      have x20 : (patch t [69, 70, 71, 72, 73, 74, 75, 76, 77, 78, 79, 80, 81, 82, 83, 84, 85, 86, 87, 88, 89, 90, 91, 92, 93, 94, 95, 96, 97, 98, 99, 100, 101, 102] f).getD 89 undef = .bool false := (patch_get (by omega) (by decide)).trans (hF 20 (by omega) (hd 20 p21_20))
      go_simp
      exact hK _ _ ⟨upd f 90 (.bool false), by rw [patch_set (by decide)], hA, dg11t_upd (i := 21) (by omega) hF (Below.refl _ _) rfl⟩
    | 22, _ =>
      have e := o22
      unfold opIsG at e
      rw [ho] at e
      simp only [Option.map_some, Option.some.injEq, Prod.mk.injEq] at e
      obtain ⟨rfl, rfl, rfl⟩ := e
      refine wpOp_step ho (fun K hK => ?_)
      rw [if_pos (wanted_none rfl)]
      have x21 : (patch t [69, 70, 71, 72, 73, 74, 75, 76, 77, 78, 79, 80, 81, 82, 83, 84, 85, 86, 87, 88, 89, 90, 91, 92, 93, 94, 95, 96, 97, 98, 99, 100, 101, 102] f).getD 90 undef = .bool false := (patch_get (by omega) (by decide)).trans (hF 21 (by omega) (hd 21 p22_21))
      go_simp
      exact hK _ _ ⟨upd f 91 (.bool false), by rw [patch_set (by decide)], hA, dg11t_upd (i := 22) (by omega) hF (Below.refl _ _) rfl⟩
    | 23, _ =>
      have e := o23
      unfold opIsG at e
      rw [ho] at e
      simp only [Option.map_some, Option.some.injEq, Prod.mk.injEq] at e
      obtain ⟨rfl, rfl, rfl⟩ := e
      refine wpOp_step ho (fun K hK => ?_)
      have yg : (patch t [69, 70, 71, 72, 73, 74, 75, 76, 77, 78, 79, 80, 81, 82, 83, 84, 85, 86, 87, 88, 89, 90, 91, 92, 93, 94, 95, 96, 97, 98, 99, 100, 101, 102] f).getD 91 undef = .bool false := (patch_get (by omega) (by decide)).trans (hF 22 (by omega) (hd 22 p23_22))
      rw [if_pos (wanted_yes rfl (yielded_of o22 yg (by rw [patch_size]; omega)))]
      have x9 : (patch t [69, 70, 71, 72, 73, 74, 75, 76, 77, 78, 79, 80, 81, 82, 83, 84, 85, 86, 87, 88, 89, 90, 91, 92, 93, 94, 95, 96, 97, 98, 99, 100, 101, 102] f).getD 6 undef = .pointer (some ⟨q0, 0, none⟩) := (patch_out (by decide)).trans hp6
      go_simp
      exact hK _ _ ⟨upd f 92 (.pointer (some ⟨q0, 0, none⟩)), by rw [patch_set (by decide)], hA, dg11t_upd (i := 23) (by omega) hF (Below.refl _ _) rfl⟩
    | 24, _ =>
      have e := o24
      unfold opIsG at e
      rw [ho] at e
      simp only [Option.map_some, Option.some.injEq, Prod.mk.injEq] at e
      obtain ⟨rfl, rfl, rfl⟩ := e
      refine wpOp_step ho (fun K hK => ?_)
      have yg : (patch t [69, 70, 71, 72, 73, 74, 75, 76, 77, 78, 79, 80, 81, 82, 83, 84, 85, 86, 87, 88, 89, 90, 91, 92, 93, 94, 95, 96, 97, 98, 99, 100, 101, 102] f).getD 91 undef = .bool false := (patch_get (by omega) (by decide)).trans (hF 22 (by omega) (hd 22 p24_22))
      rw [if_pos (wanted_yes rfl (yielded_of o22 yg (by rw [patch_size]; omega)))]
      have x23 : (patch t [69, 70, 71, 72, 73, 74, 75, 76, 77, 78, 79, 80, 81, 82, 83, 84, 85, 86, 87, 88, 89, 90, 91, 92, 93, 94, 95, 96, 97, 98, 99, 100, 101, 102] f).getD 92 undef = .pointer (some ⟨q0, 0, none⟩) := (patch_get (by omega) (by decide)).trans (hF 23 (by omega) (hd 23 p24_23))
      obtain ⟨w1, w2⟩ := h0 W hA
      go_simp
      exact hK _ _ ⟨upd f 93 (.bool true), by rw [patch_set (by decide)], hA, dg11t_upd (i := 24) (by omega) hF (Below.refl _ _) rfl⟩
    | 25, _ =>
      have e := o25
      unfold opIsG at e
      rw [ho] at e
      simp only [Option.map_some, Option.some.injEq, Prod.mk.injEq] at e
      obtain ⟨rfl, rfl, rfl⟩ := e
      refine wpOp_step ho (fun K hK => ?_)
      have yg : (patch t [69, 70, 71, 72, 73, 74, 75, 76, 77, 78, 79, 80, 81, 82, 83, 84, 85, 86, 87, 88, 89, 90, 91, 92, 93, 94, 95, 96, 97, 98, 99, 100, 101, 102] f).getD 91 undef = .bool false := (patch_get (by omega) (by decide)).trans (hF 22 (by omega) (hd 22 p25_22))
      rw [if_pos (wanted_yes rfl (yielded_of o22 yg (by rw [patch_size]; omega)))]
      have x24 : (patch t [69, 70, 71, 72, 73, 74, 75, 76, 77, 78, 79, 80, 81, 82, 83, 84, 85, 86, 87, 88, 89, 90, 91, 92, 93, 94, 95, 96, 97, 98, 99, 100, 101, 102] f).getD 93 undef = .bool true := (patch_get (by omega) (by decide)).trans (hF 24 (by omega) (hd 24 p25_24))
      go_simp
      exact hK _ _ ⟨upd f 94 (.bool true), by rw [patch_set (by decide)], hA, dg11t_upd (i := 25) (by omega) hF (Below.refl _ _) rfl⟩
    | 26, _ =>
      have e := o26
      unfold opIsG at e
      rw [ho] at e
      simp only [Option.map_some, Option.some.injEq, Prod.mk.injEq] at e
      obtain ⟨rfl, rfl, rfl⟩ := e
      refine wpOp_step ho (fun K hK => ?_)
      have yg : (patch t [69, 70, 71, 72, 73, 74, 75, 76, 77, 78, 79, 80, 81, 82, 83, 84, 85, 86, 87, 88, 89, 90, 91, 92, 93, 94, 95, 96, 97, 98, 99, 100, 101, 102] f).getD 94 undef = .bool true := (patch_get (by omega) (by decide)).trans (hF 25 (by omega) (hd 25 p26_25))
      rw [if_pos (wanted_yes rfl (yielded_of o25 yg (by rw [patch_size]; omega)))]
      have x9 : (patch t [69, 70, 71, 72, 73, 74, 75, 76, 77, 78, 79, 80, 81, 82, 83, 84, 85, 86, 87, 88, 89, 90, 91, 92, 93, 94, 95, 96, 97, 98, 99, 100, 101, 102] f).getD 6 undef = .pointer (some ⟨q0, 0, none⟩) := (patch_out (by decide)).trans hp6
      obtain ⟨w1, w2⟩ := h0 W hA
      go_simp
      exact hK _ _ ⟨upd f 95 (.agg #[.bool true, .slice A0 n0 c0]), by rw [patch_set (by decide)], hA, dg11t_upd (i := 26) (by omega) hF (Below.refl _ _) rfl⟩
    | 27, _ =>
      have e := o27
      unfold opIsG at e
      rw [ho] at e
      simp only [Option.map_some, Option.some.injEq, Prod.mk.injEq] at e
      obtain ⟨rfl, rfl, rfl⟩ := e
      refine wpOp_step ho (fun K hK => ?_)
      have yg : (patch t [69, 70, 71, 72, 73, 74, 75, 76, 77, 78, 79, 80, 81, 82, 83, 84, 85, 86, 87, 88, 89, 90, 91, 92, 93, 94, 95, 96, 97, 98, 99, 100, 101, 102] f).getD 94 undef = .bool true := (patch_get (by omega) (by decide)).trans (hF 25 (by omega) (hd 25 p27_25))
      rw [if_pos (wanted_yes rfl (yielded_of o25 yg (by rw [patch_size]; omega)))]
      have x26 : (patch t [69, 70, 71, 72, 73, 74, 75, 76, 77, 78, 79, 80, 81, 82, 83, 84, 85, 86, 87, 88, 89, 90, 91, 92, 93, 94, 95, 96, 97, 98, 99, 100, 101, 102] f).getD 95 undef = .agg #[.bool true, .slice A0 n0 c0] := (patch_get (by omega) (by decide)).trans (hF 26 (by omega) (hd 26 p27_26))
      go_simp
      refine (hTa W hA).mono ?_
      rintro e w1 ⟨rfl, hb⟩
      exact hK _ _ ⟨upd f 96 (.string ⟨(45 :: tx).toArray⟩), by rw [patch_set (by decide)], (hMV _ _ hA hb), dg11t_upd (i := 27) (by omega) hF hb rfl⟩
    | 28, _ =>
      have e := o28
      unfold opIsG at e
      rw [ho] at e
      simp only [Option.map_some, Option.some.injEq, Prod.mk.injEq] at e
      obtain ⟨rfl, rfl, rfl⟩ := e
      refine wpOp_step ho (fun K hK => ?_)
      have yg : (patch t [69, 70, 71, 72, 73, 74, 75, 76, 77, 78, 79, 80, 81, 82, 83, 84, 85, 86, 87, 88, 89, 90, 91, 92, 93, 94, 95, 96, 97, 98, 99, 100, 101, 102] f).getD 94 undef = .bool true := (patch_get (by omega) (by decide)).trans (hF 25 (by omega) (hd 25 p28_25))
      rw [if_pos (wanted_yes rfl (yielded_of o25 yg (by rw [patch_size]; omega)))]
      have x9 : (patch t [69, 70, 71, 72, 73, 74, 75, 76, 77, 78, 79, 80, 81, 82, 83, 84, 85, 86, 87, 88, 89, 90, 91, 92, 93, 94, 95, 96, 97, 98, 99, 100, 101, 102] f).getD 9 undef = .pointer (some ⟨q2, 0, none⟩) := (patch_out (by decide)).trans hp9
      obtain ⟨w1, w2⟩ := h2 W hA
      go_simp
      exact hK _ _ ⟨upd f 97 (.agg #[.bool false, .slice A0 n0 c0]), by rw [patch_set (by decide)], hA, dg11t_upd (i := 28) (by omega) hF (Below.refl _ _) rfl⟩
    | 29, _ =>
      have e := o29
      unfold opIsG at e
      rw [ho] at e
      simp only [Option.map_some, Option.some.injEq, Prod.mk.injEq] at e
      obtain ⟨rfl, rfl, rfl⟩ := e
      refine wpOp_step ho (fun K hK => ?_)
      have yg : (patch t [69, 70, 71, 72, 73, 74, 75, 76, 77, 78, 79, 80, 81, 82, 83, 84, 85, 86, 87, 88, 89, 90, 91, 92, 93, 94, 95, 96, 97, 98, 99, 100, 101, 102] f).getD 94 undef = .bool true := (patch_get (by omega) (by decide)).trans (hF 25 (by omega) (hd 25 p29_25))
      rw [if_pos (wanted_yes rfl (yielded_of o25 yg (by rw [patch_size]; omega)))]
      have x28 : (patch t [69, 70, 71, 72, 73, 74, 75, 76, 77, 78, 79, 80, 81, 82, 83, 84, 85, 86, 87, 88, 89, 90, 91, 92, 93, 94, 95, 96, 97, 98, 99, 100, 101, 102] f).getD 97 undef = .agg #[.bool false, .slice A0 n0 c0] := (patch_get (by omega) (by decide)).trans (hF 28 (by omega) (hd 28 p29_28))
      go_simp
      refine (hTx W hA).mono ?_
      rintro e w1 ⟨rfl, hb⟩
      exact hK _ _ ⟨upd f 98 (.string ⟨tx.toArray⟩), by rw [patch_set (by decide)], (hMV _ _ hA hb), dg11t_upd (i := 29) (by omega) hF hb rfl⟩
    | 30, _ =>
      have e := o30
      unfold opIsG at e
      rw [ho] at e
      simp only [Option.map_some, Option.some.injEq, Prod.mk.injEq] at e
      obtain ⟨rfl, rfl, rfl⟩ := e
      refine wpOp_step ho (fun K hK => ?_)
      have yg : (patch t [69, 70, 71, 72, 73, 74, 75, 76, 77, 78, 79, 80, 81, 82, 83, 84, 85, 86, 87, 88, 89, 90, 91, 92, 93, 94, 95, 96, 97, 98, 99, 100, 101, 102] f).getD 94 undef = .bool true := (patch_get (by omega) (by decide)).trans (hF 25 (by omega) (hd 25 p30_25))
      rw [if_pos (wanted_yes rfl (yielded_of o25 yg (by rw [patch_size]; omega)))]
      have x29 : (patch t [69, 70, 71, 72, 73, 74, 75, 76, 77, 78, 79, 80, 81, 82, 83, 84, 85, 86, 87, 88, 89, 90, 91, 92, 93, 94, 95, 96, 97, 98, 99, 100, 101, 102] f).getD 98 undef = .string ⟨tx.toArray⟩ := (patch_get (by omega) (by decide)).trans (hF 29 (by omega) (hd 29 p30_29))
      go_simp
      rw [if_neg (by omega), bcons]
      go_simp
      exact hK _ _ ⟨upd f 99 (.string ⟨(45 :: tx).toArray⟩), by rw [patch_set (by decide)], hA, dg11t_upd (i := 30) (by omega) hF (Below.refl _ _) rfl⟩
    | 31, _ =>
      have e := o31
      unfold opIsG at e
      rw [ho] at e
      simp only [Option.map_some, Option.some.injEq, Prod.mk.injEq] at e
      obtain ⟨rfl, rfl, rfl⟩ := e
      refine wpOp_step ho (fun K hK => ?_)
      have yg : (patch t [69, 70, 71, 72, 73, 74, 75, 76, 77, 78, 79, 80, 81, 82, 83, 84, 85, 86, 87, 88, 89, 90, 91, 92, 93, 94, 95, 96, 97, 98, 99, 100, 101, 102] f).getD 94 undef = .bool true := (patch_get (by omega) (by decide)).trans (hF 25 (by omega) (hd 25 p31_25))
      rw [if_pos (wanted_yes rfl (yielded_of o25 yg (by rw [patch_size]; omega)))]
      have x27 : (patch t [69, 70, 71, 72, 73, 74, 75, 76, 77, 78, 79, 80, 81, 82, 83, 84, 85, 86, 87, 88, 89, 90, 91, 92, 93, 94, 95, 96, 97, 98, 99, 100, 101, 102] f).getD 96 undef = .string ⟨(45 :: tx).toArray⟩ := (patch_get (by omega) (by decide)).trans (hF 27 (by omega) (hd 27 p31_27))
      have x30 : (patch t [69, 70, 71, 72, 73, 74, 75, 76, 77, 78, 79, 80, 81, 82, 83, 84, 85, 86, 87, 88, 89, 90, 91, 92, 93, 94, 95, 96, 97, 98, 99, 100, 101, 102] f).getD 99 undef = .string ⟨(45 :: tx).toArray⟩ := (patch_get (by omega) (by decide)).trans (hF 30 (by omega) (hd 30 p31_30))
      go_simp
      exact hK _ _ ⟨upd f 100 (.bool false), by rw [patch_set (by decide)], hA, dg11t_upd (i := 31) (by omega) hF (Below.refl _ _) rfl⟩
    | 32, _ =>
      have e := o32
      unfold opIsG at e
      rw [ho] at e
      simp only [Option.map_some, Option.some.injEq, Prod.mk.injEq] at e
      obtain ⟨rfl, rfl, rfl⟩ := e
      refine wpOp_step ho (fun K hK => ?_)
      have yg : (patch t [69, 70, 71, 72, 73, 74, 75, 76, 77, 78, 79, 80, 81, 82, 83, 84, 85, 86, 87, 88, 89, 90, 91, 92, 93, 94, 95, 96, 97, 98, 99, 100, 101, 102] f).getD 91 undef = .bool false := (patch_get (by omega) (by decide)).trans (hF 22 (by omega) (hd 22 p32_22))
      rw [if_pos (wanted_yes rfl (yielded_of o22 yg (by rw [patch_size]; omega)))]
      have x25 : (patch t [69, 70, 71, 72, 73, 74, 75, 76, 77, 78, 79, 80, 81, 82, 83, 84, 85, 86, 87, 88, 89, 90, 91, 92, 93, 94, 95, 96, 97, 98, 99, 100, 101, 102] f).getD 94 undef = .bool true := (patch_get (by omega) (by decide)).trans (hF 25 (by omega) (hd 25 p32_25))
      have x31 : (patch t [69, 70, 71, 72, 73, 74, 75, 76, 77, 78, 79, 80, 81, 82, 83, 84, 85, 86, 87, 88, 89, 90, 91, 92, 93, 94, 95, 96, 97, 98, 99, 100, 101, 102] f).getD 100 undef = .bool false := (patch_get (by omega) (by decide)).trans (hF 31 (by omega) (hd 31 p32_31))
      go_simp
      exact hK _ _ ⟨upd f 101 (.bool false), by rw [patch_set (by decide)], hA, dg11t_upd (i := 32) (by omega) hF (Below.refl _ _) rfl⟩
    | 33, _ =>
      have e := o33
      unfold opIsG at e
      rw [ho] at e
      simp only [Option.map_some, Option.some.injEq, Prod.mk.injEq] at e
      obtain ⟨rfl, rfl, rfl⟩ := e
      refine wpOp_step ho (fun K hK => ?_)
      rw [if_pos (wanted_none rfl)]
      have x22 : (patch t [69, 70, 71, 72, 73, 74, 75, 76, 77, 78, 79, 80, 81, 82, 83, 84, 85, 86, 87, 88, 89, 90, 91, 92, 93, 94, 95, 96, 97, 98, 99, 100, 101, 102] f).getD 91 undef = .bool false := (patch_get (by omega) (by decide)).trans (hF 22 (by omega) (hd 22 p33_22))
      have x32 : (patch t [69, 70, 71, 72, 73, 74, 75, 76, 77, 78, 79, 80, 81, 82, 83, 84, 85, 86, 87, 88, 89, 90, 91, 92, 93, 94, 95, 96, 97, 98, 99, 100, 101, 102] f).getD 101 undef = .bool false := (patch_get (by omega) (by decide)).trans (hF 32 (by omega) (hd 32 p33_32))
      go_simp
      exact hK _ _ ⟨upd f 102 (.bool false), by rw [patch_set (by decide)], hA, dg11t_upd (i := 33) (by omega) hF (Below.refl _ _) rfl⟩
    | k + 34, h => exact absurd h (by omega)
  · rintro L a W hL ⟨f, rfl, hA, hF⟩
    exact hQ f W hA (hF 33 (by omega) (hL 33 (by omega)))
def dg13Fact (A0 : Option Addr) (n0 c0 : Nat) (A1 : Option Addr) (n1 c1 : Nat) (tx tu : List UInt8) (q1 : Nat) (j : Nat) (u : Value) (_W : World) : Prop := match j with
  | 0 => u = .agg #[.bool false, .slice A0 n0 c0]
  | 1 => u = .string ⟨tx.toArray⟩
  | 2 => u = .pointer (some ⟨q1, 1, none⟩)
  | 3 => u = .slice A1 n1 c1
  | 4 => u = .agg #[.bool false, .slice A1 n1 c1]
  | 5 => u = .string ⟨tu.toArray⟩
  | 6 => u = .string ⟨tx.toArray⟩
  | 7 => u = .string ⟨tu.toArray⟩
  | _ => True
def dg13Slot (j : Nat) : Nat := match j with
  | 0 => 103
  | 1 => 104
  | 2 => 105
  | 3 => 106
  | 4 => 107
  | 5 => 108
  | 6 => 17
  | 7 => 18
  | _ => 0
theorem dg13_via {A0 : Option Addr} {n0 c0 : Nat} {A1 : Option Addr} {n1 c1 : Nat} {tx tu : List UInt8} {q1 : Nat} {j : Nat} {u : Value} {W W1 : World} (h : dg13Fact A0 n0 c0 A1 n1 c1 tx tu q1 j u W) (_hb : Below W.heap.size W W1) : dg13Fact A0 n0 c0 A1 n1 c1 tx tu q1 j u W1 := by
  unfold dg13Fact at h ⊢
  split <;> first | exact h | exact HoldsN.via h _hb | trivial | fail "no"
theorem dg13_inj : ∀ x, x < 8 → ∀ y, y < 8 → x ≠ y → dg13Slot x ≠ dg13Slot y := by decide
theorem dg13_upd {A0 : Option Addr} {n0 c0 : Nat} {A1 : Option Addr} {n1 c1 : Nat} {tx tu : List UInt8} {q1 : Nat} {f : Nat → Value} {L : Array Bool} {i : Nat} {v : Value} {W W1 : World} (hi : i < 8) (hF : ∀ j, j < 8 → L.getD j false = true → dg13Fact A0 n0 c0 A1 n1 c1 tx tu q1 j (f (dg13Slot j)) W) (hb : Below W.heap.size W W1) (hv : dg13Fact A0 n0 c0 A1 n1 c1 tx tu q1 i v W1) :
    ∀ j, j < 8 → (L.setIfInBounds i true).getD j false = true → dg13Fact A0 n0 c0 A1 n1 c1 tx tu q1 j (upd f (dg13Slot i) v (dg13Slot j)) W1 := by
  intro j hj h
  by_cases hji : j = i
  · subst hji; rw [upd_same]; exact hv
  · rw [upd_other (dg13_inj j hj i hi hji)]
    rcases getD_set h with h | h
    · exact absurd h hji
    · exact dg13_via (hF j hj h) hb
def dg13Inv (MM : World → Prop) (t : Array Value) (df : List Deferred) (A0 : Option Addr) (n0 c0 : Nat) (A1 : Option Addr) (n1 c1 : Nat) (tx tu : List UInt8) (q1 : Nat) (L : Array Bool) (a : Act) (W : World) : Prop :=
  ∃ f, a = ⟨patch t [103, 104, 105, 106, 107, 108, 17, 18] f, df⟩ ∧ MM W ∧ (∀ j, j < 8 → L.getD j false = true → dg13Fact A0 n0 c0 A1 n1 c1 tx tu q1 j (f (dg13Slot j)) W)
set_option maxRecDepth 100000 in
set_option maxHeartbeats 4000000 in
theorem dg13_region {ops : Array Oper} {Q : Exit → Act → World → Prop} {id : Nat} (MM : World → Prop) (t : Array Value) (df : List Deferred) (W : World) (A0 : Option Addr) (n0 c0 : Nat) (A1 : Option Addr) (n1 c1 : Nat) (tx tu : List UInt8) (q1 : Nat)
    (hsz : ops.size = 8) (hback : backB ops = true) (hts : 108 < t.size)
    (hM0 : MM W.drew) (hMV : ∀ W W1, MM W → Below W.heap.size W W1 → MM W1)
    (q2 : Nat)
    (hp9 : t.getD 9 undef = .pointer (some ⟨q2, 0, none⟩))
    (hp7 : t.getD 7 undef = .pointer (some ⟨q1, 0, none⟩))
    (h0 : ∀ W, MM W → W.cell? ⟨q2, 0, none⟩ = some (.bool false) ∧ W.cell? ⟨q2, 1, none⟩ = some (.slice A0 n0 c0))
    (h1 : ∀ W, MM W → W.cell? ⟨q1, 1, none⟩ = some (.slice A1 n1 c1))
    (hT0 : ∀ W, MM W → Calls Tryd.prog 12 #[.agg #[.bool false, .slice A0 n0 c0]] W fun e w1 => e = .returned (.string ⟨tx.toArray⟩) ∧ Below W.heap.size W w1)
    (hT1 : ∀ W, MM W → Calls Tryd.prog 12 #[.agg #[.bool false, .slice A1 n1 c1]] W fun e w1 => e = .returned (.string ⟨tu.toArray⟩) ∧ Below W.heap.size W w1)
    (o0 : opIsG ops 0 (some 103) (.load 25 (.tmp 9)) none)
    (o1 : opIsG ops 1 (some 104) (.call { callee := .value (.func 12), args := #[.tmp 103], argTypes := #[25] }) none)
    (o2 : opIsG ops 2 (some 105) (.fieldAddr 25 (.tmp 7) 1) none)
    (o3 : opIsG ops 3 (some 106) (.load 23 (.tmp 105)) none)
    (o4 : opIsG ops 4 (some 107) (.build 25 #[(1, .tmp 106)]) none)
    (o5 : opIsG ops 5 (some 108) (.call { callee := .value (.func 12), args := #[.tmp 107], argTypes := #[25] }) none)
    (o6 : opIsG ops 6 (some 17) (.assign (.tmp 104)) none)
    (o7 : opIsG ops 7 (some 18) (.assign (.tmp 108)) none)
    (p1_0 : depB ops 1 0 = true)
    (p3_2 : depB ops 3 2 = true)
    (p4_3 : depB ops 4 3 = true)
    (p5_4 : depB ops 5 4 = true)
    (p6_1 : depB ops 6 1 = true)
    (p7_5 : depB ops 7 5 = true)
    (hQ : ∀ f W, MM W → (f 17 = .string ⟨tx.toArray⟩) → (f 18 = .string ⟨tu.toArray⟩) → Q .normal ⟨patch t [103, 104, 105, 106, 107, 108, 17, 18] f, df⟩ W) : (Code.region id ops true).wp Tryd.prog Q ⟨t, df⟩ W := by
  refine wp_region_inv (by kernel_rfl) hback (dg13Inv MM t df A0 n0 c0 A1 n1 c1 tx tu q1) ?_ ?_ ?_
  · refine ⟨_, congrArg (fun x => (⟨x, df⟩ : Act)) (patch_start t [103, 104, 105, 106, 107, 108, 17, 18]).symm, hM0, fun j _ h => ?_⟩
    simp [Array.getD] at h
  · rintro L a W i o ho hzz hc hl hd ⟨f, rfl, hA, hF⟩
    have hi : i < 8 := by have := (Array.getElem?_eq_some_iff.1 ho).1; omega
    obtain ⟨dst, op, ty, pos, after, guard⟩ := o
    match i, hi with
    | 0, _ =>
      have e := o0
      unfold opIsG at e
      rw [ho] at e
      simp only [Option.map_some, Option.some.injEq, Prod.mk.injEq] at e
      obtain ⟨rfl, rfl, rfl⟩ := e
      refine wpOp_step ho (fun K hK => ?_)
      rw [if_pos (wanted_none rfl)]
      have x9 : (patch t [103, 104, 105, 106, 107, 108, 17, 18] f).getD 9 undef = .pointer (some ⟨q2, 0, none⟩) := (patch_out (by decide)).trans hp9
      obtain ⟨w1, w2⟩ := h0 W hA
      go_simp
      exact hK _ _ ⟨upd f 103 (.agg #[.bool false, .slice A0 n0 c0]), by rw [patch_set (by decide)], hA, dg13_upd (i := 0) (by omega) hF (Below.refl _ _) rfl⟩
    | 1, _ =>
      have e := o1
      unfold opIsG at e
      rw [ho] at e
      simp only [Option.map_some, Option.some.injEq, Prod.mk.injEq] at e
      obtain ⟨rfl, rfl, rfl⟩ := e
      refine wpOp_step ho (fun K hK => ?_)
      rw [if_pos (wanted_none rfl)]
      have x0 : (patch t [103, 104, 105, 106, 107, 108, 17, 18] f).getD 103 undef = .agg #[.bool false, .slice A0 n0 c0] := (patch_get (by omega) (by decide)).trans (hF 0 (by omega) (hd 0 p1_0))
      go_simp
      refine (hT0 W hA).mono ?_
      rintro e w1 ⟨rfl, hb⟩
      exact hK _ _ ⟨upd f 104 (.string ⟨tx.toArray⟩), by rw [patch_set (by decide)], (hMV _ _ hA hb), dg13_upd (i := 1) (by omega) hF hb rfl⟩
    | 2, _ =>
      have e := o2
      unfold opIsG at e
      rw [ho] at e
      simp only [Option.map_some, Option.some.injEq, Prod.mk.injEq] at e
      obtain ⟨rfl, rfl, rfl⟩ := e
      refine wpOp_step ho (fun K hK => ?_)
      rw [if_pos (wanted_none rfl)]
      have x9 : (patch t [103, 104, 105, 106, 107, 108, 17, 18] f).getD 7 undef = .pointer (some ⟨q1, 0, none⟩) := (patch_out (by decide)).trans hp7
      go_simp
      exact hK _ _ ⟨upd f 105 (.pointer (some ⟨q1, 1, none⟩)), by rw [patch_set (by decide)], hA, dg13_upd (i := 2) (by omega) hF (Below.refl _ _) rfl⟩
    | 3, _ =>
      have e := o3
      unfold opIsG at e
      rw [ho] at e
      simp only [Option.map_some, Option.some.injEq, Prod.mk.injEq] at e
      obtain ⟨rfl, rfl, rfl⟩ := e
      refine wpOp_step ho (fun K hK => ?_)
      rw [if_pos (wanted_none rfl)]
      have x2 : (patch t [103, 104, 105, 106, 107, 108, 17, 18] f).getD 105 undef = .pointer (some ⟨q1, 1, none⟩) := (patch_get (by omega) (by decide)).trans (hF 2 (by omega) (hd 2 p3_2))
      have w1 := h1 W hA
      go_simp
      exact hK _ _ ⟨upd f 106 (.slice A1 n1 c1), by rw [patch_set (by decide)], hA, dg13_upd (i := 3) (by omega) hF (Below.refl _ _) rfl⟩
    | 4, _ =>
      have e := o4
      unfold opIsG at e
      rw [ho] at e
      simp only [Option.map_some, Option.some.injEq, Prod.mk.injEq] at e
      obtain ⟨rfl, rfl, rfl⟩ := e
      refine wpOp_step ho (fun K hK => ?_)
      rw [if_pos (wanted_none rfl)]
      have x3 : (patch t [103, 104, 105, 106, 107, 108, 17, 18] f).getD 106 undef = .slice A1 n1 c1 := (patch_get (by omega) (by decide)).trans (hF 3 (by omega) (hd 3 p4_3))
      rw [Array.getD_eq_getD_getElem?] at x3
      go_simp
      exact hK _ _ ⟨upd f 107 (.agg #[.bool false, .slice A1 n1 c1]), by rw [patch_set (by decide)], hA, dg13_upd (i := 4) (by omega) hF (Below.refl _ _) rfl⟩
    | 5, _ =>
      have e := o5
      unfold opIsG at e
      rw [ho] at e
      simp only [Option.map_some, Option.some.injEq, Prod.mk.injEq] at e
      obtain ⟨rfl, rfl, rfl⟩ := e
      refine wpOp_step ho (fun K hK => ?_)
      rw [if_pos (wanted_none rfl)]
      have x4 : (patch t [103, 104, 105, 106, 107, 108, 17, 18] f).getD 107 undef = .agg #[.bool false, .slice A1 n1 c1] := (patch_get (by omega) (by decide)).trans (hF 4 (by omega) (hd 4 p5_4))
      go_simp
      refine (hT1 W hA).mono ?_
      rintro e w1 ⟨rfl, hb⟩
      exact hK _ _ ⟨upd f 108 (.string ⟨tu.toArray⟩), by rw [patch_set (by decide)], (hMV _ _ hA hb), dg13_upd (i := 5) (by omega) hF hb rfl⟩
    | 6, _ =>
      have e := o6
      unfold opIsG at e
      rw [ho] at e
      simp only [Option.map_some, Option.some.injEq, Prod.mk.injEq] at e
      obtain ⟨rfl, rfl, rfl⟩ := e
      refine wpOp_step ho (fun K hK => ?_)
      rw [if_pos (wanted_none rfl)]
      have x1 : (patch t [103, 104, 105, 106, 107, 108, 17, 18] f).getD 104 undef = .string ⟨tx.toArray⟩ := (patch_get (by omega) (by decide)).trans (hF 1 (by omega) (hd 1 p6_1))
      go_simp
      exact hK _ _ ⟨upd f 17 (.string ⟨tx.toArray⟩), by rw [patch_set (by decide)], hA, dg13_upd (i := 6) (by omega) hF (Below.refl _ _) rfl⟩
    | 7, _ =>
      have e := o7
      unfold opIsG at e
      rw [ho] at e
      simp only [Option.map_some, Option.some.injEq, Prod.mk.injEq] at e
      obtain ⟨rfl, rfl, rfl⟩ := e
      refine wpOp_step ho (fun K hK => ?_)
      rw [if_pos (wanted_none rfl)]
      have x5 : (patch t [103, 104, 105, 106, 107, 108, 17, 18] f).getD 108 undef = .string ⟨tu.toArray⟩ := (patch_get (by omega) (by decide)).trans (hF 5 (by omega) (hd 5 p7_5))
      go_simp
      exact hK _ _ ⟨upd f 18 (.string ⟨tu.toArray⟩), by rw [patch_set (by decide)], hA, dg13_upd (i := 7) (by omega) hF (Below.refl _ _) rfl⟩
    | k + 8, h => exact absurd h (by omega)
  · rintro L a W hL ⟨f, rfl, hA, hF⟩
    exact hQ f W hA (hF 6 (by omega) (hL 6 (by omega))) (hF 7 (by omega) (hL 7 (by omega)))
end Go.Proofs.YthnickjbknpmhaaDoor
