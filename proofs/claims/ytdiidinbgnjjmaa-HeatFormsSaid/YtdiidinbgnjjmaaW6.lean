/-
  The contracts of the generators: Mod, Next, Made, Warm, Odd, and the case's made.
-/
import Derived.Test.YtdiidinbgnjjmaaW5
import Derived.Laws.AppendOwn
namespace Go.Proofs.Ytdiidinbgnjjmaa
open Go.RowKit

theorem tmod_bd (n m : Int) (h : 1 ≤ m) : -m < n.tmod m ∧ n.tmod m < m := by
  have := Int.tmod_lt_of_pos n (show 0 < m by omega)
  have h2 := Int.lt_tmod_of_pos n (show 0 < m by omega)
  omega
theorem mod_twice (n m : Int) : (n.tmod m + m) % m = n % m := by
  rw [Int.add_emod_right]
  have h1 := Int.tmod_add_mul_tdiv n m
  have h2 : n % m = (n.tmod m + m * n.tdiv m) % m := by rw [h1]
  rw [h2, Int.add_mul_emod_self_left]
theorem emod_bd (n m : Int) (h : 1 ≤ m) : 0 ≤ n % m ∧ n % m < m := ⟨Int.emod_nonneg _ (by omega), Int.emod_lt_of_pos _ (by omega)⟩

set_option maxHeartbeats 400000 in
theorem mod_any (n m : Int) (w : World) (h : 1 ≤ m) (h2 : m ≤ 4611686018427387904) :
    Calls Try.prog 14 #[.int .i64 n, .int .i64 m] w fun e w' => e = .returned (.int .i64 (n % m)) ∧ w = w' := by
  obtain ⟨a1, a2⟩ := tmod_bd n m h
  have E := Lib.hid (mod_twice n m)
  have hm : (m == 0) = false := by simp; omega
  go_enter Try.func14, Try.ntmps14
  go_wp2
  go_ret
  exact ⟨ret_int E.out, rfl⟩

theorem quiet_add_left {P : Program} {f : FuncId} {args : Array Value} {w : World} {a n : Nat} {v : Value}
    (h : Calls P f args (w.drewN (a + n)) fun e w' => e = .returned v ∧ w.drewN (a + n) = w') :
    Calls P f args (w.drewN (a + n)) fun e w'' => e = .returned v ∧ ∃ m, w'' = w.drewN (a + m) :=
  h.mono fun _ _ ⟨he, hm⟩ => ⟨he, n, hm.symm⟩
theorem Below.cell?_far (w : World) (p a : Addr) (v : Value) (h : a.block ≠ p.block) : (w.setCell p v).cell? a = w.cell? a := World.cell?_of_block (Below.heap_setCell w p v _ h)
theorem quiet_left {P : Program} {f : FuncId} {args : Array Value} {w : World} {n : Nat} {v : Value}
    (h : Calls P f args (w.drewN n) fun e w' => e = .returned v ∧ w.drewN n = w') : Calls P f args (w.drewN n) fun e w'' => e = .returned v ∧ ∃ m, w'' = w.drewN m :=
  h.mono fun _ _ ⟨he, hm⟩ => ⟨he, n, hm.symm⟩
theorem only_drewN {a w : World} {row : Option Nat} (h : a.grownBy w row) (n : Nat) : a.grownBy (w.drewN n) row := ⟨h.os, h.tape, h.output, h.size, h.block⟩
theorem only_setCell {a w : World} {g : Nat} (h : a.grownBy w (some g)) {p : Addr} (hp : p.block = g ∨ a.heap.size ≤ p.block) (u : Value) : a.grownBy (w.setCell p u) (some g) :=
  ⟨h.os, h.tape, h.output, by simpa [World.setCell] using h.size, fun i hi hne => (Below.heap_setCell w p u i (by
    rintro rfl
    rcases hp with hp | hp
    · exact hne (by rw [hp])
    · omega)).trans (h.block i hi hne)⟩
theorem only_of_below {a w : World} (h : Below a.heap.size a w) (row : Option Nat) : a.grownBy w row := ⟨h.os, h.tape, h.output, h.size, fun i hi _ => h.block i hi⟩

def NextP (gd : Nat) (A : Option Addr) (n c : Nat) (m : Int) (w : World) (e : Ending) (w' : World) : Prop :=
  ∃ v a : Int, e = .returned (.int .i64 v) ∧ 0 ≤ v ∧ v < m ∧ 0 ≤ a ∧ a ≤ n ∧ w'.cell? ⟨gd, 0, none⟩ = some (.slice A n c) ∧ w'.cell? ⟨gd, 1, none⟩ = some (.int .i64 a) ∧ w'.frozen? ⟨gd, 1, none⟩ = false ∧ w.grownBy w' (some gd)

set_option maxHeartbeats 400000 in
theorem next_any (gd : Nat) (A : Option Addr) (n c B : Nat) (m a : Int) (zs : List Int) (w : World) (hr : Reads w B 1 A n (zs.map (Value.int .i64))) (hB : B ≤ gd)
    (h : 1 ≤ m) (h2 : m ≤ 4611686018427387904) (hn : n ≤ 9223372036854775807) (ha0 : 0 ≤ a) (ha1 : a ≤ n)
    (hc0 : w.cell? ⟨gd, 0, none⟩ = some (.slice A n c)) (hc1 : w.cell? ⟨gd, 1, none⟩ = some (.int .i64 a)) (hf1 : w.frozen? ⟨gd, 1, none⟩ = false) :
    Calls Try.prog 37 #[.pointer (some ⟨gd, 0, none⟩), .int .i64 m] w (NextP gd A n c m w) := by
  by_cases hlt : a < n
  · obtain ⟨a, rfl⟩ := Int.eq_ofNat_of_zero_le ha0
    have hlt' : a < n := by omega
    obtain ⟨ad, u, rfl, hb, hu, hc⟩ := hr.at_ hlt'
    have hlen : zs.length = n := by have := hr.1; simpa using this
    have hk' : a < zs.length := by omega
    obtain rfl : u = .int .i64 zs[a] := by
      rw [List.getElem?_map, List.getElem?_eq_getElem hk'] at hu
      simpa using hu.symm
    obtain ⟨z, hz⟩ : ∃ z, z = zs[a] := ⟨_, rfl⟩
    rw [← hz] at hc
    have hne : ad.block ≠ gd := by omega
    have hw : IntKind.i64.wrap (a : Int) = a := IntWalk.i64_in _ (by omega)
    have hc' : ∀ k u, ((w.drewN k).setCell ⟨gd, 1, none⟩ u).cell? (ad.add a) = some (.int .i64 z) := fun k u => (Below.cell?_far (w.drewN k) _ _ _ (by rw [block_of_add]; exact hne)).trans hc
    clear hu hr hlen hz hne
    go_enter Try.func37, Try.ntmps37
    go_wp2
    go_quiet (fail)
    go_wp2
    go_quiet ((go_at_call 14; exact quiet_left (mod_any _ _ _ h h2)))
    go_wp2
    go_ret
    obtain ⟨e1, e2⟩ := emod_bd z m h
    refine ⟨z % m, a + 1, rfl, e1, e2, by omega, by omega, ?_, ?_, ?_, ?_⟩
    · simp [go_sem, hc0]
    · simp [go_sem, hc1]
    · simp [go_sem, hf1]
    · exact only_drewN (only_setCell (only_drewN (World.grownBy.refl _ _) _) (.inl rfl) _) _
  · have hge : (a : Int) = n := by omega
    subst hge
    clear hr
    go_enter Try.func37, Try.ntmps37
    go_wp2
    go_quiet (fail)
    go_wp2
    go_ret
    refine ⟨0, n, rfl, by omega, by omega, by omega, by omega, ?_, ?_, ?_, ?_⟩
    · simp [go_sem, hc0]
    · simp [go_sem, hc1]
    · simp [go_sem, hf1]
    · exact only_drewN (World.grownBy.refl _ _) _

/-- A Draw over a list, in block gd. -/
def DrawOK (w : World) (gd : Nat) (A : Option Addr) (n c B : Nat) (zs : List Int) : Prop :=
  gd < w.heap.size ∧ B ≤ gd ∧ Reads w B 1 A n (zs.map (Value.int .i64)) ∧ ∃ a : Int, 0 ≤ a ∧ a ≤ n ∧ w.cell? ⟨gd, 0, none⟩ = some (.slice A n c) ∧ w.cell? ⟨gd, 1, none⟩ = some (.int .i64 a) ∧ w.frozen? ⟨gd, 1, none⟩ = false

theorem DrawOK.alloc {w : World} {gd n c B : Nat} {A : Option Addr} {zs : List Int} (h : DrawOK w gd A n c B zs) (o : Obj) : DrawOK (w.alloc o) gd A n c B zs := by
  obtain ⟨h1, h2, h3, a, h4, h5, h6, h7, h8⟩ := h
  exact ⟨by simp; omega, h2, h3.alloc (by omega) o, a, h4, h5, by simp [go_sem, h1, h6], by simp [go_sem, h1, h7], by simp [go_sem, h1, h8]⟩

theorem next_use {gd B n c : Nat} {A : Option Addr} {zs : List Int} {w : World} (m : Int) (hD : DrawOK w gd A n c B zs)
    (h : 1 ≤ m) (h2 : m ≤ 4611686018427387904) (hn : n ≤ 9223372036854775807) :
    Calls Try.prog 37 #[.pointer (some ⟨gd, 0, none⟩), .int .i64 m] w fun e w' => ∃ v : Int, e = .returned (.int .i64 v) ∧ 0 ≤ v ∧ v < m ∧ DrawOK w' gd A n c B zs ∧ w.grownBy w' (some gd) := by
  obtain ⟨h1, hB, hr, a, h4, h5, h6, h7, h8⟩ := hD
  refine (next_any gd A n c B m a zs w hr hB h h2 hn h4 h5 h6 h7 h8).mono ?_
  rintro e w' ⟨v, a', rfl, k1, k2, k3, k4, k5, k6, k7, G⟩
  refine ⟨v, rfl, k1, k2, ⟨Nat.lt_of_lt_of_le h1 G.size, hB, ?_, a', k3, k4, k5, k6, k7⟩, G⟩
  exact hr.keep fun p hp => World.cell?_of_block (G.block _ (by omega) (by simp; omega))

theorem start_draw (w : World) (A : Option Addr) (n c B : Nat) (zs : List Int) (hr : Reads w B 1 A n (zs.map (Value.int .i64))) (hB : B ≤ w.heap.size) (g : Nat) (hg : g = w.heap.size) :
    DrawOK (w.alloc (.cells #[.slice A n c, .int .i64 0] 66)) g A n c B zs := by
  subst hg
  exact ⟨by simp, hB, hr.alloc hB _, 0, by omega, by omega, by simp [go_sem], by simp [go_sem], by simp [go_sem]⟩

def MadeP (w : World) (e : Ending) (w' : World) : Prop :=
  ∃ r f t g p : Int, e = .returned (.agg #[.int .i64 r, .int .i64 f, .int .i64 t, .int .i64 g, .int .i64 p]) ∧ (1 ≤ r ∧ r ≤ 4 ∧ 0 ≤ f ∧ f ≤ 3 ∧ (t = 0 ∨ t = 3 ∨ t = 10 ∨ t = 20) ∧ 0 ≤ g ∧ g ≤ 3 ∧ 1 ≤ p ∧ p ≤ 8) ∧ Below w.heap.size w w'

theorem grown_heap {w w' : World} {gd k : Nat} {o : Obj} (G : w.grownBy w' (some gd)) (h : w.heap[k]? = some o) (hk : k ≠ gd) : w'.heap[k]? = some o := by
  have hl : k < w.heap.size := by
    rcases Nat.lt_or_ge k w.heap.size with h0 | h0
    · exact h0
    · rw [Array.getElem?_eq_none h0] at h; cases h
  rw [G.block k hl (by simpa using hk)]; exact h
theorem heap_alloc_at (w : World) (o : Obj) (g : Nat) (hg : g = w.heap.size) : (w.alloc o).heap[g]? = some o := by subst hg; exact heap_alloc_new w o
theorem heap_alloc_past {w : World} {o o' : Obj} {g : Nat} (h : w.heap[g]? = some o) : (w.alloc o').heap[g]? = some o := by
  have hl : g < w.heap.size := by
    rcases Nat.lt_or_ge g w.heap.size with h0 | h0
    · exact h0
    · rw [Array.getElem?_eq_none h0] at h; cases h
  exact (Below.heap_alloc w o' g hl).trans h
theorem cell_of_heap {w : World} {g i : Nat} {cs : Array Value} {t : TypeId} (h : w.heap[g]? = some (.cells cs t (0, 0))) : w.cell? ⟨g, i, none⟩ = cs[i]? := cell_of_row w g i cs t (0, 0) h
theorem frozen_of_heap {w : World} {g i : Nat} {cs : Array Value} {t : TypeId} (h : w.heap[g]? = some (.cells cs t (0, 0))) : w.frozen? ⟨g, i, none⟩ = false := by simp [World.frozen?, h]

theorem below_of_grown {B : Nat} {a w w' : World} {gd : Nat} (h : Below B a w) (G : w.grownBy w' (some gd)) (hB : B ≤ w.heap.size) (hg : B ≤ gd) : Below B a w' := h.grown G hB (fun k e => by cases e; exact hg)

set_option maxHeartbeats 400000 in
theorem made_any (A : Option Addr) (n c B : Nat) (zs : List Int) (w : World) (hr : Reads w B 1 A n (zs.map (Value.int .i64))) (hB : B ≤ w.heap.size) (hn : n ≤ 9223372036854775807) :
    Calls Try.prog 29 #[.slice A n c] w (MadeP w) := by
  have HR := Lib.hid hr
  clear hr
  go_enter Try.func29, Try.ntmps29
  go_wp2_with fail
  refine (next_use 4 (start_draw _ A n c B zs (HR.out.alloc hB _) (by simp; omega) (w.heap.size + 1) (by simp)) (by omega) (by omega) hn).mono ?_
  rintro e w1 ⟨v1, rfl, l1, u1, D1, G1⟩
  have R1 := Lib.hid (grown_heap G1 (heap_alloc_past (heap_alloc_at w (.cells #[.int .i64 0, .int .i64 0, .int .i64 0, .int .i64 0, .int .i64 0] 27) _ rfl)) (by omega))
  have B1 : Below w.heap.size w w1 := below_of_grown (by go_grown) G1 (by go_size) (by omega)
  clear G1
  go_wp2_with fail
  refine (next_use 4 D1 (by omega) (by omega) hn).mono ?_
  rintro e w2 ⟨v2, rfl, l2, u2, D2, G2⟩
  have R2 := Lib.hid (grown_heap G2 R1.out (by omega))
  have B2 : Below w.heap.size w w2 := below_of_grown B1 G2 B1.size (by omega)
  clear G2 D1 R1 B1
  go_wp2_with fail
  refine (next_use 4 (D2.alloc _) (by omega) (by omega) hn).mono ?_
  rintro e w3 ⟨v3, rfl, l3, u3, D3, G3⟩
  have R3 := Lib.hid (grown_heap G3 (heap_alloc_past R2.out) (by omega))
  have B3 : Below w.heap.size w w3 := below_of_grown (B2.alloc B2.size _) G3 (by have := B2.size; simp; omega) (by omega)
  have T3 := Lib.hid (grown_heap G3 (heap_alloc_at w2 (.cells #[.int .i64 0, .int .i64 3, .int .i64 10, .int .i64 20] 3) _ rfl) (by have := D2.1; omega))
  obtain ⟨t, ht, htop⟩ : ∃ t, w3.cell? ⟨w2.heap.size, v3.toNat, none⟩ = some (.int .i64 t) ∧ (t = 0 ∨ t = 3 ∨ t = 10 ∨ t = 20) := by
    rw [cell_of_heap T3.out]
    rcases (show v3 = 0 ∨ v3 = 1 ∨ v3 = 2 ∨ v3 = 3 from by omega) with rfl | rfl | rfl | rfl
    · exact ⟨0, rfl, by simp⟩
    · exact ⟨3, rfl, by simp⟩
    · exact ⟨10, rfl, by simp⟩
    · exact ⟨20, rfl, by simp⟩
  have HT := Lib.hid htop
  clear G3 D2 R2 B2 T3 htop
  go_wp2_with fail
  refine (next_use 4 D3 (by omega) (by omega) hn).mono ?_
  rintro e w4 ⟨v4, rfl, l4, u4, D4, G4⟩
  have R4 := Lib.hid (grown_heap G4 R3.out (by omega))
  have B4 : Below w.heap.size w w4 := below_of_grown B3 G4 B3.size (by omega)
  clear G4 D3 R3 B3
  go_wp2_with fail
  refine (next_use 8 D4 (by omega) (by omega) hn).mono ?_
  rintro e w5 ⟨v5, rfl, l5, u5, D5, G5⟩
  have R5 := grown_heap G5 R4.out (by omega)
  have B5 : Below w.heap.size w w5 := below_of_grown B4 G5 B4.size (by omega)
  have c0 := cell_of_heap (i := 0) R5
  have c1 := cell_of_heap (i := 1) R5
  have c2 := cell_of_heap (i := 2) R5
  have c3 := cell_of_heap (i := 3) R5
  have c4 := cell_of_heap (i := 4) R5
  have f0 := frozen_of_heap (i := 0) R5
  have f1 := frozen_of_heap (i := 1) R5
  have f2 := frozen_of_heap (i := 2) R5
  have f3 := frozen_of_heap (i := 3) R5
  have f4 := frozen_of_heap (i := 4) R5
  simp at c0 c1 c2 c3 c4
  clear G5 D4 R4 B4 R5 D5
  go_wp2
  exact bodyPost_ret (v := .agg #[.int .i64 (1 + v1), .int .i64 v2, .int .i64 t, .int .i64 v4, .int .i64 (1 + v5)]) (by simp [results, Try.results29, go_sem, c0, c1, c2, c3, c4]) rfl
    ⟨_, _, _, _, _, rfl, ⟨by omega, by omega, by omega, by omega, HT.out, by omega, by omega, by omega, by omega⟩, by go_grown⟩
end Go.Proofs.Ytdiidinbgnjjmaa
