/-
  Words for memory that the walks use: a slice that reads as a list; blocks known whole; small steps.
-/
import Derived.Test.YthnickjbknpmhaaGreatDoorRows
import Derived.Test.YthnickjbknpmhaaGreatDoorNumMath
import Derived.WalkKit
import Derived.WalkSpells
import Derived.WalkLawsBesides
import Derived.Handy
import Derived.Lib.Hide
import Derived.Deep.AppendLies
import Derived.Deep.Draws
import Derived.Deep.QuietTactic
import Derived.BigQuiet
import Derived.Outline
import Derived.Laws.AppendOwn
namespace Go.Proofs.YthnickjbknpmhaaGreatDoor
open Go.RowKit

theorem block_of_add (a : Addr) (n : Nat) : (a.add n).block = a.block := by unfold Addr.add; split <;> rfl
theorem add_of_add (a : Addr) (i j : Nat) : (a.add i).add j = a.add (i + j) := by
  unfold Addr.add
  by_cases hi : i = 0 <;> by_cases hj : j = 0 <;> simp [hi, hj, Nat.add_assoc]

def Reads (w : World) (B size : Nat) (A : Option Addr) (n : Nat) (xs : List Value) : Prop :=
  xs.length = n * size ∧ (0 < n → ∃ ad, A = some ad ∧ ad.block < B ∧ ∀ j u, xs[j]? = some u → w.cell? (ad.add j) = some u)

section
variable {w w' : World} {B B' size n : Nat} {A : Option Addr} {xs : List Value}
theorem Reads.none_ : Reads w B size A 0 [] := ⟨by simp, fun h => absurd h (by omega)⟩
theorem Reads.at_ {k : Nat} (h : Reads w B 1 A n xs) (hk : k < n) : ∃ ad u, A = some ad ∧ ad.block < B ∧ xs[k]? = some u ∧ w.cell? (ad.add k) = some u := by
  obtain ⟨ad, e, hb, hc⟩ := h.2 (by omega)
  have hl : k < xs.length := by have := h.1; omega
  exact ⟨ad, xs[k], e, hb, List.getElem?_eq_getElem hl, hc k _ (List.getElem?_eq_getElem hl)⟩
theorem Reads.keep (h : Reads w B size A n xs) (hk : ∀ p : Addr, p.block < B → w'.cell? p = w.cell? p) : Reads w' B size A n xs :=
  ⟨h.1, fun hn => by
    obtain ⟨ad, e, hb, hc⟩ := h.2 hn
    exact ⟨ad, e, hb, fun j u hu => (hk _ (by rw [block_of_add]; exact hb)).trans (hc j u hu)⟩⟩
theorem Reads.more (h : Reads w B size A n xs) (hB : B ≤ B') : Reads w B' size A n xs :=
  ⟨h.1, fun hn => by
    obtain ⟨ad, e, hb, hc⟩ := h.2 hn
    exact ⟨ad, e, by omega, hc⟩⟩
theorem Reads.below (h : Reads w B size A n xs) (hb : Below B w w') : Reads w' B size A n xs := h.keep fun _ hp => hb.cell hp
theorem Reads.drew (h : Reads w B size A n xs) : Reads w.drew B size A n xs := h
theorem Reads.drewN (h : Reads w B size A n xs) (k : Nat) : Reads (w.drewN k) B size A n xs := h
theorem Reads.alloc (h : Reads w B size A n xs) (hB : B ≤ w.heap.size) (o : Obj) : Reads (w.alloc o) B size A n xs := h.keep fun p hp => World.cell?_alloc_lt w o p (by omega)
theorem Reads.setCell (h : Reads w B size A n xs) {p : Addr} (hB : B ≤ p.block) (u : Value) : Reads (w.setCell p u) B size A n xs :=
  h.keep fun q hq => World.cell?_setCell_other w p q u (fun e => by subst e; omega)
end


theorem bcell {W w1 : World} (hb : Below W.heap.size W w1) : (∀ b o, b < W.heap.size → w1.cell? ⟨b, o, none⟩ = W.cell? ⟨b, o, none⟩) ∧ (∀ b o, b < W.heap.size → w1.frozen? ⟨b, o, none⟩ = W.frozen? ⟨b, o, none⟩) :=
  ⟨fun b o h => hb.cell (p := ⟨b, o, none⟩) h, fun b o h => hb.frozen (p := ⟨b, o, none⟩) h⟩
theorem Below.via {B : Nat} {w0 w w' : World} (h0 : Below B w0 w) (hB : B ≤ w.heap.size) (h : Below w.heap.size w w') : Below B w0 w' := h0.trans (h.mono hB)
theorem ret_int {k : IntKind} {a b : Int} (h : a = b) : Ending.returned (.int k a) = .returned (.int k b) := by rw [h]
theorem below_drewN {B : Nat} {a w : World} (h : Below B a w) (n : Nat) : Below B a (w.drewN n) := ⟨h.os, h.tape, h.output, h.size, h.block⟩
theorem quiet_add_left {P : Program} {f : FuncId} {args : Array Value} {w : World} {a n : Nat} {v : Value}
    (h : Calls P f args (w.drewN (a + n)) fun e w' => e = .returned v ∧ w.drewN (a + n) = w') :
    Calls P f args (w.drewN (a + n)) fun e w'' => e = .returned v ∧ ∃ m, w'' = w.drewN (a + m) :=
  h.mono fun _ _ ⟨he, hm⟩ => ⟨he, n, hm.symm⟩
theorem quiet_left {P : Program} {f : FuncId} {args : Array Value} {w : World} {n : Nat} {v : Value}
    (h : Calls P f args (w.drewN n) fun e w' => e = .returned v ∧ w.drewN n = w') : Calls P f args (w.drewN n) fun e w'' => e = .returned v ∧ ∃ m, w'' = w.drewN m :=
  h.mono fun _ _ ⟨he, hm⟩ => ⟨he, n, hm.symm⟩
theorem only_drewN {a w : World} {row : Option Nat} (h : a.grownBy w row) (n : Nat) : a.grownBy (w.drewN n) row := ⟨h.os, h.tape, h.output, h.size, h.block⟩
theorem only_setCell {a w : World} {g : Nat} (h : a.grownBy w (some g)) {p : Addr} (hp : p.block = g ∨ a.heap.size ≤ p.block) (u : Value) : a.grownBy (w.setCell p u) (some g) :=
  ⟨h.os, h.tape, h.output, by simpa [World.setCell] using h.size, fun i hi hne => (Below.heap_setCell w p u i (by
    rintro rfl
    rcases hp with hp | hp
    · exact hne (by rw [hp])
    · omega)).trans (h.block i hi hne)⟩
theorem only_of_below {a w : World} (h : Below a.heap.size a w) (row : Option Nat) : a.grownBy w row := ⟨h.os, h.tape, h.output, h.size, fun i hi _ => h.block i hi⟩
theorem Below.cell?_far (w : World) (p a : Addr) (v : Value) (h : a.block ≠ p.block) : (w.setCell p v).cell? a = w.cell? a := World.cell?_of_block (Below.heap_setCell w p v _ h)
theorem grown_heap {w w' : World} {gd k : Nat} {o : Obj} (G : w.grownBy w' (some gd)) (h : w.heap[k]? = some o) (hk : k ≠ gd) : w'.heap[k]? = some o := by
  have hl : k < w.heap.size := by
    rcases Nat.lt_or_ge k w.heap.size with h0 | h0
    · exact h0
    · rw [Array.getElem?_eq_none h0] at h; cases h
  rw [G.block k hl (by simpa using hk)]; exact h
theorem heap_alloc_at (w : World) (o : Obj) (g : Nat) (hg : g = w.heap.size) : (w.alloc o).heap[g]? = some o := by subst hg; exact heap_alloc_new w o
theorem heap_alloc_past {w : World} {o o' : Obj} {g : Nat} (h : w.heap[g]? = some o) : (w.alloc o').heap[g]? = some o := by
  have hl : g < w.heap.size := by
    rcases Nat.lt_or_ge g w.heap.size with h0 | h0
    · exact h0
    · rw [Array.getElem?_eq_none h0] at h; cases h
  exact (Below.heap_alloc w o' g hl).trans h
theorem cell_of_heap {w : World} {g i : Nat} {cs : Array Value} {t : TypeId} (h : w.heap[g]? = some (.cells cs t (0, 0))) : w.cell? ⟨g, i, none⟩ = cs[i]? := cell_of_row w g i cs t (0, 0) h
theorem frozen_of_heap {w : World} {g i : Nat} {cs : Array Value} {t : TypeId} (h : w.heap[g]? = some (.cells cs t (0, 0))) : w.frozen? ⟨g, i, none⟩ = false := by simp [World.frozen?, h]
theorem below_of_grown {B : Nat} {a w w' : World} {gd : Nat} (h : Below B a w) (G : w.grownBy w' (some gd)) (hB : B ≤ w.heap.size) (hg : B ≤ gd) : Below B a w' := h.grown G hB (fun k e => by cases e; exact hg)
theorem lt_of_heap {w : World} {g : Nat} {o : Obj} (h : w.heap[g]? = some o) : g < w.heap.size := by
  rcases Nat.lt_or_ge g w.heap.size with h0 | h0
  · exact h0
  · rw [Array.getElem?_eq_none h0] at h; cases h
theorem heap_below {w w' : World} {g : Nat} {o : Obj} (h : w.heap[g]? = some o) (hb : Below w.heap.size w w') : w'.heap[g]? = some o := by
  have hl : g < w.heap.size := by
    rcases Nat.lt_or_ge g w.heap.size with h0 | h0
    · exact h0
    · rw [Array.getElem?_eq_none h0] at h; cases h
  rw [hb.block g hl]; exact h
theorem reads_new (w : World) (T : TypeId) (xs : List Value) (g n B : Nat) (hg : g = w.heap.size) (hB : g < B) (h : xs.length = n) : Reads (w.alloc (.cells xs.toArray T)) B 1 (some ⟨g, 0, none⟩) n xs := by
  subst hg
  refine ⟨by simpa using h, fun _ => ⟨_, rfl, hB, fun j u hu => ?_⟩⟩
  have e : (⟨w.heap.size, 0, none⟩ : Addr).add j = ⟨w.heap.size, j, none⟩ := by unfold Addr.add; split <;> simp [*]
  rw [e, World.cell?_alloc_at _ _ _ _ rfl]
  simpa using hu

/-- Digits as values. -/
def u32s (l : List Nat) : List Value := l.map fun (d : Nat) => Value.int .u32 (d : Int)
theorem u32s_length (l : List Nat) : (u32s l).length = l.length := by simp [u32s]
theorem u32s_get {l : List Nat} {k : Nat} {u : Value} (h : (u32s l)[k]? = some u) (hk : k < l.length) : u = .int .u32 (l[k] : Nat) := by
  unfold u32s at h
  rw [List.getElem?_map, List.getElem?_eq_getElem hk] at h
  simpa using h.symm
/-- A slice value reads as digits. -/
def RD (w : World) (B : Nat) (A : Option Addr) (n : Nat) (l : List Nat) : Prop := Reads w B 1 A n (u32s l) ∧ Dig l
theorem RD.len {w : World} {B n : Nat} {A : Option Addr} {l : List Nat} (h : RD w B A n l) : l.length = n := by have := h.1.1; rw [u32s_length] at this; omega
theorem RD.at_ {w : World} {B n k : Nat} {A : Option Addr} {l : List Nat} (h : RD w B A n l) (hk : k < n) : ∃ (ad : Addr) (hl : k < l.length), A = some ad ∧ ad.block < B ∧ w.cell? (ad.add k) = some (.int .u32 (l[k] : Nat)) ∧ l[k] < 4294967296 := by
  obtain ⟨ad, u, e, hb, hu, hc⟩ := h.1.at_ hk
  have hl : k < l.length := by have := h.len; omega
  rw [u32s_get hu hl] at hc
  exact ⟨ad, hl, e, hb, hc, h.2 _ (List.getElem_mem hl)⟩
theorem RD.below {w w' : World} {B n : Nat} {A : Option Addr} {l : List Nat} (h : RD w B A n l) (hb : Below B w w') : RD w' B A n l := ⟨h.1.below hb, h.2⟩
theorem RD.more {w : World} {B B' n : Nat} {A : Option Addr} {l : List Nat} (h : RD w B A n l) (hB : B ≤ B') : RD w B' A n l := ⟨h.1.more hB, h.2⟩
theorem RD.alloc {w : World} {B n : Nat} {A : Option Addr} {l : List Nat} (h : RD w B A n l) (hB : B ≤ w.heap.size) (o : Obj) : RD (w.alloc o) B A n l := ⟨h.1.alloc hB o, h.2⟩
theorem RD.none_ {w : World} {B : Nat} : RD w B none 0 [] := ⟨Reads.none_, dig_nil⟩
theorem RD.take {w : World} {B n : Nat} {A : Option Addr} {l : List Nat} (h : RD w B A n l) {k : Nat} (hk : k ≤ n) : RD w B A k (l.take k) := by
  refine ⟨⟨by rw [u32s_length, List.length_take, h.len]; omega, fun h0 => ?_⟩, dig_take h.2 k⟩
  obtain ⟨ad, e, hb, hc⟩ := h.1.2 (by omega)
  refine ⟨ad, e, hb, fun j u hu => hc j u ?_⟩
  unfold u32s at hu ⊢
  rw [List.map_take, List.getElem?_take] at hu
  split at hu
  · exact hu
  · cases hu
end Go.Proofs.YthnickjbknpmhaaGreatDoor
