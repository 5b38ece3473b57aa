/-
  The contract of down: the iterator that hands out the indices and the digits from the highest one on.
-/
import Derived.Test.YthnickjbknpmhaaGreatDoorNumF
import Derived.RangeFuncNested
import Derived.RangeFuncBound
import Derived.RangeFuncCalls
import Derived.RangeFuncLeaves
import Derived.RangeFuncBox
import Derived.Shelf.Abstract
import Derived.Shelf.RegionOpen
import Derived.OwnWalkIn
import Derived.TacticsInMore
import Derived.LoopNIn
import Derived.LoopIn
namespace Go.Proofs.YthnickjbknpmhaaGreatDoor
open Go.RowKit Go.Shelf

attribute [local go_sem] Oper.semAt_some

/-- The indices below n from the highest one on. -/
def downs (n : Nat) : List {k : Nat // k < n} := List.ofFn (n := n) fun j => ⟨n - 1 - j, by omega⟩
theorem downs_length (n : Nat) : (downs n).length = n := by simp [downs]
theorem downs_take {n r : Nat} (h : r < n) : (downs n).take (n - r) = (downs n).take (n - (r + 1)) ++ [⟨r, h⟩] := by
  have e : n - r = (n - (r + 1)) + 1 := by omega
  rw [e, List.take_succ_eq_append_getElem (by rw [downs_length]; omega)]
  congr 2
  simp only [downs, List.getElem_ofFn, Subtype.mk.injEq]
  omega
theorem downs_prefix {n : Nat} {pre : List {k : Nat // k < n}} {x : {k : Nat // k < n}} (h : pre ++ [x] <+: downs n) : pre <+: downs n ∧ pre.length < n ∧ x.1 = n - 1 - pre.length := by
  refine ⟨(List.prefix_append _ _).trans h, ?_, ?_⟩
  · have := h.length_le; rw [downs_length] at this; simp at this; omega
  · have hl : pre.length < n := by have := h.length_le; rw [downs_length] at this; simp at this; omega
    have h1 : (pre ++ [x])[pre.length]? = some x := by simp
    obtain ⟨t, ht⟩ := h
    have h2 : (downs n)[pre.length]? = some x := by rw [← ht, List.getElem?_append_left (by simp), h1]
    rw [List.getElem?_eq_getElem (by rw [downs_length]; exact hl)] at h2
    have := Option.some.inj h2
    rw [← this]
    simp [downs]

/-- What a round keeps: all below n₀, and the box that the iterator reads. -/
def KpD (n₀ Bs : Nat) (A B : World) : Prop := Below n₀ A B ∧ B.heap[Bs]? = A.heap[Bs]?
theorem kpD_t {n₀ Bs : Nat} {A B C : World} (h : KpD n₀ Bs A B) (k : KpD n₀ Bs B C) : KpD n₀ Bs A C := ⟨h.1.trans k.1, k.2.trans h.2⟩
theorem kpD_b {n₀ Bs : Nat} {w : World} (hn : n₀ ≤ w.heap.size) (hs : Bs < w.heap.size) (W : World) (l : Nat) (o o' : Obj) (hl : w.heap.size ≤ l) (h : W.heap[l]? = some o) (hc : o.isCells = false) (hw : o.isWalk = false) : KpD n₀ Bs W (W.putObj l o') :=
  ⟨belowK_b hn W l o o' hl h hc hw, (grownBy_putObj' W l o').block Bs (by have := (Array.getElem?_eq_some_iff.1 h).1; omega) (fun e => by cases e; omega)⟩
theorem kpD_refl (n₀ Bs : Nat) (A : World) : KpD n₀ Bs A A := ⟨Below.refl _ _, rfl⟩

set_option maxHeartbeats 1000000 in
theorem down_in (F : Fence) (n : Nat) (h45 : F.fn 53) (hro : F.round = none) (A : Option Addr) (len cap : Nat) (w : World) :
    CallsIn F n Tryz.prog 53 #[.slice A len cap] w fun e w' => e = .returned (.func (.func 81) #[] #[.pointer (some ⟨w.heap.size, 0, none⟩)]) ∧ w' = w.alloc (.cells #[.slice A len cap] 50) := by
  refine callsIn_of_wp Tryz.func53 rfl h45 ?_ hro
  simp only [Tryz.ntmps53, List.size_toArray, List.length_cons, List.length_nil, Nat.reduceAdd, Nat.reduceSub, Array.replicate_succ, Array.replicate_zero, List.push_toArray, List.append_toArray, List.nil_append, List.cons_append]
  gi_wp2
  go_ret
  exact ⟨rfl, rfl⟩

set_option maxRecDepth 100000 in
set_option maxHeartbeats 2000000 in
theorem down1_in (F : Fence) (n : Nat) (h66 : F.fn 81) (hro : F.round = none) (hn : 1 ≤ n) (ll Bs n₀ : Nat) (A : Option Addr) (len cap : Nat) (l : List Nat) (J Jx : List {k : Nat // k < len} → World → Prop)
    (hY : ∀ pre x W, J pre W → pre.length < len → YieldAt F (n - 1) Tryz.prog ll #[.int .i64 (x.1 : Nat), .int .u32 (dg l x.1 : Nat)] W fun e W' =>
      (e = .returned (.bool true) ∧ J (pre ++ [x]) W' ∧ KpD n₀ Bs W W') ∨ (e = .returned (.bool false) ∧ Jx (pre ++ [x]) W'))
    (W : World) (hBs : Boxed W Bs 50 (.slice A len cap)) (hS : Sl W n₀ A len cap l) (h0 : J [] W) :
    CallsIn F n Tryz.prog 81 #[.func (.yield ll) #[] #[], .pointer (some ⟨Bs, 0, none⟩)] W fun e W' => (∃ v, e = .returned v) ∧
      ((∃ ys, ys = downs len ∧ J ys W') ∨ (∃ pre, pre <+: downs len ∧ Jx pre W')) := by
  refine callsIn_of_wp Tryz.func81 rfl h66 ?_ hro
  simp only [Tryz.ntmps81, List.size_toArray, List.length_cons, List.length_nil, Nat.reduceAdd, Nat.reduceSub, Array.replicate_succ, Array.replicate_zero, List.push_toArray, List.append_toArray, List.nil_append, List.cons_append]
  have HS := Lib.hid hS
  have hlen : len ≤ 9223372036854775807 := by have := hS.2; omega
  clear hS
  have hbc := hBs.cell
  gi_wp2
  gi_loopw [3] (fun i wr => ∃ r : Nat, r ≤ len ∧ i = .int .i64 ((r : Int) - 1) ∧ J ((downs len).take (len - r)) wr ∧ KpD n₀ Bs W wr)
    (fun i _ => (intOf i + 1).toNat)
  case atStart => exact ⟨len, Nat.le_refl _, rfl, by simpa using h0, kpD_refl _ _ _⟩
  case round =>
    obtain ⟨r, hr, rfl, hJs, hK⟩ := hrel
    have hbc2 : wr.cell? ⟨Bs, 0, none⟩ = some (.slice A len cap) := ((Boxed.cell (hK.2.trans hBs)))
    clear hbc
    cases r with
    | zero =>
      gi_wp2
      go_end0
      exact ⟨⟨_, rfl⟩, .inl ⟨_, List.take_of_length_le (by rw [downs_length]; omega), hJs⟩⟩
    | succ r =>
      obtain ⟨ad, rfl, hb, hc⟩ := (HS.out.below hK.1).at_ (k := r) (by omega)
      obtain ⟨fn, tmps, assign, body, hy, hR⟩ := hY _ ⟨r, by omega⟩ wr hJs (by rw [List.length_take, downs_length]; omega)
      dsimp only at hy
      have er : ((r + 1 : Nat) : Int) - 1 = r := by omega
      rw [er]
      clear er
      gi_wp2
      refine hR.mono ?_
      rintro e W3 (⟨rfl, hJ3, hk3⟩ | ⟨rfl, hJx3⟩)
      · gi_wp2
        go_roundw
        case rel => exact ⟨r, by omega, rfl, by rw [downs_take (by omega)]; exact hJ3, kpD_t hK hk3⟩
        case measure => simp [intOf]
      · gi_wp2
        refine bodyPost_ret (results_none rfl _ _ _) rfl ?_
        exact ⟨⟨_, rfl⟩, .inr ⟨_, by rw [← downs_take (by omega)]; exact List.take_prefix _ _, hJx3⟩⟩

theorem down_stops (F : Fence) (n : Nat) (h66 : F.fn 81) (hro : F.round = none) (hn : 1 ≤ n) (Bs n₀ : Nat) (A : Option Addr) (len cap : Nat) (l : List Nat) (w : World) (hBs : Boxed w Bs 50 (.slice A len cap)) (hn₀ : n₀ ≤ w.heap.size) (hS : Sl w n₀ A len cap l) :
    SeqStopsK F n Tryz.prog 81 #[.pointer (some ⟨Bs, 0, none⟩)] (fun x : {k : Nat // k < len} => #[Value.int .i64 (x.1 : Nat), Value.int .u32 (dg l x.1 : Nat)]) (KpD n₀ Bs) (fun ys => ys = downs len) (fun pre => pre <+: downs len) len w := fun ll J Jx W hW _ _ hY h0 =>
  down1_in F n h66 hro hn ll Bs n₀ A len cap l J Jx hY W ((hW.block Bs hBs.lt).trans hBs) (hS.below (hW.mono hn₀)) h0
end Go.Proofs.YthnickjbknpmhaaGreatDoor
