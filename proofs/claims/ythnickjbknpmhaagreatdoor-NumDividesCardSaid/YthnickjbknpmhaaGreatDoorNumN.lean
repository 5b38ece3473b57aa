/-
  down over a slice that the rounds write: the indices alone are told.
-/
import Derived.Test.YthnickjbknpmhaaGreatDoorNumM
namespace Go.Proofs.YthnickjbknpmhaaGreatDoor
open Go.RowKit Go.Shelf

attribute [local go_sem] Oper.semAt_some

/-- A block of so many digits. -/
def DigBlk (W : World) (g len : Nat) : Prop := ∃ o : List Nat, DBk W g 40 o ∧ o.length = len ∧ Dig o
/-- What a round keeps: all below n₀, the iterator's box, and that the digits' block is one. -/
def KpQ (n₀ Bs gq len : Nat) (A B : World) : Prop := KpD n₀ Bs A B ∧ (DigBlk A gq len → DigBlk B gq len)
theorem kpQ_t {n₀ Bs gq len : Nat} {A B C : World} (h : KpQ n₀ Bs gq len A B) (k : KpQ n₀ Bs gq len B C) : KpQ n₀ Bs gq len A C := ⟨kpD_t h.1 k.1, fun x => k.2 (h.2 x)⟩
theorem kpQ_b {n₀ Bs gq len : Nat} {w : World} (hn : n₀ ≤ w.heap.size) (hs : Bs < w.heap.size) (hq : gq < w.heap.size) (W : World) (l : Nat) (o o' : Obj) (hl : w.heap.size ≤ l) (h : W.heap[l]? = some o) (hc : o.isCells = false) (hw : o.isWalk = false) : KpQ n₀ Bs gq len W (W.putObj l o') :=
  ⟨kpD_b hn hs W l o o' hl h hc hw, fun ⟨d, h1, h2⟩ => ⟨d, ((grownBy_putObj' W l o').block gq h1.lt (fun e => by cases e; omega)).trans h1, h2⟩⟩
theorem kpQ_refl (n₀ Bs gq len : Nat) (A : World) : KpQ n₀ Bs gq len A A := ⟨kpD_refl _ _ _, id⟩

set_option maxRecDepth 100000 in
set_option maxHeartbeats 2000000 in
theorem down2_in (F : Fence) (n : Nat) (h66 : F.fn 81) (hro : F.round = none) (hn : 1 ≤ n) (ll Bs n₀ gq : Nat) (len cap : Nat) (J Jx : List ({k : Nat // k < len} × Nat) → World → Prop)
    (hY : ∀ pre x W, J pre W → pre.length < len → YieldAt F (n - 1) Tryz.prog ll #[.int .i64 (x.1.1 : Nat), .int .u32 (x.2 : Nat)] W fun e W' =>
      (e = .returned (.bool true) ∧ J (pre ++ [x]) W' ∧ KpQ n₀ Bs gq len W W') ∨ (e = .returned (.bool false) ∧ Jx (pre ++ [x]) W'))
    (W : World) (hBs : Boxed W Bs 50 (.slice (some ⟨gq, 0, none⟩) len cap)) (hS : DigBlk W gq len) (hlen : len ≤ cap) (hcap : cap ≤ 1000000) (h0 : J [] W) :
    CallsIn F n Tryz.prog 81 #[.func (.yield ll) #[] #[], .pointer (some ⟨Bs, 0, none⟩)] W fun e W' => (∃ v, e = .returned v) ∧
      ((∃ ys, ys.map (·.1) = downs len ∧ J ys W') ∨ (∃ pre, pre.map (·.1) <+: downs len ∧ Jx pre W')) := by
  refine callsIn_of_wp Tryz.func81 rfl h66 ?_ hro
  simp only [Tryz.ntmps81, List.size_toArray, List.length_cons, List.length_nil, Nat.reduceAdd, Nat.reduceSub, Array.replicate_succ, Array.replicate_zero, List.push_toArray, List.append_toArray, List.nil_append, List.cons_append]
  have hbc := hBs.cell
  gi_wp2
  gi_loopw [3] (fun i wr => ∃ (r : Nat) (pre : List ({k : Nat // k < len} × Nat)), r ≤ len ∧ i = .int .i64 ((r : Int) - 1) ∧ Hid (pre.map (·.1) = (downs len).take (len - r)) ∧ J pre wr ∧ KpQ n₀ Bs gq len W wr)
    (fun i _ => (intOf i + 1).toNat)
  case atStart => exact ⟨len, [], Nat.le_refl _, rfl, by unfold Hid; simp, h0, kpQ_refl _ _ _ _ _⟩
  case round =>
    obtain ⟨r, pre, hr, rfl, hP, hJs, hK⟩ := hrel
    have hbc2 : wr.cell? ⟨Bs, 0, none⟩ = some (.slice (some ⟨gq, 0, none⟩) len cap) := ((Boxed.cell (hK.1.2.trans hBs)))
    clear hbc
    cases r with
    | zero =>
      have hP2 := hP.out
      rw [Nat.sub_zero, List.take_of_length_le (by rw [downs_length]; omega)] at hP2
      have hP3 := Lib.hid hP2
      clear hP2
      gi_wp2
      go_end0
      exact ⟨⟨_, rfl⟩, .inl ⟨pre, hP3.out, hJs⟩⟩
    | succ r =>
      obtain ⟨o, hO, hol, _⟩ := hK.2 hS
      have hrl : r < len := by omega
      have hc := hO.cell (k := r) (by omega)
      have hz := hO.lt
      have hpl : pre.length < len := by have := congrArg List.length hP.out; rw [List.length_map, List.length_take, downs_length] at this; omega
      obtain ⟨fn, tmps, assign, body, hy, hR⟩ := hY pre (⟨r, hrl⟩, dg o r) wr hJs hpl
      dsimp only at hy
      have er : ((r + 1 : Nat) : Int) - 1 = r := by omega
      rw [er]
      have hP2 : Hid ((pre ++ [((⟨r, hrl⟩ : {k : Nat // k < len}), dg o r)]).map (·.1) = (downs len).take (len - r)) := by
        unfold Hid; rw [List.map_append, hP.out, downs_take hrl]; rfl
      clear er
      replace hol := Lib.hid hol
      gi_wp2
      refine hR.mono ?_
      rintro e W3 (⟨rfl, hJ3, hk3⟩ | ⟨rfl, hJx3⟩)
      · gi_wp2
        go_roundw
        case rel => exact ⟨r, _, by omega, rfl, hP2, hJ3, kpQ_t hK hk3⟩
        case measure => simp [intOf]
      · gi_wp2
        refine bodyPost_ret (results_none rfl _ _ _) rfl ?_
        exact ⟨⟨_, rfl⟩, .inr ⟨_, by rw [hP2.out]; exact List.take_prefix _ _, hJx3⟩⟩

theorem down2_stops (F : Fence) (n : Nat) (h66 : F.fn 81) (hro : F.round = none) (hn : 1 ≤ n) (Bs n₀ gq : Nat) (len cap : Nat) (w : World) (hBs : Boxed w Bs 50 (.slice (some ⟨gq, 0, none⟩) len cap)) (hS : DigBlk w gq len) (hlen : len ≤ cap) (hcap : cap ≤ 1000000) :
    SeqStopsK F n Tryz.prog 81 #[.pointer (some ⟨Bs, 0, none⟩)] (fun x : {k : Nat // k < len} × Nat => #[Value.int .i64 (x.1.1 : Nat), Value.int .u32 (x.2 : Nat)]) (KpQ n₀ Bs gq len) (fun ys => ys.map (·.1) = downs len) (fun pre => pre.map (·.1) <+: downs len) len w := fun ll J Jx W hW _ _ hY h0 =>
  down2_in F n h66 hro hn ll Bs n₀ gq len cap J Jx hY W ((hW.block Bs hBs.lt).trans hBs) (let ⟨o, h1, h2⟩ := hS; ⟨o, (hW.block gq h1.lt).trans h1, h2⟩) hlen hcap h0
end Go.Proofs.YthnickjbknpmhaaGreatDoor
