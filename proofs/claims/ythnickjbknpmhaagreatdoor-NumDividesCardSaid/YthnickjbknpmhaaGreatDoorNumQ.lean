/-
  The contract of over: long division.
-/
import Derived.Test.YthnickjbknpmhaaGreatDoorNumP
import Derived.StillTailTactics
namespace Go.Proofs.YthnickjbknpmhaaGreatDoor
open Go.RowKit Go.Shelf

attribute [local go_sem] Oper.semAt_some

/-- The two raised numbers, and the boxes that hold them. -/
def OvB (h0 : Nat) (w : World) (bn n gu gv bu bv N : Nat) (u v : List Nat) (W : World) : Prop :=
  (Boxed W bn 3 (.int .i64 (n : Nat)) ∧ DBk W gu 40 u ∧ DBk W gv 40 v ∧ Boxed W bu 50 (.slice (some ⟨gu, 0, none⟩) (N + 1) (N + 1)) ∧ Boxed W bv 50 (.slice (some ⟨gv, 0, none⟩) n n)) ∧
  (h0 ≤ bn ∧ h0 ≤ gu ∧ h0 ≤ gv ∧ h0 ≤ bu ∧ h0 ≤ bv ∧ bn ≠ gu ∧ bn ≠ gv ∧ bn ≠ bu ∧ bn ≠ bv ∧ gu ≠ gv ∧ gu ≠ bu ∧ gu ≠ bv ∧ gv ≠ bu ∧ gv ≠ bv ∧ bu ≠ bv) ∧ Below h0 w W

theorem boxed_below {W W' : World} {B C : Nat} {t : TypeId} {v : Value} (h : Boxed W B t v) (hb : Below C W W') (hg : B < C) : Boxed W' B t v := (hb.block B hg).trans h
/-- The box of the divisor's length stays. -/
def OvS (w : World) (bn : Nat) (z : Value) (W : World) : Prop := Boxed W bn 3 z ∧ bn + 1 ≤ W.heap.size ∧ w.heap.size ≤ W.heap.size ∧ Below w.heap.size w W
section
variable {w W W' : World} {bn : Nat} {z : Value}
theorem OvS.pair (h : OvS w bn z W) : W.cell? ⟨bn, 0, none⟩ = some z ∧ OvS w bn z W := ⟨h.1.cell, h⟩
theorem OvS.drew (h : OvS w bn z W) : OvS w bn z W.drew := ⟨h.1, h.2.1, h.2.2.1, h.2.2.2.drew⟩
theorem OvS.alloc (h : OvS w bn z W) (o : Obj) : OvS w bn z (W.alloc o) := ⟨h.1.alloc o, by simp; have := h.2.1; omega, by simp; have := h.2.2.1; omega, h.2.2.2.alloc h.2.2.1 o⟩
theorem OvS.below (h : OvS w bn z W) (hb : Below W.heap.size W W') : OvS w bn z W' := ⟨(hb.block bn h.1.lt).trans h.1, Nat.le_trans h.2.1 hb.size, Nat.le_trans h.2.2.1 hb.size, h.2.2.2.trans (hb.mono h.2.2.1)⟩
theorem OvS.setCell (h : OvS w bn z W) {p : Addr} (h1 : bn ≠ p.block) (h2 : w.heap.size ≤ p.block) (u : Value) : OvS w bn z (W.setCell p u) := ⟨boxed_far h.1 h1 u, by simpa [World.setCell] using h.2.1, by simpa [World.setCell] using h.2.2.1, h.2.2.2.setCell h2 u⟩
theorem ovs_b {n gu gv bu bv N : Nat} {u v : List Nat} (h : OvS w bn (.int .i64 (n : Nat)) W) (h1 : DBk W gu 40 u) (h2 : DBk W gv 40 v) (h3 : Boxed W bu 50 (.slice (some ⟨gu, 0, none⟩) (N + 1) (N + 1))) (h4 : Boxed W bv 50 (.slice (some ⟨gv, 0, none⟩) n n))
    (h5 : w.heap.size ≤ bn ∧ w.heap.size ≤ gu ∧ w.heap.size ≤ gv ∧ w.heap.size ≤ bu ∧ w.heap.size ≤ bv ∧ bn ≠ gu ∧ bn ≠ gv ∧ bn ≠ bu ∧ bn ≠ bv ∧ gu ≠ gv ∧ gu ≠ bu ∧ gu ≠ bv ∧ gv ≠ bu ∧ gv ≠ bv ∧ bu ≠ bv) : OvB w.heap.size w bn n gu gv bu bv N u v W := ⟨⟨h.1, h1, h2, h3, h4⟩, h5, h.2.2.2⟩
end

theorem ovB_pack {w w3 w4 F : World} {bn n gu gv bu bv N U V : Nat} {z : Int} {u v : List Nat} (_h3 : DBk w3 gu 40 u) (_h4 : DBk w4 gv 40 v) (hz : z = (n : Nat)) (hI : u.length = N + 1 ∧ Dig u ∧ nval u = U ∧ v.length = n ∧ Dig v ∧ nval v = V) (o : OvS w bn (.int .i64 z) F) (h1 : DBk F gu 40 u) (h2 : DBk F gv 40 v) (b1 : Boxed F bu 50 (.slice (some ⟨gu, 0, none⟩) (N + 1) (N + 1))) (b2 : Boxed F bv 50 (.slice (some ⟨gv, 0, none⟩) n n))
    (h5 : w.heap.size ≤ bn ∧ w.heap.size ≤ gu ∧ w.heap.size ≤ gv ∧ w.heap.size ≤ bu ∧ w.heap.size ≤ bv ∧ bn ≠ gu ∧ bn ≠ gv ∧ bn ≠ bu ∧ bn ≠ bv ∧ gu ≠ gv ∧ gu ≠ bu ∧ gu ≠ bv ∧ gv ≠ bu ∧ gv ≠ bv ∧ bu ≠ bv) :
    ∃ (gu' gv' bu' bv' : Nat) (u0 v0 : List Nat), Value.pointer (some ⟨bu, 0, none⟩) = Value.pointer (some ⟨bu', 0, none⟩) ∧ Value.pointer (some ⟨bv, 0, none⟩) = Value.pointer (some ⟨bv', 0, none⟩) ∧ Hid (u0.length = N + 1 ∧ Dig u0 ∧ nval u0 = U ∧ v0.length = n ∧ Dig v0 ∧ nval v0 = V) ∧ OvB w.heap.size w bn n gu' gv' bu' bv' N u0 v0 F := by
  subst hz
  exact ⟨gu, gv, bu, bv, u, v, rfl, rfl, hI, ovs_b o h1 h2 b1 b2 h5⟩

/-- What stays in the loop of over. -/
def OvSt (bn n gu gv bu bv gq bq N J : Nat) (v0 : List Nat) (W : World) : Prop :=
  Boxed W bn 3 (.int .i64 (n : Nat)) ∧ DBk W gv 40 v0 ∧ Boxed W bu 50 (.slice (some ⟨gu, 0, none⟩) (N + 1) (N + 1)) ∧ Boxed W bv 50 (.slice (some ⟨gv, 0, none⟩) n n) ∧ Boxed W bq 50 (.slice (some ⟨gq, 0, none⟩) J J) ∧ Boxed W (bq + 1) 50 (.slice (some ⟨gq, 0, none⟩) J J)
def OvNe (h0 bn gu gv bu bv gq bq : Nat) : Prop :=
  (bn ≠ gu ∧ gv ≠ gu ∧ bu ≠ gu ∧ bv ≠ gu ∧ bq ≠ gu ∧ gq ≠ gu ∧ bq + 1 ≠ gu) ∧ (bn ≠ gq ∧ gv ≠ gq ∧ bu ≠ gq ∧ bv ≠ gq ∧ bq ≠ gq ∧ bq + 1 ≠ gq) ∧ h0 ≤ gu ∧ h0 ≤ gq
def OvI (gu gq N J U V : Nat) (pre : List ({k : Nat // k < J} × Nat)) (W : World) : Prop :=
  ∃ uo qo : List Nat, DBk W gu 40 uo ∧ DBk W gq 40 qo ∧ Hid (uo.length = N + 1 ∧ Dig uo ∧ qo.length = J ∧ Dig qo) ∧ (pre.map (·.1) <+: downs J → OvG U V (J - pre.length) uo qo)
def OvJ (w : World) (bn n gu gv bu bv gq bq N J U V : Nat) (v0 : List Nat) (pre : List ({k : Nat // k < J} × Nat)) (W : World) : Prop :=
  (OvSt bn n gu gv bu bv gq bq N J v0 W ∧ OvNe w.heap.size bn gu gv bu bv gq bq) ∧ OvI gu gq N J U V pre W ∧ Below w.heap.size w W
section
variable {w W W' : World} {bn n gu gv bu bv gq bq N J U V : Nat} {v0 : List Nat} {pre : List ({k : Nat // k < J} × Nat)}
theorem OvJ.blk (h : OvJ w bn n gu gv bu bv gq bq N J U V v0 pre W) : DigBlk W gq J := let ⟨_, ⟨_, qo, _, h2, h3, _⟩, _⟩ := h; ⟨qo, h2, h3.out.2.2.1, h3.out.2.2.2⟩
theorem OvJ.lt (h : OvJ w bn n gu gv bu bv gq bq N J U V v0 pre W) : gq < W.heap.size := let ⟨_, h1, _⟩ := h.blk; h1.lt
theorem ovJ_own {B : Nat} (hB : w.heap.size ≤ B) : OwnFrom B (OvJ w bn n gu gv bu bv gq bq N J U V v0) :=
  OwnFrom.and (Own.from (fun _ _ _ _ hs hg hr => ⟨⟨heap_kept hs.1.1 rfl hg hr, heap_kept hs.1.2.1 rfl hg hr, heap_kept hs.1.2.2.1 rfl hg hr, heap_kept hs.1.2.2.2.1 rfl hg hr, heap_kept hs.1.2.2.2.2.1 rfl hg hr, heap_kept hs.1.2.2.2.2.2 rfl hg hr⟩, hs.2⟩) _)
    (OwnFrom.and (Own.from (fun _ _ _ _ ⟨uo, qo, h1, h2, h3⟩ hg hr => ⟨uo, qo, heap_kept h1 rfl hg hr, heap_kept h2 rfl hg hr, h3⟩) _) (ownFrom_below (Nat.le_refl _) hB))
theorem OvSt.grown (h : OvSt bn n gu gv bu bv gq bq N J v0 W) (k : OvNe w.heap.size bn gu gv bu bv gq bq) (hg : W.grownBy W' (some gu)) : OvSt bn n gu gv bu bv gq bq N J v0 W' :=
  ⟨h.1.kept hg (by have := k.1.1; simpa using this), (hg.block gv h.2.1.lt (by have := k.1.2.1; simpa using this)).trans h.2.1, h.2.2.1.kept hg (by have := k.1.2.2.1; simpa using this), h.2.2.2.1.kept hg (by have := k.1.2.2.2.1; simpa using this), h.2.2.2.2.1.kept hg (by have := k.1.2.2.2.2.1; simpa using this), h.2.2.2.2.2.kept hg (by have := k.1.2.2.2.2.2.2; simpa using this)⟩
theorem OvSt.store (h : OvSt bn n gu gv bu bv gq bq N J v0 W) (k : OvNe w.heap.size bn gu gv bu bv gq bq) (i : Nat) (u : Value) : OvSt bn n gu gv bu bv gq bq N J v0 (W.setCell ⟨gq, i, none⟩ u) :=
  ⟨boxed_far h.1 (p := ⟨gq, i, none⟩) k.2.1.1 u, h.2.1.far (p := ⟨gq, i, none⟩) k.2.1.2.1 u, boxed_far h.2.2.1 (p := ⟨gq, i, none⟩) k.2.1.2.2.1 u, boxed_far h.2.2.2.1 (p := ⟨gq, i, none⟩) k.2.1.2.2.2.1 u, boxed_far h.2.2.2.2.1 (p := ⟨gq, i, none⟩) k.2.1.2.2.2.2.1 u, boxed_far h.2.2.2.2.2 (p := ⟨gq, i, none⟩) k.2.1.2.2.2.2.2 u⟩

/-- After the call of step: what the store needs. -/
theorem ov_after {qo : List Nat} {k : Nat} (hs : OvSt bn n gu gv bu bv gq bq N J v0 W) (hn : OvNe w.heap.size bn gu gv bu bv gq bq) (hq : DBk W gq 40 qo) (hk : k < qo.length) (hg : W.drew.grownBy W' (some gu)) :
    W'.cell? ⟨bq, 0, none⟩ = some (.slice (some ⟨gq, 0, none⟩) J J) ∧ W'.cell? ⟨gq, k, none⟩ = some (.int .u32 (dg qo k : Nat)) ∧ W'.frozen? ⟨gq, k, none⟩ = false ∧ gq < W'.heap.size := by
  have h1 := OvSt.grown (W := W.drew) (w := w) hs hn hg
  have h2 : DBk W' gq 40 qo := (hg.block gq (by exact hq.lt) (by have := hn.1.2.2.2.2.2.1; simpa using this)).trans hq
  exact ⟨h1.2.2.2.2.1.cell, h2.cell hk, h2.frozen k, h2.lt⟩

/-- A round of over's loop. -/
theorem ovR {m g : Nat} {uo qo u' : List Nat} (x : {k : Nat // k < J} × Nat) (hs : OvSt bn n gu gv bu bv gq bq N J v0 W) (hn : OvNe w.heap.size bn gu gv bu bv gq bq) (hU : DBk W gu 40 uo) (hq : DBk W gq 40 qo) (hl : uo.length = N + 1 ∧ Dig uo ∧ qo.length = J ∧ Dig qo) (hI : pre.map (·.1) <+: downs J → OvG U V (J - pre.length) uo qo) (hBW : Below w.heap.size w W)
    (hg : W.drew.grownBy W' (some gu)) (hgl : g < 4294967296) (hul : u'.length = ((uo.drop x.1.1).take (m + 1 + 1)).length) (hud : Dig u') (hU' : DBk W' gu 40 (uo.take x.1.1 ++ u' ++ uo.drop (x.1.1 + (m + 1 + 1)))) (h1 : nval ((uo.drop x.1.1).take (m + 1 + 1)) = nval u' + g * nval v0) (h2 : nval ((uo.drop x.1.1).take (m + 1 + 1)) < nval v0 * 4294967296 → nval u' < nval v0)
    (hV : nval v0 = V ∧ V < 4294967296 ^ (m + 1) ∧ N + 1 = J + (m + 1)) :
    KeepsOthers W (W'.setCell ⟨gq, x.1.1, none⟩ (.int .u32 (g : Nat))) ∧ KpQ w.heap.size (bq + 1) gq J W (W'.setCell ⟨gq, x.1.1, none⟩ (.int .u32 (g : Nat))) ∧ OvJ w bn n gu gv bu bv gq bq N J U V v0 (pre ++ [x]) (W'.setCell ⟨gq, x.1.1, none⟩ (.int .u32 (g : Nat))) := by
  have hx := x.1.2
  obtain ⟨l1, l2, l3, l4⟩ := hl
  obtain ⟨hv1, hv2, hv3⟩ := hV
  have hq' : DBk W' gq 40 qo := (hg.block gq hq.lt (by have := hn.1.2.2.2.2.2.1; simpa using this)).trans hq
  have hsz : W.heap.size ≤ W'.heap.size := hg.size
  have hBW' : Below w.heap.size w W' := hBW.drew.grown hg hBW.size (fun k e => by cases e; exact hn.2.2.1)
  have hko : KeepsOthers W W' := (others_heap (W := W) (W' := W.drew) rfl).trans (KeepsOthers.of_grownBy hg (fun j o e ho => by cases e; rw [show W.drew.heap[gu]? = _ from hU] at ho; cases ho; rfl))
  have hlen : (uo.take x.1.1).length = x.1.1 := by rw [List.length_take]; omega
  have hlen2 : ((uo.drop x.1.1).take (m + 1 + 1)).length = m + 1 + 1 := by rw [List.length_take, List.length_drop]; omega
  have hsplit : uo = uo.take x.1.1 ++ (uo.drop x.1.1).take (m + 1 + 1) ++ uo.drop (x.1.1 + (m + 1 + 1)) := by
    rw [List.append_assoc, ← List.drop_drop, List.take_append_drop, List.take_append_drop]
  refine ⟨hko.trans (KeepsOthers.setCell _ _ _), ⟨⟨(Below.refl _ _).drew.grown hg (Nat.le_trans hBW.size (Nat.le_refl _)) (fun k e => by cases e; exact hn.2.2.1) |>.setCell (p := ⟨gq, x.1.1, none⟩) hn.2.2.2 _, ?_⟩, fun _ => ⟨_, hq'.set _ _, by simpa using l3, dig_set l4 hgl⟩⟩, ⟨OvSt.store (OvSt.grown (W := W.drew) (w := w) hs hn hg) hn _ _, hn⟩, ⟨_, _, hU'.far (p := ⟨gq, x.1.1, none⟩) (Ne.symm hn.1.2.2.2.2.2.1) _, hq'.set _ _, ⟨?_, ?_, by simpa using l3, dig_set l4 hgl⟩, fun hp => ?_⟩, hBW'.setCell (p := ⟨gq, x.1.1, none⟩) hn.2.2.2 _⟩
  · exact (Below.heap_setCell _ ⟨gq, x.1.1, none⟩ _ (bq + 1) hn.2.1.2.2.2.2.2).trans (hg.block (bq + 1) hs.2.2.2.2.2.lt (by have := hn.1.2.2.2.2.2.2; simpa using this))
  · simp only [List.length_append, hlen, hul, hlen2, List.length_drop]; omega
  · exact dig_append.2 ⟨dig_append.2 ⟨dig_take l2 _, hud⟩, dig_drop l2 _⟩
  · rw [List.map_append] at hp
    obtain ⟨p1, p2, p3⟩ := downs_prefix hp
    rw [List.length_map] at p2 p3
    have p4 : x.1.1 = J - 1 - pre.length := p3
    have h7 := hI p1
    have e : J - pre.length = x.1.1 + 1 := by omega
    have e2 : J - (pre ++ [x]).length = x.1.1 := by rw [List.length_append]; simp only [List.length_cons, List.length_nil]; omega
    rw [e] at h7
    rw [e2]
    rw [hv1] at h1 h2
    exact ovG_step h7 hsplit hlen hlen2 (by rw [hul, hlen2]) hv2 l2 (by omega) h1 h2
theorem ovJ_start {l v s m : Nat} {u0 : List Nat} {wc : World} (hne : w.heap.size ≤ bn ∧ w.heap.size ≤ gu ∧ w.heap.size ≤ gv ∧ w.heap.size ≤ bu ∧ w.heap.size ≤ bv ∧ bn ≠ gu ∧ bn ≠ gv ∧ bn ≠ bu ∧ bn ≠ bv ∧ gu ≠ gv ∧ gu ≠ bu ∧ gu ≠ bv ∧ gv ≠ bu ∧ gv ≠ bv ∧ bu ≠ bv) (hB : Below w.heap.size w wc)
    (k1 : Boxed wc bn 3 (.int .i64 (n : Nat))) (k2 : DBk wc gu 40 u0) (k3 : DBk wc gv 40 v0) (k4 : Boxed wc bu 50 (.slice (some ⟨gu, 0, none⟩) (N + 1) (N + 1))) (k5 : Boxed wc bv 50 (.slice (some ⟨gv, 0, none⟩) n n))
    (hI : u0.length = N + 1 ∧ Dig u0 ∧ nval u0 = l * 2 ^ s) (hJ : J ≤ N + 1) (hl : l < 4294967296 ^ (J + m)) (hv : 4294967296 ^ m ≤ v) :
    Boxed (((wc.alloc (.cells (madeCells #[.int .u32 0] J) 40)).alloc (.cells #[.slice (some ⟨wc.heap.size, 0, none⟩) J J] 50)).alloc (.cells #[.slice (some ⟨wc.heap.size, 0, none⟩) J J] 50)) (wc.heap.size + 1 + 1) 50 (.slice (some ⟨wc.heap.size, 0, none⟩) J J) ∧
      (((wc.alloc (.cells (madeCells #[.int .u32 0] J) 40)).alloc (.cells #[.slice (some ⟨wc.heap.size, 0, none⟩) J J] 50)).alloc (.cells #[.slice (some ⟨wc.heap.size, 0, none⟩) J J] 50)).heap.size = wc.heap.size + 1 + 1 + 1 ∧
      OvJ w bn n gu gv bu bv wc.heap.size (wc.heap.size + 1) N J (l * 2 ^ s) (v * 2 ^ s) v0 [] (((wc.alloc (.cells (madeCells #[.int .u32 0] J) 40)).alloc (.cells #[.slice (some ⟨wc.heap.size, 0, none⟩) J J] 50)).alloc (.cells #[.slice (some ⟨wc.heap.size, 0, none⟩) J J] 50)) := by
  have hz := hB.size
  have hx : Boxed (((wc.alloc (.cells (madeCells #[.int .u32 0] J) 40)).alloc (.cells #[.slice (some ⟨wc.heap.size, 0, none⟩) J J] 50)).alloc (.cells #[.slice (some ⟨wc.heap.size, 0, none⟩) J J] 50)) (wc.heap.size + 1 + 1) 50 (.slice (some ⟨wc.heap.size, 0, none⟩) J J) := heap_alloc_at _ _ _ (by simp)
  have hy : Boxed ((wc.alloc (.cells (madeCells #[.int .u32 0] J) 40)).alloc (.cells #[.slice (some ⟨wc.heap.size, 0, none⟩) J J] 50)) (wc.heap.size + 1) 50 (.slice (some ⟨wc.heap.size, 0, none⟩) J J) := heap_alloc_at _ _ _ (by simp)
  have l1 := k1.lt
  have l2 := k2.lt
  have l3 := k3.lt
  have l4 := k4.lt
  have l5 := k5.lt
  refine ⟨hx, by simp, ⟨⟨((k1.alloc _).alloc _).alloc _, ((k3.alloc _).alloc _).alloc _, ((k4.alloc _).alloc _).alloc _, ((k5.alloc _).alloc _).alloc _, hy.alloc _, hx⟩, ?_⟩, ⟨u0, List.replicate J 0, ((k2.alloc _).alloc _).alloc _, ((DBk.new wc _ J).alloc _).alloc _, ⟨hI.1, hI.2.1, by simp, dig_zeros J⟩, fun _ => ovG_start hl hv hI.2.2 (by omega) (by simp)⟩, ((hB.alloc (by omega) _).alloc (by simp; omega) _).alloc (by simp; omega) _⟩
  unfold OvNe
  omega
theorem ovJ_call {m : Nat} {uo : List Nat} (x : {k : Nat // k < J}) (hs : OvSt bn (m + 1) gu gv bu bv gq bq N J v0 W) (hn : OvNe w.heap.size bn gu gv bu bv gq bq) (hU : DBk W gu 40 uo) (hl : uo.length = N + 1 ∧ Dig uo) (hv : v0.length = m + 1) (dv : Dig v0) (hJ : N + 1 = J + (m + 1)) (hm : m ≤ 1000) (L cu cv : Nat) (hL : L = m + 1 + 1) :
    Calls Tryz.prog 54 #[.slice (some ⟨gu, x.1, none⟩) L cu, .slice (some ⟨gv, 0, none⟩) (m + 1) cv] W.drew (RetStep gu (uo.take x.1) ((uo.drop x.1).take (m + 1 + 1)) (uo.drop (x.1 + (m + 1 + 1))) v0 W.drew) := by
  subst hL
  have hx := x.2
  obtain ⟨l1, l2⟩ := hl
  have hsplit : uo.take x.1 ++ (uo.drop x.1).take (m + 1 + 1) ++ uo.drop (x.1 + (m + 1 + 1)) = uo := by
    rw [List.append_assoc, ← List.drop_drop, List.take_append_drop, List.take_append_drop]
  exact step_any gu gv x.1 m cu cv _ _ _ v0 W.drew (by rw [List.length_take]; omega) (by rw [List.length_take, List.length_drop]; omega) hv (dig_take (dig_drop l2 _) _) dv (by rw [hsplit]; exact hU) hs.2.1 hn.1.2.1 hm
end


theorem sl_putObj {W : World} {B n c D : Nat} {A : Option Addr} {L : List Nat} {o o' : Obj} (h : Sl W B A n c L) (hD : W.heap[D]? = some o) (hc : o.isCells = false) (hB : B ≤ W.heap.size) : Sl (W.putObj D o') (W.putObj D o').heap.size A n c L := by
  have hg := grownBy_putObj' W D o'
  have hsz : W.heap.size ≤ (W.putObj D o').heap.size := hg.size
  refine ⟨⟨⟨h.1.1.1, fun hn => ?_⟩, h.1.2⟩, h.2⟩
  obtain ⟨ad, e, hb, hcell⟩ := h.1.1.2 hn
  exact ⟨ad, e, by omega, fun j u hu => cell_kept (hcell j u hu) hg (fun r e => by cases e; exact ⟨o, hD, hc⟩)⟩

/-- What stays in the last loop of over. -/
def OvE (w : World) (bu gu bq gq D N J : Nat) (uo qo : List Nat) (W : World) : Prop :=
  Boxed W bu 50 (.slice (some ⟨gu, 0, none⟩) (N + 1) (N + 1)) ∧ DBk W gu 40 uo ∧ Boxed W bq 50 (.slice (some ⟨gq, 0, none⟩) J J) ∧ DBk W gq 40 qo ∧ W.heap[D]? = some (.deferred (some [])) ∧ Below w.heap.size w W
theorem OvE.drew {w W : World} {bu gu bq gq D N J : Nat} {uo qo : List Nat} (h : OvE w bu gu bq gq D N J uo qo W) : OvE w bu gu bq gq D N J uo qo W.drew := ⟨h.1, h.2.1, h.2.2.1, h.2.2.2.1, h.2.2.2.2.1, h.2.2.2.2.2.drew⟩
theorem OvE.alloc {w W : World} {bu gu bq gq D N J : Nat} {uo qo : List Nat} (h : OvE w bu gu bq gq D N J uo qo W) (o : Obj) : OvE w bu gu bq gq D N J uo qo (W.alloc o) :=
  ⟨h.1.alloc o, h.2.1.alloc o, h.2.2.1.alloc o, h.2.2.2.1.alloc o, heap_alloc_past h.2.2.2.2.1, h.2.2.2.2.2.alloc h.2.2.2.2.2.size o⟩
theorem OvE.store {w W : World} {bu gu bq gq D N J g : Nat} {uo qo : List Nat} (h : OvE w bu gu bq gq D N J uo qo W) (h1 : bu ≠ g ∧ gu ≠ g ∧ bq ≠ g ∧ gq ≠ g ∧ D ≠ g ∧ w.heap.size ≤ g) (i : Nat) (u : Value) : OvE w bu gu bq gq D N J uo qo (W.setCell ⟨g, i, none⟩ u) :=
  ⟨boxed_far h.1 (p := ⟨g, i, none⟩) h1.1 u, h.2.1.far (p := ⟨g, i, none⟩) h1.2.1 u, boxed_far h.2.2.1 (p := ⟨g, i, none⟩) h1.2.2.1 u, h.2.2.2.1.far (p := ⟨g, i, none⟩) h1.2.2.2.1 u, (Below.heap_setCell _ ⟨g, i, none⟩ u D h1.2.2.2.2.1).trans h.2.2.2.2.1, h.2.2.2.2.2.setCell h1.2.2.2.2.2 u⟩
end Go.Proofs.YthnickjbknpmhaaGreatDoor
