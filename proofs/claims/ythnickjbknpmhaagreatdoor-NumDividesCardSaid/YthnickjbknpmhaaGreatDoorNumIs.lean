/-
  The contracts of the law package's is and divides.
-/
import Derived.Test.YthnickjbknpmhaaGreatDoorNumVals
namespace Go.Proofs.YthnickjbknpmhaaGreatDoor
open Go.RowKit Go.Shelf

theorem Sl.built {W : World} {l : List Nat} {v k : Nat} (hl : digs v = l) (hk : l.length = k) (hk2 : k ≤ 1000) : Sl (W.alloc (.cells (u32s l).toArray 40)) (W.alloc (.cells (u32s l).toArray 40)).heap.size (some ⟨W.heap.size, 0, none⟩) k k (digs v) := by
  subst hk
  have hD : DBk (W.alloc (.cells (u32s l).toArray 40)) W.heap.size 40 l := heap_alloc_at _ _ _ rfl
  rw [hl]
  exact hD.sl (by rw [← hl]; exact (digs_canon v).1) (by simp) (by omega)
theorem digs_eq {v : Nat} {l : List Nat} (h : nval l = v) (hd : Dig l) (hl : l.getLast? ≠ some 0) : digs v = l := by
  rw [← h]; exact (digs_of ⟨hd, hl⟩).symm

section
variable {neg neg2 : Bool} {v v2 : Nat} {A A2 : Option Addr} {n n2 c c2 : Nat} {w : World}
set_option maxRecDepth 100000 in
theorem is_v (r1 : Rt neg v) (r2 : Rt neg2 v2) (ok b : Bool) (hb : (ok && decide (sgn neg v = sgn neg2 v2)) = b) (h : Sl w w.heap.size A n c (digs v)) (h2 : Sl w w.heap.size A2 n2 c2 (digs v2)) :
    Calls Tryz.prog 18 #[.agg #[.bool neg, .slice A n c], .bool ok, .bool neg2, .slice A2 n2 c2] w fun e w' => e = .returned (.bool b) ∧ Below w.heap.size w w' := by
  have s0 := S1.start (w := w) (neg := neg) (A := A) (n := n) (c := c)
  obtain ⟨a0, a1⟩ := s0.facts
  have SA := Lib.hid (same_v (W := w.alloc (.cells #[.bool neg, .slice A n c] 26)) r1 r2 rfl (h.alloc_ _) (h2.alloc_ _))
  clear h h2
  cases ok
  · simp at hb
    subst hb
    go_enter Tryz.func18, Tryz.ntmps18
    go_wp2_with fail
    go_ret
    exact ⟨rfl, s0.below⟩
  · rw [Bool.true_and] at hb
    rw [hb] at SA
    go_enter Tryz.func18, Tryz.ntmps18
    go_wp2_with (go_at_call 13; (with_reducible refine (SA.out).mono ?_); rintro e w1 ⟨rfl, hb1⟩)
    go_ret
    exact ⟨rfl, (s0.via hb1).below⟩
end

theorem NB.new2 {W : World} {neg : Bool} {v : Nat} {A : Option Addr} {n c : Nat} (h : Sl W W.heap.size A n c (digs v)) (o : Obj) (T : TypeId) : NB ((W.alloc o).alloc (.cells #[.bool neg, .slice A n c] T)) (W.heap.size + 1) neg v := by
  have := NB.new (neg := neg) (h.alloc_ o) T
  rwa [World.size_alloc] at this
theorem retI_some {x : Int} {w w' : World} {e : Ending} (h : RetI (some x) w e w') : e = .returned (.tuple #[.int .i64 x, .bool true]) ∧ Below w.heap.size w w' := h
theorem retI_none {w w' : World} {e : Ending} (h : RetI none w e w') : e = .returned (.tuple #[.int .i64 0, .bool false]) ∧ Below w.heap.size w w' := h
theorem fit64_small {x : Int} (h : x.natAbs ≤ 1000) : fit64 x = some x := by unfold fit64; rw [if_pos (by omega)]

set_option maxRecDepth 100000 in
set_option maxHeartbeats 1000000 in
theorem divides_v {neg neg2 neg3 neg4 : Bool} {v v2 v3 v4 : Nat} (r1 : Rt neg v) (r2 : Rt neg2 v2) (r3 : Rt neg3 v3) (r4 : Rt neg4 v4) (h0 : v2 ≠ 0) (he : sgn neg v / sgn neg2 v2 = sgn neg3 v3) (hm : sgn neg v % sgn neg2 v2 = sgn neg4 v4)
    (x y q r : Int) (hx : x = sgn neg v) (hy : y = sgn neg2 v2) (hq : q = sgn neg3 v3) (hr : r = sgn neg4 v4) (bx : x.natAbs ≤ 1000) (by_ : y.natAbs ≤ 1000) (bq : q.natAbs ≤ 1000) (br : r.natAbs ≤ 1000) (w : World) :
    Calls Tryz.prog 19 #[.int .i64 x, .int .i64 y, .int .i64 q, .int .i64 r] w fun e w' => e = .returned (.bool true) ∧ Below w.heap.size w w' := by
  have O1 := Lib.hid (fun W => of_v (W := W) r1 hx (by omega) (by omega))
  have O2 := Lib.hid (fun W => of_v (W := W) r2 hy (by omega) (by omega))
  have DV := Lib.hid (fun (W : World) (A A2 : Option Addr) (n c n2 c2 : Nat) (h : Sl W W.heap.size A n c (digs v)) (h2 : Sl W W.heap.size A2 n2 c2 (digs v2)) => div_v r1 r2 r3 r4 h0 he hm h h2)
  have I3 := Lib.hid (fun (W : World) (A : Option Addr) (n c : Nat) (h : Sl W W.heap.size A n c (digs v3)) => int_v r3 (o := some q) (by rw [← hq]; exact fit64_small bq) h)
  have I4 := Lib.hid (fun (W : World) (A : Option Addr) (n c : Nat) (h : Sl W W.heap.size A n c (digs v4)) => int_v r4 (o := some r) (by rw [← hr]; exact fit64_small br) h)
  clear he hm h0 bx by_ bq br hx hy hq hr r1 r2 r3 r4
  go_enter Tryz.func19, Tryz.ntmps19
  go_wp2_with (first
    | (go_at_call 17; (with_reducible refine (O1.out w).mono ?_); rintro e w1 ⟨A1, n1, c1, rfl, hs1, hb1⟩)
    | (go_at_call 17; (with_reducible refine (O2.out w1).mono ?_); rintro e w2 ⟨A2, n2, c2, rfl, hs2, hb2⟩; have hs1 := hs1.via hb2; have hb2 := hb1.trans (hb2.mono hb1.size))
    | (go_at_call 9; (with_reducible refine (DV.out _ _ _ _ _ _ _ hs1 hs2).mono ?_); rintro e w3 ⟨A3, n3, c3, A4, n4, c4, rfl, hs3, hs4, hb3⟩; have hb3 := hb2.trans (hb3.mono hb2.size); have hs3 := (hs3.alloc_ (.cells #[.bool neg3, .slice A3 n3 c3] 26)).alloc_ (.cells #[.bool neg4, .slice A4 n4 c4] 26); have nb := NB.new2 hs4 (neg := neg4) (.cells #[.bool neg3, .slice A3 n3 c3] 26) 26; have hb4 := (hb3.alloc hb3.size (.cells #[.bool neg3, .slice A3 n3 c3] 26)).alloc (by have := hb3.size; simp; omega) (.cells #[.bool neg4, .slice A4 n4 c4] 26))
    | (go_at_call 21; (with_reducible refine (I3.out _ _ _ _ hs3).mono ?_); rintro e w5 hr; obtain ⟨rfl, hb5⟩ := retI_some hr; obtain ⟨A6, n6, c6, g0, g1, hs6, gz⟩ := nb.via hb5; have hb6 := hb4.trans (hb5.mono hb4.size))
    | (go_at_call 21; (with_reducible refine (I4.out _ _ _ _ hs6).mono ?_); rintro e w7 hr; obtain ⟨rfl, hb7⟩ := retI_some hr; have hb8 := hb6.trans (hb7.mono hb6.size))
    | fail "no arm")
  go_ret
  exact ⟨rfl, hb8⟩
end Go.Proofs.YthnickjbknpmhaaGreatDoor
