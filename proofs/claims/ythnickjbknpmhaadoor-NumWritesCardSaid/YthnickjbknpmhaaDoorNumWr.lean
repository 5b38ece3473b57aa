/-
  The contract of cut; the walk of NumWrites.
-/
import Derived.Test.YthnickjbknpmhaaDoorNumRefW
import Derived.Test.YthnickjbknpmhaaDoorNumSan
namespace Go.Proofs.YthnickjbknpmhaaDoor
open Go.RowKit Go.Shelf

set_option maxRecDepth 100000 in
set_option maxHeartbeats 2000000 in
theorem cut_at (neg : Bool) (A : Option Addr) (n c m k : Nat) (w : World) (hn : n ≤ c) (_ : c ≤ 9223372036854775807) (hk : min n m = k) :
    Calls Tryd.prog 10 #[.agg #[.bool neg, .slice A n c], .int .i64 (m : Nat)] w fun e w' => e = .returned (.agg #[.bool neg, .slice A k c]) ∧ Below w.heap.size w w' := by
  have s0 := S1.start (w := w) (neg := neg) (A := A) (n := n) (c := c)
  have hmin : min (n : Int) (m : Int) = (k : Int) := by omega
  have hkn : (k : Int) ≤ n := by omega
  go_enter Tryd.func10, Tryd.ntmps10
  go_upto_region 1 with fail
  go_region
  all_goals
    go_wp2
    refine bodyPost_ret (v := .agg #[.bool neg, .slice A k c]) ?_ rfl ⟨rfl, ?_⟩
    · simp [results, Tryd.f10, go_sem]
    · exact ((Below.refl _ _).alloc (Nat.le_refl _) _ |>.alloc (by simp) _).drew
theorem cut_any (neg : Bool) {A : Option Addr} {n c : Nat} (m : Nat) {l : List Nat} {w : World} (h : Sl w w.heap.size A n c l) :
    Calls Tryd.prog 10 #[.agg #[.bool neg, .slice A n c], .int .i64 (m : Nat)] w fun e w' => ∃ k, e = .returned (.agg #[.bool neg, .slice A k c]) ∧ Sl w' w'.heap.size A k c (l.take m) ∧ Below w.heap.size w w' := by
  refine (cut_at neg A n c m (min n m) w h.2.1 h.2.2 rfl).mono ?_
  rintro e w' ⟨rfl, hb⟩
  refine ⟨_, rfl, ?_, hb⟩
  have h2 := (h.take (k := min n m) (by omega)).via hb
  rwa [show l.take (min n m) = l.take m by
    rcases Nat.le_total n m with h3 | h3
    · rw [Nat.min_eq_left h3, List.take_of_length_le (by rw [h.len]; omega), List.take_of_length_le (by rw [h.len]; omega)]
    · rw [Nat.min_eq_right h3]] at h2

/-- An array of two Nums. -/
def E2 (W : World) (e : Nat) (g1 : Bool) (A1 : Option Addr) (n1 c1 : Nat) (g2 : Bool) (A2 : Option Addr) (n2 c2 : Nat) : Prop :=
  W.cell? ⟨e, 0, none⟩ = some (.bool g1) ∧ W.cell? ⟨e, 1, none⟩ = some (.slice A1 n1 c1) ∧ W.cell? ⟨e, 2, none⟩ = some (.bool g2) ∧ W.cell? ⟨e, 3, none⟩ = some (.slice A2 n2 c2) ∧ e < W.heap.size
theorem E2.via {W W1 : World} {e n1 c1 n2 c2 : Nat} {g1 g2 : Bool} {A1 A2 : Option Addr} (h : E2 W e g1 A1 n1 c1 g2 A2 n2 c2) (hb : Below W.heap.size W W1) : E2 W1 e g1 A1 n1 c1 g2 A2 n2 c2 :=
  ⟨(hb.cell (p := ⟨e, 0, none⟩) h.2.2.2.2).trans h.1, (hb.cell (p := ⟨e, 1, none⟩) h.2.2.2.2).trans h.2.1, (hb.cell (p := ⟨e, 2, none⟩) h.2.2.2.2).trans h.2.2.1, (hb.cell (p := ⟨e, 3, none⟩) h.2.2.2.2).trans h.2.2.2.1, Nat.lt_of_lt_of_le h.2.2.2.2 hb.size⟩
theorem E2.new (W : World) (T : TypeId) {n1 c1 n2 c2 : Nat} {g1 g2 : Bool} {A1 A2 : Option Addr} : E2 (W.alloc (.cells #[.bool g1, .slice A1 n1 c1, .bool g2, .slice A2 n2 c2] T)) W.heap.size g1 A1 n1 c1 g2 A2 n2 c2 :=
  ⟨by simp [go_sem], by simp [go_sem], by simp [go_sem], by simp [go_sem], by simp⟩
theorem textS_len {neg : Bool} {l : List Nat} (hd : Dig l) : (textS neg l).length ≤ 642 := by
  unfold textS
  split
  · rename_i h
    have h1 := right_true h hd
    have hb : nval l < big := (canon_fits h1.1).1 h1.2.1
    have h2 : (Lib.decDigits (nval l)).length ≤ 641 := by
      by_cases h0 : nval l = 0
      · rw [h0, dec_zero]; simp
      · have := dec_len 640 (nval l) (by omega) (Nat.lt_trans hb big_dec)
        omega
    cases neg
    · rw [show sgn false (nval l) = (nval l : Int) from rfl, Lib.itoa, if_neg (by omega), Int.toNat_natCast]; omega
    · by_cases h0 : nval l = 0
      · rw [h0, show sgn true 0 = 0 from rfl, Lib.itoa, if_neg (by omega), show (0 : Int).toNat = 0 from rfl, dec_zero]; simp
      · rw [show sgn true (nval l) = -(nval l : Int) from rfl, Lib.itoa, if_pos (by omega), Int.natAbs_neg, Int.natAbs_natCast, List.length_cons]; omega
  · simp

/-- A block of strings. -/
def T6 (W : World) (q : Nat) (ts : List (List UInt8)) : Prop := q < W.heap.size ∧ ∀ j, j < ts.length → W.cell? ⟨q, j, none⟩ = some (.string ⟨(ts.getD j []).toArray⟩)
theorem T6.via {W W1 : World} {q : Nat} {ts : List (List UInt8)} (h : T6 W q ts) (hb : Below W.heap.size W W1) : T6 W1 q ts :=
  ⟨Nat.lt_of_lt_of_le h.1 hb.size, fun j hj => (hb.cell (p := ⟨q, j, none⟩) h.1).trans (h.2 j hj)⟩
/-- The strings that are parsed. -/
def strs (tx t : List UInt8) : List (List UInt8) := [tx, t, tx ++ t, t ++ tx, 48 :: tx, 45 :: tx]
theorem T6.new (W : World) (tx t : List UInt8) (T : TypeId) : T6 (W.alloc (.cells #[.string ⟨tx.toArray⟩, .string ⟨t.toArray⟩, .string ⟨(tx ++ t).toArray⟩, .string ⟨(t ++ tx).toArray⟩, .string ⟨(48 :: tx).toArray⟩, .string ⟨(45 :: tx).toArray⟩] T)) W.heap.size (strs tx t) := by
  refine ⟨by simp, fun j hj => ?_⟩
  match j, hj with
  | 0, _ => simp [go_sem, strs]
  | 1, _ => simp [go_sem, strs]
  | 2, _ => simp [go_sem, strs]
  | 3, _ => simp [go_sem, strs]
  | 4, _ => simp [go_sem, strs]
  | 5, _ => simp [go_sem, strs]
  | k + 6, h => exact absurd h (by simp [strs])
theorem strs_len {tx t : List UInt8} (h : tx.length ≤ 642) (h2 : t.length ≤ 40) (j : Nat) : ((strs tx t).getD j []).length ≤ 1000 := by
  match j with
  | 0 => simp [strs]; omega
  | 1 => simp [strs]; omega
  | 2 => simp [strs]; omega
  | 3 => simp [strs]; omega
  | 4 => simp [strs]; omega
  | 5 => simp [strs]; omega
  | k + 6 => simp [strs]
theorem same_self (neg : Bool) {A A2 : Option Addr} {n n2 c c2 v : Nat} {w : World} (h : Sl w w.heap.size A n c (digs v)) (h2 : Sl w w.heap.size A2 n2 c2 (digs v)) :
    Calls Tryd.prog 15 #[.agg #[.bool neg, .slice A n c], .agg #[.bool neg, .slice A2 n2 c2]] w fun e w' => e = .returned (.bool true) ∧ Below w.heap.size w w' := by
  refine (same_any neg neg h h2 (Nat.le_refl _)).mono ?_
  rintro e w' ⟨rfl, hb⟩
  exact ⟨by rw [show sameB neg (digs v) neg (digs v) = true from decide_eq_true ⟨rfl, rfl⟩], hb⟩

attribute [local go_sem] bapp

set_option maxRecDepth 100000 in
set_option maxHeartbeats 16000000 in
theorem numWrites_walk (A1 : Option Addr) (k1 d1 : Nat) (z1 : List Int) (neg : Bool) (A : Option Addr) (n c : Nat) (l : List Nat) (s : List UInt8) (w : World) {B : Nat} (hB : B ≤ w.heap.size) (hT : PowT B w) (hS : SynT B w)
    (h1 : Reads w B 1 A1 k1 (z1.map (Value.int .i64))) (m1 : k1 ≤ 9223372036854775807) (h : Sl w w.heap.size A n c l) (hsl : s.length ≤ 9223372036854775807) :
    Calls Tryd.prog 3 #[.slice A1 k1 d1, .agg #[.bool neg, .slice A n c], .string ⟨s.toArray⟩] w fun e w' => e = .returned (.bool true) ∧ Below w.heap.size w w' := by
  have SA := Lib.hid (fun (W : World) (hW : Below w.heap.size w W) => sanity_any W (Nat.le_trans hB hW.size) (hT.below hW hB) (hS.below hW hB))
  have M1 := Lib.hid (fun (W : World) (hW : Below w.heap.size w W) => made_v (W := W) (c := d1) (h1.below (hW.mono hB)) (Nat.le_trans hB hW.size) m1)
  have CU := Lib.hid (fun (W : World) (hW : Below w.heap.size w W) => cut_any neg 20 (h.via hW))
  rw [show ((20 : Nat) : Int) = 20 from rfl] at CU
  obtain ⟨ga, hga⟩ : ∃ g, decide (madeV z1 < 0) = g := ⟨_, rfl⟩
  obtain ⟨va, hva⟩ : ∃ v, (madeV z1).natAbs = v := ⟨_, rfl⟩
  rw [hga, hva] at M1
  have HP := Lib.hid (fun (W : World) (hW : Below w.heap.size w W) => And.intro (Nat.le_trans hB hW.size) (And.intro (hT.below hW hB) (hS.below hW hB)))
  have hdig := Lib.hid h.dig
  have s0 := S1.start (w := w) (neg := neg) (A := A) (n := n) (c := c)
  clear h1 m1 hT hS h
  obtain ⟨k, hk⟩ : ∃ k, min s.length 40 = k := ⟨_, rfl⟩
  have hmin : min (s.length : Int) 40 = (k : Int) := by omega
  have hks : (k : Int) ≤ s.length := by omega
  have hst : (s.take k).length ≤ 40 := by rw [List.length_take]; omega
  go_enter Tryd.func3, Tryd.ntmps3
  go_upto_region 3 with (first
    | (go_at_call 8; (with_reducible refine (SA.out _ s0.below).mono ?_); rintro e w1 ⟨rfl, hb⟩; have s1 := s0.via hb; clear hb)
    | fail "no arm")
  rw [ext_take]
  obtain ⟨t, ht⟩ : ∃ t, s.take k = t := ⟨_, rfl⟩
  rw [ht] at hst ⊢
  obtain ⟨a0, a1⟩ := s1.drew.facts
  replace s1 := s1.drew
  clear s0 hmin hks
  go_region_held3 (fun W => W.cell? ⟨w.heap.size, 0, none⟩ = some (.bool neg) ∧ W.cell? ⟨w.heap.size, 1, none⟩ = some (.slice A n c))
    (first | exact ⟨a0, a1⟩ | exact (s1.via ((Below.refl _ _).alloc (Nat.le_refl _) _)).facts)
    (first
      | (go_at_call 9; (with_reducible refine (M1.out _ s1.below).mono ?_); rintro e w2 ⟨A_a, n_a, c_a, rfl, hs_a, hb⟩; replace s1 := s1.via hb; clear a0 a1 hb; obtain ⟨a0, a1⟩ := s1.facts)
      | (go_at_call 10; go_loud ((with_reducible refine (CU.out _ s1.below).mono ?_); rintro e w3 ⟨n_b, rfl, hs_b, hb⟩; replace s1 := s1.via hb; replace hs_a := hs_a.via hb; clear a0 a1 hb; obtain ⟨a0, a1⟩ := s1.facts))
      | fail "no arm")
  clear SA M1 CU a0 a1
  have hW3 := s1.below.alloc s1.below.size (.cells #[.bool ga, .slice A_a n_a c_a, .bool neg, .slice A n_b c] 25)
  have bw := (Below.refl w3.heap.size w3).alloc (Nat.le_refl _) (.cells #[.bool ga, .slice A_a n_a c_a, .bool neg, .slice A n_b c] 25)
  replace hs_a := hs_a.via bw
  replace hs_b := hs_b.via bw
  have e2 := E2.new w3 25 (g1 := ga) (A1 := A_a) (n1 := n_a) (c1 := c_a) (g2 := neg) (A2 := A) (n2 := n_b) (c2 := c)
  obtain ⟨q, hq⟩ : ∃ q, w3.heap.size = q := ⟨_, rfl⟩
  obtain ⟨W4, hW4⟩ : ∃ W4, w3.alloc (.cells #[.bool ga, .slice A_a n_a c_a, .bool neg, .slice A n_b c] 25) = W4 := ⟨_, rfl⟩
  rw [hq] at e2 ⊢
  rw [hW4] at hW3 hs_a hs_b e2 ⊢
  clear bw hq hW4 s1
  go_wp2_with fail
  go_loopw [29] (fun i W => ∃ k : Nat, k ≤ 2 ∧ i = .int .i64 k ∧ Hid (Below w.heap.size w W ∧ Sl W W.heap.size A_a n_a c_a (digs va) ∧ Sl W W.heap.size A n_b c (l.take 20) ∧ E2 W q ga A_a n_a c_a neg A n_b c)) (fun i _ => 2 - (intOf i).toNat)
  case atStart => exact ⟨0, by omega, rfl, Lib.hid ⟨hW3, hs_a, hs_b, e2⟩⟩
  case round =>
    clear hW3 hs_a hs_b e2
    obtain ⟨k, hk, rfl, hI⟩ := hrel
    obtain ⟨hBB, hs_a, hs_b, e2⟩ := hI.out
    clear hI
    obtain ⟨x0, x1, x2, x3, xz⟩ := id e2
    rcases (show k = 0 ∨ k = 1 ∨ k = 2 by omega) with rfl | rfl | rfl
    · skip
      have bw := (Below.refl wr.heap.size wr).alloc (Nat.le_refl _) (.cells #[.bool ga, .slice A_a n_a c_a] 25)
      have z0 : (wr.alloc (.cells #[.bool ga, .slice A_a n_a c_a] 25)).cell? ⟨wr.heap.size, 0, none⟩ = some (.bool ga) := by simp [go_sem]
      have z1 : (wr.alloc (.cells #[.bool ga, .slice A_a n_a c_a] 25)).cell? ⟨wr.heap.size, 1, none⟩ = some (.slice A_a n_a c_a) := by simp [go_sem]
      have z2 : wr.heap.size < (wr.alloc (.cells #[.bool ga, .slice A_a n_a c_a] 25)).heap.size := by simp
      have tl := Lib.hid (textS_len (neg := ga) hs_a.dig)
      obtain ⟨tx, htx⟩ : ∃ tx, textS ga (digs va) = tx := ⟨_, rfl⟩
      have RT := Lib.hid (fun (W : World) (h : Sl W W.heap.size A_a n_a c_a (digs va)) => reftext_any ga h (Nat.le_refl _))
      have PT := Lib.hid (fun (W : World) (hW : Below w.heap.size w W) (h : Sl W W.heap.size A_a n_a c_a (digs va)) => text_any ga h (Nat.le_refl _) ((HP.out W hW).2.1.mono (HP.out W hW).1))
      rw [htx] at RT PT tl
      have tl1 : tx.length ≤ 642 := tl.out
      have tl2 : (tx.length : Int) + t.length ≤ 9223372036854775807 := by omega
      have tl3 : (t.length : Int) + tx.length ≤ 9223372036854775807 := by omega
      have tl4 : (1 : Int) + tx.length ≤ 9223372036854775807 := by omega
      replace hs_a := hs_a.via bw
      replace hs_b := hs_b.via bw
      replace e2 := e2.via bw
      replace hBB := hBB.trans (bw.mono hBB.size)
      clear bw
      have tk1 : Hid True := trivial
      have tk2 : Hid True := trivial
      go_wp2_with (first
        | (clear tk1; go_at_call 11; go_loud ((with_reducible refine (RT.out _ hs_a).mono ?_); rintro e w1 ⟨rfl, hb⟩; replace z0 := (hb.cell (p := ⟨wr.heap.size, 0, none⟩) z2).trans z0; replace z1 := (hb.cell (p := ⟨wr.heap.size, 1, none⟩) z2).trans z1; replace z2 := Nat.lt_of_lt_of_le z2 hb.size; replace hs_a := hs_a.via hb; replace hs_b := hs_b.via hb; replace e2 := e2.via hb; replace hBB := hBB.trans (hb.mono hBB.size); clear hb))
        | (clear tk2; go_at_call 12; go_loud ((with_reducible refine (PT.out _ hBB hs_a).mono ?_); rintro e w1 ⟨rfl, hb⟩; clear z0 z1 z2; replace hs_a := hs_a.via hb; replace hs_b := hs_b.via hb; replace e2 := e2.via hb; replace hBB := hBB.trans (hb.mono hBB.size); clear hb))
        | fail "no arm")
      have t6 := T6.new w1 tx t 9
      have bw := (Below.refl w1.heap.size w1).alloc (Nat.le_refl _) (.cells #[.string ⟨tx.toArray⟩, .string ⟨t.toArray⟩, .string ⟨(tx ++ t).toArray⟩, .string ⟨(t ++ tx).toArray⟩, .string ⟨(48 :: tx).toArray⟩, .string ⟨(45 :: tx).toArray⟩] 9)
      replace hs_a := hs_a.via bw
      replace hs_b := hs_b.via bw
      replace e2 := e2.via bw
      replace hBB := hBB.trans (bw.mono hBB.size)
      clear bw RT PT tl2 tl3 tl4 x0 x1 x2 x3 xz
      obtain ⟨W6, hW6⟩ : ∃ W6, w1.alloc (.cells #[.string ⟨tx.toArray⟩, .string ⟨t.toArray⟩, .string ⟨(tx ++ t).toArray⟩, .string ⟨(t ++ tx).toArray⟩, .string ⟨(48 :: tx).toArray⟩, .string ⟨(45 :: tx).toArray⟩] 9) = W6 := ⟨_, rfl⟩
      obtain ⟨q6, hq6⟩ : ∃ q6, w1.heap.size = q6 := ⟨_, rfl⟩
      rw [hW6, hq6] at t6
      rw [hW6] at hs_a hs_b e2 hBB
      rw [hW6, hq6]
      clear hW6 hq6
      go_loopw [53] (fun i W => ∃ j : Nat, j ≤ 6 ∧ i = .int .i64 j ∧ Hid (Below w.heap.size w W ∧ Sl W W.heap.size A_a n_a c_a (digs va) ∧ Sl W W.heap.size A n_b c (l.take 20) ∧ E2 W q ga A_a n_a c_a neg A n_b c ∧ T6 W q6 (strs tx t))) (fun i _ => 6 - (intOf i).toNat)
      case atStart => exact ⟨0, by omega, rfl, Lib.hid ⟨hBB, hs_a, hs_b, e2, t6⟩⟩
      case round =>
        clear hBB hs_a hs_b e2 t6
        obtain ⟨j, hj, rfl, hI⟩ := hrel
        obtain ⟨hBB, hs_a, hs_b, e2, t6⟩ := hI.out
        clear hI
        by_cases hlt : (j : Int) < 6
        · obtain ⟨sj, hsj⟩ : ∃ sj, (strs tx t).getD j [] = sj := ⟨_, rfl⟩
          have hc := t6.2 j (show j < 6 by omega)
          have hlen := strs_len tl1 hst j
          rw [hsj] at hc hlen
          have PA := Lib.hid (fun (W : World) (hW : Below w.heap.size w W) => parse_any sj W (HP.out W hW).1 (HP.out W hW).2.1 (HP.out W hW).2.2)
          have RP := Lib.hid (fun (W : World) => refparse_any sj W hlen)
          obtain ⟨r, hr⟩ : ∃ r, parseS sj = r := ⟨_, rfl⟩
          rw [hr] at PA RP
          clear hsj hlen hr
          have tk1 : Hid True := trivial
          have tk2 : Hid True := trivial
          have tk3 : Hid True := trivial
          go_wp2_with (first
            | (clear tk1; go_at_call 13; go_loud ((with_reducible refine (PA.out _ hBB).mono ?_); rintro e w2 ⟨A_p, n_p, c_p, rfl, hs_p, hb⟩; replace hs_a := hs_a.via hb; replace hs_b := hs_b.via hb; replace e2 := e2.via hb; replace t6 := t6.via hb; replace hBB := hBB.trans (hb.mono hBB.size); have bw := (Below.refl w2.heap.size w2).alloc (Nat.le_refl _) (.cells #[.bool (ngO r), .slice A_p n_p c_p] 25); have ob_p := OB.newg (neg := ngO r) hs_p 25 rfl; replace hs_a := hs_a.via bw; replace hs_b := hs_b.via bw; replace e2 := e2.via bw; replace t6 := t6.via bw; replace hBB := hBB.trans (bw.mono hBB.size); clear hb bw hc))
            | (clear tk2; go_at_call 14; go_loud ((with_reducible refine (RP.out _).mono ?_); rintro e w3 ⟨A_r, n_r, c_r, rfl, hs_r, hb⟩; replace hs_a := hs_a.via hb; replace hs_b := hs_b.via hb; replace e2 := e2.via hb; replace t6 := t6.via hb; replace hBB := hBB.trans (hb.mono hBB.size); replace ob_p := ob_p.via hb; have bw := (Below.refl w3.heap.size w3).alloc (Nat.le_refl _) (.cells #[.bool (ngO r), .slice A_r n_r c_r] 25); have ob_r := OB.newg (neg := ngO r) hs_r 25 rfl; replace ob_p := ob_p.via bw; replace hs_a := hs_a.via bw; replace hs_b := hs_b.via bw; replace e2 := e2.via bw; replace t6 := t6.via bw; replace hBB := hBB.trans (bw.mono hBB.size); obtain ⟨g0, g1, hsp, gz⟩ := id ob_p; obtain ⟨h0, h1, hsr, hz⟩ := id ob_r; clear hb bw))
            | (clear tk3; go_at_call 15; go_loud ((with_reducible refine (same_self (ngO r) hsp hsr).mono ?_); rintro e w4 ⟨rfl, hb⟩; replace hs_a := hs_a.via hb; replace hs_b := hs_b.via hb; replace e2 := e2.via hb; replace t6 := t6.via hb; replace hBB := hBB.trans (hb.mono hBB.size); clear g0 g1 h0 h1 hsp hsr gz hz ob_p ob_r hb))
            | fail "no arm")
          go_roundw
          case rel => exact ⟨j + 1, by omega, rfl, Lib.hid ⟨hBB, hs_a, hs_b, e2, t6⟩⟩
          case measure => simp [intOf]; omega
        · obtain rfl : j = 6 := by omega
          go_wp2_with fail
          go_roundw
          case rel => exact ⟨1, by omega, rfl, Lib.hid ⟨hBB, hs_a, hs_b, e2⟩⟩
          case measure => simp [intOf]
    · skip
      have bw := (Below.refl wr.heap.size wr).alloc (Nat.le_refl _) (.cells #[.bool neg, .slice A n_b c] 25)
      have z0 : (wr.alloc (.cells #[.bool neg, .slice A n_b c] 25)).cell? ⟨wr.heap.size, 0, none⟩ = some (.bool neg) := by simp [go_sem]
      have z1 : (wr.alloc (.cells #[.bool neg, .slice A n_b c] 25)).cell? ⟨wr.heap.size, 1, none⟩ = some (.slice A n_b c) := by simp [go_sem]
      have z2 : wr.heap.size < (wr.alloc (.cells #[.bool neg, .slice A n_b c] 25)).heap.size := by simp
      have tl := Lib.hid (textS_len (neg := neg) hs_b.dig)
      obtain ⟨tx, htx⟩ : ∃ tx, textS neg (l.take 20) = tx := ⟨_, rfl⟩
      have RT := Lib.hid (fun (W : World) (h : Sl W W.heap.size A n_b c (l.take 20)) => reftext_any neg h (Nat.le_refl _))
      have PT := Lib.hid (fun (W : World) (hW : Below w.heap.size w W) (h : Sl W W.heap.size A n_b c (l.take 20)) => text_any neg h (Nat.le_refl _) ((HP.out W hW).2.1.mono (HP.out W hW).1))
      rw [htx] at RT PT tl
      have tl1 : tx.length ≤ 642 := tl.out
      have tl2 : (tx.length : Int) + t.length ≤ 9223372036854775807 := by omega
      have tl3 : (t.length : Int) + tx.length ≤ 9223372036854775807 := by omega
      have tl4 : (1 : Int) + tx.length ≤ 9223372036854775807 := by omega
      replace hs_a := hs_a.via bw
      replace hs_b := hs_b.via bw
      replace e2 := e2.via bw
      replace hBB := hBB.trans (bw.mono hBB.size)
      clear bw
      have tk1 : Hid True := trivial
      have tk2 : Hid True := trivial
      go_wp2_with (first
        | (clear tk1; go_at_call 11; go_loud ((with_reducible refine (RT.out _ hs_b).mono ?_); rintro e w1 ⟨rfl, hb⟩; replace z0 := (hb.cell (p := ⟨wr.heap.size, 0, none⟩) z2).trans z0; replace z1 := (hb.cell (p := ⟨wr.heap.size, 1, none⟩) z2).trans z1; replace z2 := Nat.lt_of_lt_of_le z2 hb.size; replace hs_a := hs_a.via hb; replace hs_b := hs_b.via hb; replace e2 := e2.via hb; replace hBB := hBB.trans (hb.mono hBB.size); clear hb))
        | (clear tk2; go_at_call 12; go_loud ((with_reducible refine (PT.out _ hBB hs_b).mono ?_); rintro e w1 ⟨rfl, hb⟩; clear z0 z1 z2; replace hs_a := hs_a.via hb; replace hs_b := hs_b.via hb; replace e2 := e2.via hb; replace hBB := hBB.trans (hb.mono hBB.size); clear hb))
        | fail "no arm")
      have t6 := T6.new w1 tx t 9
      have bw := (Below.refl w1.heap.size w1).alloc (Nat.le_refl _) (.cells #[.string ⟨tx.toArray⟩, .string ⟨t.toArray⟩, .string ⟨(tx ++ t).toArray⟩, .string ⟨(t ++ tx).toArray⟩, .string ⟨(48 :: tx).toArray⟩, .string ⟨(45 :: tx).toArray⟩] 9)
      replace hs_a := hs_a.via bw
      replace hs_b := hs_b.via bw
      replace e2 := e2.via bw
      replace hBB := hBB.trans (bw.mono hBB.size)
      clear bw RT PT tl2 tl3 tl4 x0 x1 x2 x3 xz
      obtain ⟨W6, hW6⟩ : ∃ W6, w1.alloc (.cells #[.string ⟨tx.toArray⟩, .string ⟨t.toArray⟩, .string ⟨(tx ++ t).toArray⟩, .string ⟨(t ++ tx).toArray⟩, .string ⟨(48 :: tx).toArray⟩, .string ⟨(45 :: tx).toArray⟩] 9) = W6 := ⟨_, rfl⟩
      obtain ⟨q6, hq6⟩ : ∃ q6, w1.heap.size = q6 := ⟨_, rfl⟩
      rw [hW6, hq6] at t6
      rw [hW6] at hs_a hs_b e2 hBB
      rw [hW6, hq6]
      clear hW6 hq6
      go_loopw [53] (fun i W => ∃ j : Nat, j ≤ 6 ∧ i = .int .i64 j ∧ Hid (Below w.heap.size w W ∧ Sl W W.heap.size A_a n_a c_a (digs va) ∧ Sl W W.heap.size A n_b c (l.take 20) ∧ E2 W q ga A_a n_a c_a neg A n_b c ∧ T6 W q6 (strs tx t))) (fun i _ => 6 - (intOf i).toNat)
      case atStart => exact ⟨0, by omega, rfl, Lib.hid ⟨hBB, hs_a, hs_b, e2, t6⟩⟩
      case round =>
        clear hBB hs_a hs_b e2 t6
        obtain ⟨j, hj, rfl, hI⟩ := hrel
        obtain ⟨hBB, hs_a, hs_b, e2, t6⟩ := hI.out
        clear hI
        by_cases hlt : (j : Int) < 6
        · obtain ⟨sj, hsj⟩ : ∃ sj, (strs tx t).getD j [] = sj := ⟨_, rfl⟩
          have hc := t6.2 j (show j < 6 by omega)
          have hlen := strs_len tl1 hst j
          rw [hsj] at hc hlen
          have PA := Lib.hid (fun (W : World) (hW : Below w.heap.size w W) => parse_any sj W (HP.out W hW).1 (HP.out W hW).2.1 (HP.out W hW).2.2)
          have RP := Lib.hid (fun (W : World) => refparse_any sj W hlen)
          obtain ⟨r, hr⟩ : ∃ r, parseS sj = r := ⟨_, rfl⟩
          rw [hr] at PA RP
          clear hsj hlen hr
          have tk1 : Hid True := trivial
          have tk2 : Hid True := trivial
          have tk3 : Hid True := trivial
          go_wp2_with (first
            | (clear tk1; go_at_call 13; go_loud ((with_reducible refine (PA.out _ hBB).mono ?_); rintro e w2 ⟨A_p, n_p, c_p, rfl, hs_p, hb⟩; replace hs_a := hs_a.via hb; replace hs_b := hs_b.via hb; replace e2 := e2.via hb; replace t6 := t6.via hb; replace hBB := hBB.trans (hb.mono hBB.size); have bw := (Below.refl w2.heap.size w2).alloc (Nat.le_refl _) (.cells #[.bool (ngO r), .slice A_p n_p c_p] 25); have ob_p := OB.newg (neg := ngO r) hs_p 25 rfl; replace hs_a := hs_a.via bw; replace hs_b := hs_b.via bw; replace e2 := e2.via bw; replace t6 := t6.via bw; replace hBB := hBB.trans (bw.mono hBB.size); clear hb bw hc))
            | (clear tk2; go_at_call 14; go_loud ((with_reducible refine (RP.out _).mono ?_); rintro e w3 ⟨A_r, n_r, c_r, rfl, hs_r, hb⟩; replace hs_a := hs_a.via hb; replace hs_b := hs_b.via hb; replace e2 := e2.via hb; replace t6 := t6.via hb; replace hBB := hBB.trans (hb.mono hBB.size); replace ob_p := ob_p.via hb; have bw := (Below.refl w3.heap.size w3).alloc (Nat.le_refl _) (.cells #[.bool (ngO r), .slice A_r n_r c_r] 25); have ob_r := OB.newg (neg := ngO r) hs_r 25 rfl; replace ob_p := ob_p.via bw; replace hs_a := hs_a.via bw; replace hs_b := hs_b.via bw; replace e2 := e2.via bw; replace t6 := t6.via bw; replace hBB := hBB.trans (bw.mono hBB.size); obtain ⟨g0, g1, hsp, gz⟩ := id ob_p; obtain ⟨h0, h1, hsr, hz⟩ := id ob_r; clear hb bw))
            | (clear tk3; go_at_call 15; go_loud ((with_reducible refine (same_self (ngO r) hsp hsr).mono ?_); rintro e w4 ⟨rfl, hb⟩; replace hs_a := hs_a.via hb; replace hs_b := hs_b.via hb; replace e2 := e2.via hb; replace t6 := t6.via hb; replace hBB := hBB.trans (hb.mono hBB.size); clear g0 g1 h0 h1 hsp hsr gz hz ob_p ob_r hb))
            | fail "no arm")
          go_roundw
          case rel => exact ⟨j + 1, by omega, rfl, Lib.hid ⟨hBB, hs_a, hs_b, e2, t6⟩⟩
          case measure => simp [intOf]; omega
        · obtain rfl : j = 6 := by omega
          go_wp2_with fail
          go_roundw
          case rel => exact ⟨2, by omega, rfl, Lib.hid ⟨hBB, hs_a, hs_b, e2⟩⟩
          case measure => simp [intOf]
    · go_wp2_with fail
      go_ret
      exact ⟨rfl, hBB⟩
end Go.Proofs.YthnickjbknpmhaaDoor
