/-
  The contract of Gcd.
-/
import Derived.Test.YthnickjbknpmhaaGreatDoorNumDa
import Derived.Test.YthnickjbknpmhaaGreatDoorNumSlv
namespace Go.Proofs.YthnickjbknpmhaaGreatDoor
open Go.RowKit Go.Shelf

/-- The greatest common divisor, if both numbers are right. -/
def gcdS (neg : Bool) (l : List Nat) (neg2 : Bool) (m : List Nat) : Option Int :=
  if rightB neg l = true ∧ rightB neg2 m = true then fitO ((Nat.gcd (nval l) (nval m) : Nat) : Int) else none

set_option maxRecDepth 100000 in
set_option maxHeartbeats 1000000 in
theorem gcd_no1 (neg neg2 : Bool) {A A2 : Option Addr} {n n2 c c2 B : Nat} {l : List Nat} {w : World} (h : Sl w B A n c l) (hB : B ≤ w.heap.size) (h1 : rightB neg l = false) :
    Calls Tryz.prog 11 #[.agg #[.bool neg, .slice A n c], .agg #[.bool neg2, .slice A2 n2 c2]] w (RetN none w) := by
  have R1 := Lib.hid (right_at neg (h.more hB) false h1)
  have s0 := Sm.start (w := w) (neg := neg) (A := A) (n := n) (c := c) (neg2 := neg2) (A2 := A2) (n2 := n2) (c2 := c2)
  clear h h1
  go_enter Tryz.func11, Tryz.ntmps11
  go_wp2_with (go_at_call 24; refine (R1.out _ s0.below).mono ?_; rintro e w1 ⟨rfl, hb⟩; have s1 := s0.via hb; obtain ⟨a0, a1, b0, b1, r0, r1, rf, rz⟩ := s1.facts)
  obtain ⟨q0, q1⟩ := two_set (.bool false) (.slice none 0 0) r0 r1
  refine bodyPost_ret (v := .tuple #[.agg #[.bool false, .slice none 0 0], .bool false]) ?_ rfl ⟨_, _, _, rfl, by rw [show digs (vO none).natAbs = [] from digs_zero]; exact Sl.none_, ?_⟩
  · simp [results, Tryz.f11, go_sem, q0, q1]
  · exact (s1.below.setCell (by simp; omega) _).setCell (by simp; omega) _

set_option maxRecDepth 100000 in
set_option maxHeartbeats 1000000 in
theorem gcd_no2 (neg neg2 : Bool) {A A2 : Option Addr} {n n2 c c2 B : Nat} {l m : List Nat} {w : World} (h : Sl w B A n c l) (h2 : Sl w B A2 n2 c2 m) (hB : B ≤ w.heap.size) (h1 : rightB neg l = true) (k1 : rightB neg2 m = false) :
    Calls Tryz.prog 11 #[.agg #[.bool neg, .slice A n c], .agg #[.bool neg2, .slice A2 n2 c2]] w (RetN none w) := by
  have R1 := Lib.hid (right_at neg (h.more hB) true h1)
  have R2 := Lib.hid (right_at neg2 (h2.more hB) false k1)
  have s0 := Sm.start (w := w) (neg := neg) (A := A) (n := n) (c := c) (neg2 := neg2) (A2 := A2) (n2 := n2) (c2 := c2)
  clear h h1 h2 k1
  go_enter Tryz.func11, Tryz.ntmps11
  go_wp2_with (first
    | (go_at_call 24; (with_reducible refine (R1.out _ s0.below).mono ?_); rintro e w1 ⟨rfl, hb⟩; have s1 := s0.via hb; obtain ⟨a0, a1, b0, b1, r0, r1, rf, rz⟩ := s1.facts)
    | (go_at_call 24; (with_reducible refine (R2.out _ s1.below).mono ?_); rintro e w2 ⟨rfl, hb⟩; have s2 := s1.via hb; clear a0 a1 b0 b1 r0 r1 rf rz; obtain ⟨a0, a1, b0, b1, r0, r1, rf, rz⟩ := s2.facts)
    | fail "no arm")
  obtain ⟨q0, q1⟩ := two_set (.bool false) (.slice none 0 0) r0 r1
  refine bodyPost_ret (v := .tuple #[.agg #[.bool false, .slice none 0 0], .bool false]) ?_ rfl ⟨_, _, _, rfl, by rw [show digs (vO none).natAbs = [] from digs_zero]; exact Sl.none_, ?_⟩
  · simp [results, Tryz.f11, go_sem, q0, q1]
  · exact (s2.below.setCell (by simp; omega) _).setCell (by simp; omega) _

theorem gcd_step (p q : Nat) : Nat.gcd q (p % q) = Nat.gcd p q := by rw [Nat.gcd_comm, ← Nat.gcd_rec, Nat.gcd_comm]

set_option maxRecDepth 100000 in
set_option maxHeartbeats 2000000 in
theorem gcd_yes (neg neg2 : Bool) {A A2 : Option Addr} {n n2 c c2 B : Nat} {l m : List Nat} {w : World} (h : Sl w B A n c l) (h2 : Sl w B A2 n2 c2 m) (hB : B ≤ w.heap.size) (h1 : rightB neg l = true) (k1 : rightB neg2 m = true) :
    Calls Tryz.prog 11 #[.agg #[.bool neg, .slice A n c], .agg #[.bool neg2, .slice A2 n2 c2]] w (RetN (fitO ((Nat.gcd (nval l) (nval m) : Nat) : Int)) w) := by
  have R1 := Lib.hid (right_at neg (h.more hB) true h1)
  have R2 := Lib.hid (right_at neg2 (h2.more hB) true k1)
  have hl := right_true h1 h.dig
  have hm := right_true k1 h2.dig
  have hlb : nval l < big := (canon_fits hl.1).1 hl.2.1
  have hmb : nval m < big := (canon_fits hm.1).1 hm.2.1
  have h' := Lib.hid (h.more hB)
  have h2' := Lib.hid (h2.more hB)
  have s0 := Sm.start (w := w) (neg := neg) (A := A) (n := n) (c := c) (neg2 := neg2) (A2 := A2) (n2 := n2) (c2 := c2)
  obtain ⟨G, hG⟩ : ∃ G, Nat.gcd (nval l) (nval m) = G := ⟨_, rfl⟩
  rw [hG]
  have I0 : Hid (∃ p q, l = digs p ∧ m = digs q ∧ Nat.gcd p q = G ∧ p < big ∧ q < big) := Lib.hid ⟨nval l, nval m, digs_of hl.1, digs_of hm.1, hG, hlb, hmb⟩
  clear h h1 h2 k1 hl hm hlb hmb hG
  go_enter Tryz.func11, Tryz.ntmps11
  go_wp2_with (first
    | (go_at_call 24; (with_reducible refine (R1.out _ s0.below).mono ?_); rintro e w1 ⟨rfl, hb⟩; have s1 := s0.via hb; obtain ⟨a0, a1, b0, b1, r0, r1, rf, rz⟩ := s1.facts)
    | (go_at_call 24; (with_reducible refine (R2.out _ s1.below).mono ?_); rintro e w2 ⟨rfl, hb⟩; have s2 := s1.via hb; clear a0 a1 b0 b1 r0 r1 rf rz; obtain ⟨a0, a1, b0, b1, r0, r1, rf, rz⟩ := s2.facts)
    | fail "no arm")
  go_quiet (fail)
  have s3 := s2.drewN nq
  clear a0 a1 b0 b1 r0 r1 rf rz R1 R2
  go_wp2_with fail
  go_loopw [6, 7] (fun x y wr => ∃ A3 n3 c3 p A4 n4 c4 q, x = .slice A3 n3 c3 ∧ y = .slice A4 n4 c4 ∧ Sm w neg A n c neg2 A2 n2 c2 wr ∧ Hid (Sl wr wr.heap.size A3 n3 c3 (digs p) ∧ Sl wr wr.heap.size A4 n4 c4 (digs q) ∧ Nat.gcd p q = G ∧ p < big ∧ q < big)) (fun _ y wr => slv wr y)
  case atStart =>
    obtain ⟨p, q, rfl, rfl, i1, i2, i3⟩ := I0.out
    exact ⟨A, n, c, p, A2, n2, c2, q, rfl, rfl, s3, Lib.hid ⟨(h'.out.below s3.below).more s3.below.size, (h2'.out.below s3.below).more s3.below.size, i1, i2, i3⟩⟩
  case round =>
    obtain ⟨A3, n3, c3, p, A4, n4, c4, q, rfl, rfl, sr, hI⟩ := hrel
    obtain ⟨a0, a1, b0, b1, r0, r1, rf, rz⟩ := sr.facts
    by_cases h6 : (0 : Int) < n4
    · by_cases h5 : (2 : Int) < max (n3 : Int) (n4 : Int)
      · have hq0 : 0 < q := by have := (none_digs hI.out.2.1).2; omega
        have OV : Hid (Calls Tryz.prog 25 #[.slice A3 n3 c3, .slice A4 n4 c4] wr (RetQR (p / q) (p % q) wr)) := by
          obtain ⟨i1, i2, i3, i4, i5⟩ := hI.out
          have := over_any i1 i2 (Nat.le_refl _) (digs_canon p) (digs_canon q) (by have := few_digs i1 i4; omega) (by omega)
          rw [nval_digs, nval_digs] at this
          exact Lib.hid this
        go_wp2_with (first
          | (go_at_call 25; (with_reducible refine (OV.out).mono ?_); rintro e w3 ⟨A5, n5, c5, A6, n6, c6, rfl, hsq, hsr, hb3⟩; have sr2 := sr.via hb3)
          | fail "no arm")
        obtain ⟨i1, i2, i3, i4, i5⟩ := hI.out
        refine ⟨⟨A4, n4, c4, q, A6, n6, c6, p % q, rfl, rfl, sr2, Lib.hid ⟨(i2.below hb3).more hb3.size, hsr, by rw [gcd_step]; exact i3, i5, Nat.lt_trans (Nat.mod_lt _ hq0) i5⟩⟩, ?_⟩
        rw [slv_eq hsr, slv_eq i2, nval_digs, nval_digs]
        exact Nat.mod_lt _ hq0
      · have hw3 : n3 ≤ 2 ∧ n4 ≤ 2 := by omega
        have hne : ((n4 : Int) == 0) = false := by simp; omega
        have hne2 : ¬ (n4 : Int) = 0 := by omega
        obtain ⟨i1, i2, i3, i4, i5⟩ := hI.out
        have hp64 : Hid (p < 18446744073709551616 ∧ q < 18446744073709551616) := by
          have g1 := nval_lt (digs_canon p).1
          have g2 := nval_lt (digs_canon q).1
          rw [nval_digs, i1.len] at g1
          rw [nval_digs, i2.len] at g2
          have g3 : 4294967296 ^ n3 ≤ 4294967296 ^ 2 := Nat.pow_le_pow_right (by omega) hw3.1
          have g4 : 4294967296 ^ n4 ≤ 4294967296 ^ 2 := Nat.pow_le_pow_right (by omega) hw3.2
          exact Lib.hid ⟨by omega, by omega⟩
        have W1 := Lib.hid (word_any A3 n3 c3 wr.heap.size (digs p) wr i1 (Nat.le_refl _) hw3.1)
        have W2 := Lib.hid (fun (W : World) (hW : Below wr.heap.size wr W) => word_any A4 n4 c4 wr.heap.size (digs q) W (i2.below hW) hW.size hw3.2)
        rw [nval_digs] at W1 W2
        clear i1 i2 i4 i5 hI
        go_wp2_with (first
          | (go_at_call 33; (with_reducible refine (W1.out).mono ?_); rintro e w3 ⟨rfl, hb3⟩; have sr2 := sr.via hb3; clear a0 a1 b0 b1 r0 r1 rf rz; obtain ⟨a0, a1, b0, b1, r0, r1, rf, rz⟩ := sr2.facts)
          | (go_at_call 33; (with_reducible refine (W2.out _ hb3).mono ?_); rintro e w4 ⟨rfl, hb4⟩; have sr3 := sr2.via hb4; clear a0 a1 b0 b1 r0 r1 rf rz; obtain ⟨a0, a1, b0, b1, r0, r1, rf, rz⟩ := sr3.facts)
          | fail "no arm")
        clear a0 a1 b0 b1 r0 r1 rf rz W1 W2
        go_loopw [10, 11] (fun x y W => ∃ a b : Nat, x = .int .u64 a ∧ y = .int .u64 b ∧ a < 18446744073709551616 ∧ b < 18446744073709551616 ∧ Sm w neg A n c neg2 A2 n2 c2 W ∧ Hid (Nat.gcd a b = G)) (fun _ y _ => (intOf y).toNat)
        case atStart => exact ⟨p, q, rfl, rfl, hp64.out.1, hp64.out.2, sr3, Lib.hid i3⟩
        case round =>
          obtain ⟨a, b, rfl, rfl, ha, hb, sq, hg⟩ := hrel
          by_cases hb0 : (0 : Int) < b
          · have hbn : (b : Int) ≠ 0 := by omega
            go_wp2_with fail
            go_quiet (fail)
            go_roundw
            case rel =>
              refine ⟨_, _, _, _, _, _, _, _, ⟨b, a % b, ?_, ?_, hb, Nat.lt_trans (Nat.mod_lt _ (by omega)) hb, sq.drewN nq, Lib.hid (by rw [gcd_step]; exact hg.out)⟩, rfl⟩
              · rfl
              · rfl
            case measure =>
              have := Nat.mod_lt a (show 0 < b by omega)
              show (((a % b : Nat) : Int)).toNat < ((b : Nat) : Int).toNat
              rw [Int.toNat_natCast, Int.toNat_natCast]
              exact this
          · obtain rfl : b = 0 := by omega
            obtain rfl : a = G := by have := hg.out; rwa [Nat.gcd_zero_right] at this
            obtain ⟨hv, hd⟩ := two_digs (v := a) ha
            have e2 : IntKind.u32.wrap (a : Int) = ((a % 4294967296 : Nat) : Int) := by rw [IntKind.wrap_u32]; omega
            have e3 : IntKind.u32.wrap ((a : Int) / 4294967296) = ((a / 4294967296 : Nat) : Int) := by rw [IntKind.wrap_u32]; omega
            obtain ⟨d0, ed0⟩ : ∃ d0, a % 4294967296 = d0 := ⟨_, rfl⟩
            obtain ⟨d1, ed1⟩ : ∃ d1, a / 4294967296 = d1 := ⟨_, rfl⟩
            rw [ed0, ed1] at hv hd
            rw [ed0] at e2
            rw [ed1] at e3
            clear ed0 ed1 hb0 hg i3 h5 hne hne2 hw3
            have hD : DBk (wr.alloc (.cells #[.int .u32 (d0 : Nat), .int .u32 (d1 : Nat)] 40)) wr.heap.size 40 [d0, d1] := heap_alloc_at _ _ _ rfl
            have hsl := Lib.hid (hD.sl (B := wr.heap.size + 1) hd (by omega) (by simp))
            have s5 := sq.via ((Below.refl _ _).alloc (Nat.le_refl _) (.cells #[.int .u32 (d0 : Nat), .int .u32 (d1 : Nat)] 40))
            clear hD
            go_wp2_with (first
              | (go_at_call 28; (with_reducible refine (number_any _ 2 2 _ a false [d0, d1] _ hsl.out (by simp) hv).mono ?_); rintro e w2 hr; obtain ⟨A6, n6, c6, rfl, hs6, hb6⟩ := retN_of hr; have s6 := s5.via hb6; obtain ⟨a0, a1, b0, b1, r0, r1, rf, rz⟩ := s6.facts)
              | fail "no arm")
            obtain ⟨q0, q1⟩ := two_set (.bool (ngO (fitO (sgn false a)))) (.slice A6 n6 c6) r0 r1
            refine bodyPost_ret (v := .tuple #[.agg #[.bool (ngO (fitO (sgn false a))), .slice A6 n6 c6], .bool (okO (fitO (sgn false a)))]) ?_ rfl ⟨_, _, _, rfl, ?_, ?_⟩
            · simp [results, Tryz.f11, go_sem, q0, q1]
            · exact hs6.stored r0 r1 _ _
            · exact (s6.below.setCell (by simp; omega) _).setCell (by simp; omega) _
    · obtain rfl : n4 = 0 := by omega
      have hq0 : q = 0 := (none_digs hI.out.2.1).1 rfl
      obtain rfl : p = G := by have := hI.out.2.2.1; rwa [hq0, Nat.gcd_zero_right] at this
      have NU := Lib.hid (number_any A3 n3 c3 wr.heap.size _ false _ wr hI.out.1 (Nat.le_refl _) (nval_digs _))
      clear hq0 hI
      by_cases h5 : (2 : Int) < max (n3 : Int) ((0 : Nat) : Int)
      · go_wp2_with (first
          | (go_at_call 28; (with_reducible refine (NU.out).mono ?_); rintro e w2 hr; obtain ⟨A6, n6, c6, rfl, hs6, hb6⟩ := retN_of hr; have s6 := sr.via hb6; clear a0 a1 b0 b1 r0 r1 rf rz; obtain ⟨a0, a1, b0, b1, r0, r1, rf, rz⟩ := s6.facts)
          | fail "no arm")
        obtain ⟨q0, q1⟩ := two_set (.bool (ngO (fitO (sgn false p)))) (.slice A6 n6 c6) r0 r1
        refine bodyPost_ret (v := .tuple #[.agg #[.bool (ngO (fitO (sgn false p))), .slice A6 n6 c6], .bool (okO (fitO (sgn false p)))]) ?_ rfl ⟨_, _, _, rfl, ?_, ?_⟩
        · simp [results, Tryz.f11, go_sem, q0, q1]
        · exact hs6.stored r0 r1 _ _
        · exact (s6.below.setCell (by simp; omega) _).setCell (by simp; omega) _
      · go_wp2_with (first
          | (go_at_call 28; (with_reducible refine (NU.out).mono ?_); rintro e w2 hr; obtain ⟨A6, n6, c6, rfl, hs6, hb6⟩ := retN_of hr; have s6 := sr.via hb6; clear a0 a1 b0 b1 r0 r1 rf rz; obtain ⟨a0, a1, b0, b1, r0, r1, rf, rz⟩ := s6.facts)
          | fail "no arm")
        obtain ⟨q0, q1⟩ := two_set (.bool (ngO (fitO (sgn false p)))) (.slice A6 n6 c6) r0 r1
        refine bodyPost_ret (v := .tuple #[.agg #[.bool (ngO (fitO (sgn false p))), .slice A6 n6 c6], .bool (okO (fitO (sgn false p)))]) ?_ rfl ⟨_, _, _, rfl, ?_, ?_⟩
        · simp [results, Tryz.f11, go_sem, q0, q1]
        · exact hs6.stored r0 r1 _ _
        · exact (s6.below.setCell (by simp; omega) _).setCell (by simp; omega) _

theorem gcd_any (neg neg2 : Bool) {A A2 : Option Addr} {n n2 c c2 B : Nat} {l m : List Nat} {w : World} (h : Sl w B A n c l) (h2 : Sl w B A2 n2 c2 m) (hB : B ≤ w.heap.size) :
    Calls Tryz.prog 11 #[.agg #[.bool neg, .slice A n c], .agg #[.bool neg2, .slice A2 n2 c2]] w (RetN (gcdS neg l neg2 m) w) := by
  cases h1 : rightB neg l with
  | false => rw [show gcdS neg l neg2 m = none by unfold gcdS; rw [if_neg (by rw [h1]; simp)]]; exact gcd_no1 neg neg2 h hB h1
  | true =>
    cases k1 : rightB neg2 m with
    | false => rw [show gcdS neg l neg2 m = none by unfold gcdS; rw [if_neg (by rw [k1]; simp)]]; exact gcd_no2 neg neg2 h h2 hB h1 k1
    | true =>
      rw [show gcdS neg l neg2 m = fitO ((Nat.gcd (nval l) (nval m) : Nat) : Int) by unfold gcdS; rw [if_pos ⟨h1, k1⟩]]
      exact gcd_yes neg neg2 h h2 hB h1 k1
end Go.Proofs.YthnickjbknpmhaaGreatDoor
