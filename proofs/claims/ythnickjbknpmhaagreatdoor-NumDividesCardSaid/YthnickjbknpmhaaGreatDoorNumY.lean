/-
  The contract of Div: where there is a quotient.
-/
import Derived.Test.YthnickjbknpmhaaGreatDoorNumX
namespace Go.Proofs.YthnickjbknpmhaaGreatDoor
open Go.RowKit Go.Shelf

theorem fit_ok {x : Int} (h : x.natAbs < big) : vO (fitO x) = x ∧ ngO (fitO x) = decide (x < 0) := by
  have h1 : vO (fitO x) = x := by rw [fitO_v]; unfold numv; rw [if_pos h]
  exact ⟨h1, by unfold ngO; rw [h1]⟩

theorem Sl.stored4 {w : World} {b b2 n c : Nat} {A : Option Addr} {l : List Nat} {x x2 : Bool} {A2 A3 : Option Addr} {n2 c2 n3 c3 : Nat} (h : Sl w w.heap.size A n c l) (g0 : w.cell? ⟨b, 0, none⟩ = some (.bool x)) (g1 : w.cell? ⟨b, 1, none⟩ = some (.slice A2 n2 c2)) (g2 : w.cell? ⟨b2, 0, none⟩ = some (.bool x2)) (g3 : w.cell? ⟨b2, 1, none⟩ = some (.slice A3 n3 c3)) (hne : b ≠ b2) (v0 v1 v2 v3 : Value) :
    Sl ((((w.setCell ⟨b, 0, none⟩ v0).setCell ⟨b, 1, none⟩ v1).setCell ⟨b2, 0, none⟩ v2).setCell ⟨b2, 1, none⟩ v3) ((((w.setCell ⟨b, 0, none⟩ v0).setCell ⟨b, 1, none⟩ v1).setCell ⟨b2, 0, none⟩ v2).setCell ⟨b2, 1, none⟩ v3).heap.size A n c l := by
  refine (h.stored g0 g1 v0 v1).stored (b := b2) (x := x2) (A2 := A3) (n2 := n3) (c2 := c3) ?_ ?_ v2 v3
  · rw [World.cell?_setCell_other _ _ _ _ (by simp), World.cell?_setCell_other _ _ _ _ (by simp), g2]
  · rw [World.cell?_setCell_other _ _ _ _ (by simp), World.cell?_setCell_other _ _ _ _ (by simp), g3]
/-- Quotient and rest, as digits. -/
def RetQR (q r : Nat) (w : World) (e : Ending) (w' : World) : Prop :=
  ∃ A n c A2 n2 c2, e = .returned (.tuple #[.slice A n c, .slice A2 n2 c2]) ∧ Sl w' w'.heap.size A n c (digs q) ∧ Sl w' w'.heap.size A2 n2 c2 (digs r) ∧ Below w.heap.size w w'

set_option maxRecDepth 100000 in
set_option maxHeartbeats 2000000 in
theorem div_plain (neg neg2 : Bool) {A A2 : Option Addr} {n n2 c c2 B : Nat} {l m : List Nat} {w : World} (h : Sl w B A n c l) (h2 : Sl w B A2 n2 c2 m) (hB : B ≤ w.heap.size) (h1 : rightB neg l = true) (k1 : rightB neg2 m = true) (k0 : 0 < n2) (hz : neg = false ∨ nval l % nval m = 0) :
    Calls Tryz.prog 9 #[.agg #[.bool neg, .slice A n c], .agg #[.bool neg2, .slice A2 n2 c2]] w (RetDiv (some (sgn (!(neg == neg2)) (nval l / nval m), sgn false (nval l % nval m))) w) := by
  have R1 := Lib.hid (right_at neg (h.more hB) true h1)
  have R2 := Lib.hid (right_at neg2 (h2.more hB) true k1)
  have hl := right_true h1 h.dig
  have hm := right_true k1 h2.dig
  have hn := hl.2.1
  rw [h.len] at hn
  have hlb : nval l < big := (canon_fits hl.1).1 hl.2.1
  have hmb : nval m < big := (canon_fits hm.1).1 hm.2.1
  have hqb : nval l / nval m < big := Nat.lt_of_le_of_lt (Nat.div_le_self _ _) hlb
  have hrb : nval l % nval m < big := Nat.lt_of_le_of_lt (Nat.mod_le _ _) hlb
  have OV := Lib.hid (fun (W : World) (hW : Below w.heap.size w W) => show Calls Tryz.prog 25 #[.slice A n c, .slice A2 n2 c2] W (RetQR (nval l / nval m) (nval l % nval m) W) from over_any ((h.more hB).below hW) ((h2.more hB).below hW) hW.size hl.1 hm.1 (by omega) k0)
  have s0 := Sd.start (w := w) (neg := neg) (A := A) (n := n) (c := c) (neg2 := neg2) (A2 := A2) (n2 := n2) (c2 := c2)
  have hne : ((n2 : Int) == 0) = false := by simp; omega
  have hne2 : (n2 : Int) ≠ 0 := by omega
  obtain ⟨q, hq⟩ : ∃ q, nval l / nval m = q := ⟨_, rfl⟩
  obtain ⟨r, hr⟩ : ∃ r, nval l % nval m = r := ⟨_, rfl⟩
  have hF : Hid (vO (fitO (sgn (!(neg == neg2)) q)) = sgn (!(neg == neg2)) q ∧ ngO (fitO (sgn (!(neg == neg2)) q)) = decide (sgn (!(neg == neg2)) q < 0) ∧ vO (fitO (sgn false r)) = sgn false r ∧ ngO (fitO (sgn false r)) = decide (sgn false r < 0)) := by
    have e1 := fit_ok (x := sgn (!(neg == neg2)) q) (by have : (sgn (!(neg == neg2)) q).natAbs = q := by (unfold sgn; split <;> simp)
                                                        rw [this, ← hq]; exact hqb)
    have e2 := fit_ok (x := sgn false r) (by have : (sgn false r).natAbs = r := by (unfold sgn; simp)
                                             rw [this, ← hr]; exact hrb)
    exact ⟨e1.1, e1.2, e2.1, e2.2⟩
  rw [hr] at hz
  rw [hq, hr] at OV ⊢
  clear h h1 h2 k1 hl hm hlb hmb hqb hrb hq hr hn k0
  have hguard : Hid (∀ {W : World} {B A n c}, Sl W B A n c (digs r) → neg = true → n = 0) := fun {W B A n c} hs hn => by
    rcases hz with hz | hz
    · rw [hn] at hz; cases hz
    · have := hs.len; rw [hz, digs_zero] at this; exact this.symm
  clear hz
  cases neg
  · clear hguard
    rw [show (!(false == neg2)) = neg2 by cases neg2 <;> rfl] at hF ⊢
    go_enter Tryz.func9, Tryz.ntmps9
    go_wp2_with (first
      | (go_at_call 24; (with_reducible refine (R1.out _ s0.below).mono ?_); rintro e w1 ⟨rfl, hb⟩; have s1 := s0.via hb; obtain ⟨a0, a1, b0, b1, q0, q1, qf, r0, r1, rf, rz⟩ := s1.facts)
      | (go_at_call 24; (with_reducible refine (R2.out _ s1.below).mono ?_); rintro e w2 ⟨rfl, hb⟩; have s2 := s1.via hb; clear a0 a1 b0 b1 q0 q1 qf r0 r1 rf rz; obtain ⟨a0, a1, b0, b1, q0, q1, qf, r0, r1, rf, rz⟩ := s2.facts)
      | (go_at_call 25; (with_reducible refine (OV.out _ s2.below).mono ?_); rintro e w3 ⟨A3, n3, c3, A4, n4, c4, rfl, hsq, hsr, hb3⟩; have s3 := s2.via hb3; clear a0 a1 b0 b1 q0 q1 qf r0 r1 rf rz; obtain ⟨a0, a1, b0, b1, q0, q1, qf, r0, r1, rf, rz⟩ := s3.facts)
      | (go_at_call 28; (with_reducible refine (number_any A3 n3 c3 w3.heap.size _ _ _ w3 hsq (Nat.le_refl _) (nval_digs _)).mono ?_); rintro e w4 hr; obtain ⟨A5, n5, c5, rfl, hs5, hb4⟩ := retN_of hr; have s4 := s3.via hb4; clear a0 a1 b0 b1 q0 q1 qf r0 r1 rf rz; obtain ⟨a0, a1, b0, b1, q0, q1, qf, r0, r1, rf, rz⟩ := s4.facts)
      | (go_at_call 28; (with_reducible refine (number_any A4 _ c4 w3.heap.size _ _ _ _ (hsr.below (hb4.alloc (Nat.le_trans hb4.size (Nat.le_refl _)) _)) (by have := hb4.size; simp; omega) (nval_digs _)).mono ?_); rintro e w5 hr; obtain ⟨A6, n6, c6, rfl, hs6, hb5⟩ := retN_of hr; have s5 := (s4.alloc _).via hb5; obtain ⟨e0, e1⟩ := S1.facts (w := w4) (A := A5) (n := n5) (c := c5) (hb5.mono (by simp)); have hz5 := hb5.size; (try simp at hz5); clear a0 a1 b0 b1 q0 q1 qf r0 r1 rf rz; obtain ⟨a0, a1, b0, b1, q0, q1, qf, r0, r1, rf, rz⟩ := s5.facts)
      | fail "no arm")
    have hy5 : w4.heap.size < w5.heap.size := by omega
    have s6 := s5.alloc (.cells #[.bool (ngO (fitO (sgn false r))), .slice A6 n6 c6] 26)
    have k0 := (World.cell?_alloc_lt w5 (.cells #[.bool (ngO (fitO (sgn false r))), .slice A6 n6 c6] 26) ⟨w4.heap.size, 0, none⟩ hy5).trans e0
    have k1 := (World.cell?_alloc_lt w5 (.cells #[.bool (ngO (fitO (sgn false r))), .slice A6 n6 c6] 26) ⟨w4.heap.size, 1, none⟩ hy5).trans e1
    obtain ⟨g0, g1⟩ := (S1.start (w := w5) (neg := ngO (fitO (sgn false r))) (A := A6) (n := n6) (c := c6)).facts
    have hs7 := (hs6.below ((Below.refl _ _).alloc (Nat.le_refl _) (.cells #[.bool (ngO (fitO (sgn false r))), .slice A6 n6 c6] 26))).more (B' := (w5.alloc (.cells #[.bool (ngO (fitO (sgn false r))), .slice A6 n6 c6] 26)).heap.size) (by simp)
    have hs8 := (hs5.below (((Below.refl _ _).alloc (Nat.le_refl _) _).trans ((hb5.mono (by simp)).alloc (by omega) (.cells #[.bool (ngO (fitO (sgn false r))), .slice A6 n6 c6] 26)))).more (B' := (w5.alloc (.cells #[.bool (ngO (fitO (sgn false r))), .slice A6 n6 c6] 26)).heap.size) (by simp; omega)
    obtain ⟨W6, hW6⟩ : ∃ W6, w5.alloc (.cells #[.bool (ngO (fitO (sgn false r))), .slice A6 n6 c6] 26) = W6 := ⟨_, rfl⟩
    rw [hW6] at s6 k0 k1 g0 g1 hs7 hs8 ⊢
    have y4 := s4.size
    have y5 := s5.size
    have y1 : w5.heap.size ≠ w.heap.size + 1 + 1 := by omega
    have y2 : w5.heap.size ≠ w.heap.size + 1 + 1 + 1 := by omega
    have y3 : w4.heap.size ≠ w.heap.size + 1 + 1 := by omega
    have y6 : w4.heap.size ≠ w.heap.size + 1 + 1 + 1 := by omega
    clear a0 a1 b0 b1 q0 q1 qf r0 r1 rf rz e0 e1 hs5 hs6 hW6
    obtain ⟨a0, a1, b0, b1, q0, q1, qf, r0, r1, rf, rz⟩ := s6.facts
    go_region
    go_wp2_with fail
    obtain ⟨f1, f2, f3, f4⟩ := hF.out
    obtain ⟨p0, p1, p2, p3⟩ := four_set (.bool (ngO (fitO (sgn neg2 q)))) (.slice A5 n5 c5) (.bool (ngO (fitO (sgn false r)))) (.slice A6 n6 c6) q0 q1 r0 r1 (by omega)
    rw [f1] at hs8
    rw [f3] at hs7
    refine bodyPost_ret (v := .tuple #[.agg #[.bool (ngO (fitO (sgn neg2 q))), .slice A5 n5 c5], .agg #[.bool (ngO (fitO (sgn false r))), .slice A6 n6 c6], .bool true]) ?_ rfl ⟨A5, n5, c5, A6, n6, c6, by rw [f2, f4]; rfl, ?_, ?_, ?_⟩
    · simp [results, Tryz.f9, go_sem, p0, p1, p2, p3]
    · exact hs8.stored4 q0 q1 r0 r1 (by omega) _ _ _ _
    · exact hs7.stored4 q0 q1 r0 r1 (by omega) _ _ _ _
    · exact ((((s6.below.setCell (by simp; omega) _).setCell (by simp; omega) _).setCell (by simp; omega) _).setCell (by simp; omega) _).drew
  · have hG : Hid (∀ {W : World} {B : Nat} {A : Option Addr} {n c : Nat}, Sl W B A n c (digs r) → n = 0) := Lib.hid (fun hs => hguard.out hs rfl)
    clear hguard
    rw [show (!(true == neg2)) = !neg2 by cases neg2 <;> rfl] at hF ⊢
    go_enter Tryz.func9, Tryz.ntmps9
    go_wp2_with (first
      | (go_at_call 24; (with_reducible refine (R1.out _ s0.below).mono ?_); rintro e w1 ⟨rfl, hb⟩; have s1 := s0.via hb; obtain ⟨a0, a1, b0, b1, q0, q1, qf, r0, r1, rf, rz⟩ := s1.facts)
      | (go_at_call 24; (with_reducible refine (R2.out _ s1.below).mono ?_); rintro e w2 ⟨rfl, hb⟩; have s2 := s1.via hb; clear a0 a1 b0 b1 q0 q1 qf r0 r1 rf rz; obtain ⟨a0, a1, b0, b1, q0, q1, qf, r0, r1, rf, rz⟩ := s2.facts)
      | (go_at_call 25; (with_reducible refine (OV.out _ s2.below).mono ?_); rintro e w3 ⟨A3, n3, c3, A4, n4, c4, rfl, hsq, hsr, hb3⟩; have s3 := s2.via hb3; clear a0 a1 b0 b1 q0 q1 qf r0 r1 rf rz; obtain ⟨a0, a1, b0, b1, q0, q1, qf, r0, r1, rf, rz⟩ := s3.facts; obtain rfl := hG.out hsr)
      | (go_at_call 28; (with_reducible refine (number_any A3 n3 c3 w3.heap.size _ _ _ w3 hsq (Nat.le_refl _) (nval_digs _)).mono ?_); rintro e w4 hr; obtain ⟨A5, n5, c5, rfl, hs5, hb4⟩ := retN_of hr; have s4 := s3.via hb4; clear a0 a1 b0 b1 q0 q1 qf r0 r1 rf rz; obtain ⟨a0, a1, b0, b1, q0, q1, qf, r0, r1, rf, rz⟩ := s4.facts)
      | (go_at_call 28; (with_reducible refine (number_any A4 _ c4 w3.heap.size _ _ _ _ (hsr.below (hb4.alloc (Nat.le_trans hb4.size (Nat.le_refl _)) _)) (by have := hb4.size; simp; omega) (nval_digs _)).mono ?_); rintro e w5 hr; obtain ⟨A6, n6, c6, rfl, hs6, hb5⟩ := retN_of hr; have s5 := (s4.alloc _).via hb5; obtain ⟨e0, e1⟩ := S1.facts (w := w4) (A := A5) (n := n5) (c := c5) (hb5.mono (by simp)); have hz5 := hb5.size; (try simp at hz5); clear a0 a1 b0 b1 q0 q1 qf r0 r1 rf rz; obtain ⟨a0, a1, b0, b1, q0, q1, qf, r0, r1, rf, rz⟩ := s5.facts)
      | fail "no arm")
    have hy5 : w4.heap.size < w5.heap.size := by omega
    have s6 := s5.alloc (.cells #[.bool (ngO (fitO (sgn false r))), .slice A6 n6 c6] 26)
    have k0 := (World.cell?_alloc_lt w5 (.cells #[.bool (ngO (fitO (sgn false r))), .slice A6 n6 c6] 26) ⟨w4.heap.size, 0, none⟩ hy5).trans e0
    have k1 := (World.cell?_alloc_lt w5 (.cells #[.bool (ngO (fitO (sgn false r))), .slice A6 n6 c6] 26) ⟨w4.heap.size, 1, none⟩ hy5).trans e1
    obtain ⟨g0, g1⟩ := (S1.start (w := w5) (neg := ngO (fitO (sgn false r))) (A := A6) (n := n6) (c := c6)).facts
    have hs7 := (hs6.below ((Below.refl _ _).alloc (Nat.le_refl _) (.cells #[.bool (ngO (fitO (sgn false r))), .slice A6 n6 c6] 26))).more (B' := (w5.alloc (.cells #[.bool (ngO (fitO (sgn false r))), .slice A6 n6 c6] 26)).heap.size) (by simp)
    have hs8 := (hs5.below (((Below.refl _ _).alloc (Nat.le_refl _) _).trans ((hb5.mono (by simp)).alloc (by omega) (.cells #[.bool (ngO (fitO (sgn false r))), .slice A6 n6 c6] 26)))).more (B' := (w5.alloc (.cells #[.bool (ngO (fitO (sgn false r))), .slice A6 n6 c6] 26)).heap.size) (by simp; omega)
    obtain ⟨W6, hW6⟩ : ∃ W6, w5.alloc (.cells #[.bool (ngO (fitO (sgn false r))), .slice A6 n6 c6] 26) = W6 := ⟨_, rfl⟩
    rw [hW6] at s6 k0 k1 g0 g1 hs7 hs8 ⊢
    have y4 := s4.size
    have y5 := s5.size
    have y1 : w5.heap.size ≠ w.heap.size + 1 + 1 := by omega
    have y2 : w5.heap.size ≠ w.heap.size + 1 + 1 + 1 := by omega
    have y3 : w4.heap.size ≠ w.heap.size + 1 + 1 := by omega
    have y6 : w4.heap.size ≠ w.heap.size + 1 + 1 + 1 := by omega
    clear a0 a1 b0 b1 q0 q1 qf r0 r1 rf rz e0 e1 hs5 hs6 hW6
    obtain ⟨a0, a1, b0, b1, q0, q1, qf, r0, r1, rf, rz⟩ := s6.facts
    go_region
    go_wp2_with fail
    obtain ⟨f1, f2, f3, f4⟩ := hF.out
    obtain ⟨p0, p1, p2, p3⟩ := four_set (.bool (ngO (fitO (sgn (!neg2) q)))) (.slice A5 n5 c5) (.bool (ngO (fitO (sgn false r)))) (.slice A6 n6 c6) q0 q1 r0 r1 (by omega)
    rw [f1] at hs8
    rw [f3] at hs7
    refine bodyPost_ret (v := .tuple #[.agg #[.bool (ngO (fitO (sgn (!neg2) q))), .slice A5 n5 c5], .agg #[.bool (ngO (fitO (sgn false r))), .slice A6 n6 c6], .bool true]) ?_ rfl ⟨A5, n5, c5, A6, n6, c6, by rw [f2, f4]; rfl, ?_, ?_, ?_⟩
    · simp [results, Tryz.f9, go_sem, p0, p1, p2, p3]
    · exact hs8.stored4 q0 q1 r0 r1 (by omega) _ _ _ _
    · exact hs7.stored4 q0 q1 r0 r1 (by omega) _ _ _ _
    · exact ((((s6.below.setCell (by simp; omega) _).setCell (by simp; omega) _).setCell (by simp; omega) _).setCell (by simp; omega) _).drew
end Go.Proofs.YthnickjbknpmhaaGreatDoor
