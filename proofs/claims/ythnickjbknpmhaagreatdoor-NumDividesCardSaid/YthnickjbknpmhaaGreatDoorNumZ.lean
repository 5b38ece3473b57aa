/-
  The contract of Div: where the quotient is rounded down; all cases.
-/
import Derived.Test.YthnickjbknpmhaaGreatDoorNumY
namespace Go.Proofs.YthnickjbknpmhaaGreatDoor
open Go.RowKit Go.Shelf

theorem up_fits {L V : Nat} (hV : 0 < V) (hr : 0 < L % V) : L / V + 1 ≤ L := by
  have h1 := Nat.div_add_mod L V
  have h2 := Nat.mod_lt L hV
  have h3 : L / V * 2 ≤ L / V * V := Nat.mul_le_mul_left _ (by omega)
  rw [Nat.mul_comm V] at h1
  omega

set_option maxRecDepth 100000 in
set_option maxHeartbeats 2000000 in
theorem div_up (neg2 : Bool) {A A2 : Option Addr} {n n2 c c2 B : Nat} {l m : List Nat} {w : World} (h : Sl w B A n c l) (h2 : Sl w B A2 n2 c2 m) (hB : B ≤ w.heap.size) (h1 : rightB true l = true) (k1 : rightB neg2 m = true) (k0 : 0 < n2) (hz : 0 < nval l % nval m) :
    Calls Tryz.prog 9 #[.agg #[.bool true, .slice A n c], .agg #[.bool neg2, .slice A2 n2 c2]] w (RetDiv (some (sgn (!neg2) (nval l / nval m + 1), sgn false (nval m - nval l % nval m))) w) := by
  have R1 := Lib.hid (right_at true (h.more hB) true h1)
  have R2 := Lib.hid (right_at neg2 (h2.more hB) true k1)
  have hl := right_true h1 h.dig
  have hm := right_true k1 h2.dig
  have hn := hl.2.1
  have hn2 := hm.2.1
  rw [h.len] at hn
  rw [h2.len] at hn2
  have hV0 : 0 < nval m := by
    rcases Nat.eq_zero_or_pos (nval m) with h0 | h0
    · have := canon_zero hm.1 h0; rw [← h2.len, this] at k0; simp at k0
    · exact h0
  have hlb : nval l < big := (canon_fits hl.1).1 hl.2.1
  have hmb : nval m < big := (canon_fits hm.1).1 hm.2.1
  have hqb : nval l / nval m + 1 < big := Nat.lt_of_le_of_lt (up_fits hV0 hz) hlb
  have hrl := Nat.mod_lt (nval l) hV0
  have hrb : nval m - nval l % nval m < big := by omega
  have OV := Lib.hid (fun (W : World) (hW : Below w.heap.size w W) => show Calls Tryz.prog 25 #[.slice A n c, .slice A2 n2 c2] W (RetQR (nval l / nval m) (nval l % nval m) W) from over_any ((h.more hB).below hW) ((h2.more hB).below hW) hW.size hl.1 hm.1 (by omega) k0)
  have s0 := Sd.start (w := w) (neg := true) (A := A) (n := n) (c := c) (neg2 := neg2) (A2 := A2) (n2 := n2) (c2 := c2)
  have hne : ((n2 : Int) == 0) = false := by simp; omega
  have hne2 : (n2 : Int) ≠ 0 := by omega
  have H2 := Lib.hid (h2.more hB)
  have hc2 : Hid (Canon m) := Lib.hid hm.1
  obtain ⟨q, hq⟩ : ∃ q, nval l / nval m = q := ⟨_, rfl⟩
  obtain ⟨r, hr⟩ : ∃ r, nval l % nval m = r := ⟨_, rfl⟩
  obtain ⟨V, hV⟩ : ∃ V, nval m = V := ⟨_, rfl⟩
  rw [hq] at hqb
  rw [hr] at hrb hrl hz
  rw [hq, hr] at OV ⊢
  rw [hV] at hrb hrl ⊢
  have hF : Hid (vO (fitO (sgn (!neg2) (q + 1))) = sgn (!neg2) (q + 1) ∧ ngO (fitO (sgn (!neg2) (q + 1))) = decide (sgn (!neg2) (q + 1) < 0) ∧ vO (fitO (sgn false (V - r))) = sgn false (V - r) ∧ ngO (fitO (sgn false (V - r))) = decide (sgn false (V - r) < 0)) := by
    have e1 := fit_ok (x := sgn (!neg2) (q + 1)) (by have : (sgn (!neg2) (q + 1)).natAbs = q + 1 := by (unfold sgn; split <;> omega)
                                                     rw [this]; exact hqb)
    have e2 := fit_ok (x := sgn false (V - r)) (by have : (sgn false (V - r)).natAbs = V - r := by (unfold sgn; simp)
                                                   rw [this]; exact hrb)
    exact ⟨e1.1, e1.2, e2.1, e2.2⟩
  have hq64 : Hid (∀ {W : World} {B : Nat} {A : Option Addr} {n c : Nat}, Sl W B A n c (digs q) → n ≤ 1000) := Lib.hid (fun hs => by
    have h1 := (digs_fits q).2 (show q < 4294967296 ^ 64 from Nat.lt_trans (by omega) hqb)
    rw [hs.len] at h1; omega)
  have hr64 : Hid (∀ {W : World} {B : Nat} {A : Option Addr} {n c : Nat}, Sl W B A n c (digs r) → n ≤ n2 ∧ 0 < n) := Lib.hid (fun hs => by
    have h1 := canon_len_le (digs_canon r) hc2.out.1 (by rw [nval_digs, hV]; omega)
    rw [hs.len, h2.len] at h1
    refine ⟨h1, ?_⟩
    rw [← hs.len]
    rcases Nat.eq_zero_or_pos (digs r).length with h0 | h0
    · have := digs_nil.1 (List.eq_nil_of_length_eq_zero h0); omega
    · exact h0)
  clear h h1 h2 k1 hl hm hlb hmb hqb hrb hq hr hn k0 hV0
  go_enter Tryz.func9, Tryz.ntmps9
  go_upto_region 5 with (first
    | (go_at_call 24; (with_reducible refine (R1.out _ s0.below).mono ?_); rintro e w1 ⟨rfl, hb⟩; have s1 := s0.via hb; obtain ⟨a0, a1, b0, b1, q0, q1, qf, r0, r1, rf, rz⟩ := s1.facts)
    | (go_at_call 24; (with_reducible refine (R2.out _ s1.below).mono ?_); rintro e w2 ⟨rfl, hb⟩; have s2 := s1.via hb; clear a0 a1 b0 b1 q0 q1 qf r0 r1 rf rz; obtain ⟨a0, a1, b0, b1, q0, q1, qf, r0, r1, rf, rz⟩ := s2.facts)
    | (go_at_call 25; (with_reducible refine (OV.out _ s2.below).mono ?_); rintro e w3 ⟨A3, n3, c3, A4, n4, c4, rfl, hsq, hsr, hb3⟩; have s3 := s2.via hb3; clear a0 a1 b0 b1 q0 q1 qf r0 r1 rf rz; obtain ⟨a0, a1, b0, b1, q0, q1, qf, r0, r1, rf, rz⟩ := s3.facts; have hn4 : (0 : Int) < n4 := by (have := (hr64.out hsr).2; omega))
    | fail "no arm")
  have PL := Lib.hid (fun (W : World) (g : Nat) (hW : Below w3.heap.size w3 W) (hD : DBk W g 40 [1]) => show Calls Tryz.prog 26 #[.slice A3 n3 c3, .slice (some ⟨g, 0, none⟩) 1 1] W (RetD (q + 1) W) from by
    have := plus_any ((hsq.below hW).more hW.size) (hD.sl (B := W.heap.size) (by intro d hd; simp at hd; omega) hD.lt (by simp)) (Nat.le_refl _) (hq64.out hsq) (by simp)
    rw [nval_digs, show nval [1] = 1 from rfl] at this
    exact this)
  have MI := Lib.hid (fun (W : World) (hW : Below w3.heap.size w3 W) => show Calls Tryz.prog 27 #[.slice A2 n2 c2, .slice A4 n4 c4] W (RetD (V - r) W) from by
    have := minus_any A2 A4 n2 c2 n4 c4 W.heap.size m (digs r) W ((H2.out.below (s3.below.trans (hW.mono s3.below.size))).more (Nat.le_trans s3.below.size hW.size)) ((hsr.below hW).more hW.size) (Nat.le_refl _) (by omega) (hr64.out hsr).1 (by rw [nval_digs, hV]; omega)
    rw [nval_digs, hV] at this
    exact this)
  have u0 : Below w3.heap.size w3 w3.drew := (Below.refl _ _).drew
  have u1 : Below w3.heap.size w3 (w3.alloc (.cells #[.int .u32 1] 40)).drew := ((Below.refl _ _).alloc (Nat.le_refl _) _).drew
  have d1 : DBk (w3.alloc (.cells #[.int .u32 1] 40)).drew w3.heap.size 40 [1] := heap_alloc_at w3 _ _ rfl
  have hd4 : decide (0 < n4) = true := by simp; omega
  simp only [hd4]
  go_cut [7, 8] from 44 to 50 (fun p7 p8 W => ∃ A5 n5 c5 A6 n6 c6, p7 = .slice A5 n5 c5 ∧ p8 = .slice A6 n6 c6 ∧ Below w3.heap.size w3 W ∧ Sl W W.heap.size A5 n5 c5 (digs (q + 1)) ∧ Sl W W.heap.size A6 n6 c6 (digs (V - r)))
  case first =>
    go_region_held3 (fun W => W.cell? ⟨w.heap.size + 1, 1, none⟩ = some (.slice A2 n2 c2))
      (first | exact b1 | exact (s3.via u0).facts.2.2.2.1 | exact (s3.via u1).facts.2.2.2.1 | exact (s3.via u4).facts.2.2.2.1 | exact (s3.via u5).facts.2.2.2.1 | exact (s3.via fin.1).facts.2.2.2.1 | exact (s3.alloc _).facts.2.2.2.1 | exact ((s3.via u4).alloc _).facts.2.2.2.1 | fail)
      (first
        | (go_at_call 26; (with_reducible refine (PL.out _ _ u1 d1).mono ?_); rintro e w4 ⟨A5, n5, c5, rfl, hp, hb4⟩; have u4 := u1.trans (hb4.mono u1.size))
        | (go_at_call 27; (with_reducible refine (MI.out _ u1).mono ?_); rintro e w4 ⟨A6, n6, c6, rfl, hmi, hb4⟩; have u4 := u1.trans (hb4.mono u1.size); have d4 := d1.below hb4 (by simp))
        | (go_at_call 27; (with_reducible refine (MI.out _ u0).mono ?_); rintro e w4 ⟨A6, n6, c6, rfl, hmi, hb4⟩; have u4 := u0.trans (hb4.mono u0.size); have u5 := u4.alloc u4.size (.cells #[.int .u32 1] 40); have d5 : DBk (w4.alloc (.cells #[.int .u32 1] 40)) w4.heap.size 40 [1] := heap_alloc_at w4 _ _ rfl)
        | (go_at_call 27; (with_reducible refine (MI.out _ u4).mono ?_); rintro e w6 ⟨A6, n6, c6, rfl, hmi, hb6⟩; have fin := And.intro (u4.trans (hb6.mono u4.size)) (And.intro ((hp.below hb6).more hb6.size) hmi))
        | (go_at_call 26; (with_reducible refine (PL.out _ _ u4 d4).mono ?_); rintro e w6 ⟨A5, n5, c5, rfl, hp, hb6⟩; have fin := And.intro (u4.trans (hb6.mono u4.size)) (And.intro hp ((hmi.below hb6).more hb6.size)))
        | (go_at_call 26; (with_reducible refine (PL.out _ _ u5 d5).mono ?_); rintro e w6 ⟨A5, n5, c5, rfl, hp, hb6⟩; have fin := And.intro (u5.trans (hb6.mono u5.size)) (And.intro hp ((hmi.below (((Below.refl _ _).alloc (Nat.le_refl _) _).trans (hb6.mono (by simp)))).more (by have := hb6.size; simp at this; omega))))
        | fail "no arm")
    all_goals
      go_wp2_with fail
      go_meet
      exact ⟨_, _, _, _, _, _, rfl, rfl, fin⟩
  case rest =>
    obtain ⟨A5, n5, c5, A6, n6, c6, rfl, rfl, uc, hsq, hsr⟩ := hcut
    rename World => wc
    have sc := s3.via uc
    clear a0 a1 b0 b1 q0 q1 qf r0 r1 rf rz
    obtain ⟨a0, a1, b0, b1, q0, q1, qf, r0, r1, rf, rz⟩ := sc.facts
    go_wp2_with (first
      | (go_at_call 28; (with_reducible refine (number_any A5 n5 c5 wc.heap.size _ _ _ wc hsq (Nat.le_refl _) (nval_digs _)).mono ?_); rintro e w4 hr; obtain ⟨A7, n7, c7, rfl, hs5, hb4⟩ := retN_of hr; have s4 := sc.via hb4; clear a0 a1 b0 b1 q0 q1 qf r0 r1 rf rz; obtain ⟨a0, a1, b0, b1, q0, q1, qf, r0, r1, rf, rz⟩ := s4.facts)
      | (go_at_call 28; (with_reducible refine (number_any A6 n6 c6 wc.heap.size _ _ _ _ (hsr.below (hb4.alloc (Nat.le_trans hb4.size (Nat.le_refl _)) _)) (by have := hb4.size; simp; omega) (nval_digs _)).mono ?_); rintro e w5 hr; obtain ⟨A8, n8, c8, rfl, hs6, hb5⟩ := retN_of hr; have s5 := (s4.alloc _).via hb5; obtain ⟨e0, e1⟩ := S1.facts (w := w4) (A := A7) (n := n7) (c := c7) (hb5.mono (by simp)); have hz5 := hb5.size; (try simp at hz5); clear a0 a1 b0 b1 q0 q1 qf r0 r1 rf rz; obtain ⟨a0, a1, b0, b1, q0, q1, qf, r0, r1, rf, rz⟩ := s5.facts)
      | fail "no arm")
    have hy5 : w4.heap.size < w5.heap.size := by omega
    have s6 := s5.alloc (.cells #[.bool (ngO (fitO (sgn false (V - r)))), .slice A8 n8 c8] 26)
    have k0 := (World.cell?_alloc_lt w5 (.cells #[.bool (ngO (fitO (sgn false (V - r)))), .slice A8 n8 c8] 26) ⟨w4.heap.size, 0, none⟩ hy5).trans e0
    have k1 := (World.cell?_alloc_lt w5 (.cells #[.bool (ngO (fitO (sgn false (V - r)))), .slice A8 n8 c8] 26) ⟨w4.heap.size, 1, none⟩ hy5).trans e1
    obtain ⟨g0, g1⟩ := (S1.start (w := w5) (neg := ngO (fitO (sgn false (V - r)))) (A := A8) (n := n8) (c := c8)).facts
    have hs7 := (hs6.below ((Below.refl _ _).alloc (Nat.le_refl _) (.cells #[.bool (ngO (fitO (sgn false (V - r)))), .slice A8 n8 c8] 26))).more (B' := (w5.alloc (.cells #[.bool (ngO (fitO (sgn false (V - r)))), .slice A8 n8 c8] 26)).heap.size) (by simp)
    have hs8 := (hs5.below (((Below.refl _ _).alloc (Nat.le_refl _) _).trans ((hb5.mono (by simp)).alloc (by omega) (.cells #[.bool (ngO (fitO (sgn false (V - r)))), .slice A8 n8 c8] 26)))).more (B' := (w5.alloc (.cells #[.bool (ngO (fitO (sgn false (V - r)))), .slice A8 n8 c8] 26)).heap.size) (by simp; omega)
    obtain ⟨W6, hW6⟩ : ∃ W6, w5.alloc (.cells #[.bool (ngO (fitO (sgn false (V - r)))), .slice A8 n8 c8] 26) = W6 := ⟨_, rfl⟩
    rw [hW6] at s6 k0 k1 g0 g1 hs7 hs8 ⊢
    have y4 := s4.size
    have y5 := s5.size
    have y1 : w5.heap.size ≠ w.heap.size + 1 + 1 := by omega
    have y2 : w5.heap.size ≠ w.heap.size + 1 + 1 + 1 := by omega
    have y3 : w4.heap.size ≠ w.heap.size + 1 + 1 := by omega
    have y6 : w4.heap.size ≠ w.heap.size + 1 + 1 + 1 := by omega
    clear a0 a1 b0 b1 q0 q1 qf r0 r1 rf rz e0 e1 hs5 hs6 hW6
    obtain ⟨a0, a1, b0, b1, q0, q1, qf, r0, r1, rf, rz⟩ := s6.facts
    go_region
    go_wp2_with fail
    obtain ⟨f1, f2, f3, f4⟩ := hF.out
    obtain ⟨p0, p1, p2, p3⟩ := four_set (.bool (ngO (fitO (sgn (!neg2) (q + 1))))) (.slice A7 n7 c7) (.bool (ngO (fitO (sgn false (V - r))))) (.slice A8 n8 c8) q0 q1 r0 r1 (by omega)
    rw [f1] at hs8
    rw [f3] at hs7
    refine bodyPost_ret (v := .tuple #[.agg #[.bool (ngO (fitO (sgn (!neg2) (q + 1)))), .slice A7 n7 c7], .agg #[.bool (ngO (fitO (sgn false (V - r)))), .slice A8 n8 c8], .bool true]) ?_ rfl ⟨A7, n7, c7, A8, n8, c8, by rw [f2, f4]; rfl, ?_, ?_, ?_⟩
    · simp [results, Tryz.f9, go_sem, p0, p1, p2, p3]
    · exact hs8.stored4 q0 q1 r0 r1 (by omega) _ _ _ _
    · exact hs7.stored4 q0 q1 r0 r1 (by omega) _ _ _ _
    · exact ((((s6.below.setCell (by simp; omega) _).setCell (by simp; omega) _).setCell (by simp; omega) _).setCell (by simp; omega) _).drew
end Go.Proofs.YthnickjbknpmhaaGreatDoor
