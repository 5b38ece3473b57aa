/-
  The walk of NumDivisors: it returns true.
-/
import Derived.Test.YthnickjbknpmhaaDoorNumRing
namespace Go.Proofs.YthnickjbknpmhaaDoor
open Go.RowKit Go.Shelf

/-- The array of the two numbers that the law goes over. -/
def EB (W : World) (e : Nat) (g1 : Bool) (A1 : Option Addr) (n1 c1 : Nat) (g2 : Bool) (A2 : Option Addr) (n2 c2 : Nat) : Prop :=
  W.cell? ⟨e, 0, none⟩ = some (.bool g1) ∧ W.cell? ⟨e, 1, none⟩ = some (.slice A1 n1 c1) ∧ W.cell? ⟨e, 2, none⟩ = some (.bool g2) ∧ W.cell? ⟨e, 3, none⟩ = some (.slice A2 n2 c2) ∧ e < W.heap.size
theorem EB.via {W W1 : World} {e n1 c1 n2 c2 : Nat} {g1 g2 : Bool} {A1 A2 : Option Addr} (h : EB W e g1 A1 n1 c1 g2 A2 n2 c2) (hb : Below W.heap.size W W1) : EB W1 e g1 A1 n1 c1 g2 A2 n2 c2 :=
  ⟨(hb.cell (p := ⟨e, 0, none⟩) h.2.2.2.2).trans h.1, (hb.cell (p := ⟨e, 1, none⟩) h.2.2.2.2).trans h.2.1, (hb.cell (p := ⟨e, 2, none⟩) h.2.2.2.2).trans h.2.2.1, (hb.cell (p := ⟨e, 3, none⟩) h.2.2.2.2).trans h.2.2.2.1, Nat.lt_of_lt_of_le h.2.2.2.2 hb.size⟩
theorem EB.alloc_ {W : World} {e n1 c1 n2 c2 : Nat} {g1 g2 : Bool} {A1 A2 : Option Addr} (h : EB W e g1 A1 n1 c1 g2 A2 n2 c2) (o : Obj) : EB (W.alloc o) e g1 A1 n1 c1 g2 A2 n2 c2 := h.via ((Below.refl _ _).alloc (Nat.le_refl _) o)
theorem EB.new (W : World) (T : TypeId) {n1 c1 n2 c2 : Nat} {g1 g2 : Bool} {A1 A2 : Option Addr} : EB (W.alloc (.cells #[.bool g1, .slice A1 n1 c1, .bool g2, .slice A2 n2 c2] T)) W.heap.size g1 A1 n1 c1 g2 A2 n2 c2 :=
  ⟨by simp [go_sem], by simp [go_sem], by simp [go_sem], by simp [go_sem], by simp⟩
theorem gcd_le_six {a b : Nat} (ha : a ≤ six) (hb : b ≤ six) : Nat.gcd a b ≤ six := by
  rcases Nat.eq_zero_or_pos a with h | h
  · subst h; rw [Nat.gcd_zero_left]; exact hb
  · exact Nat.le_trans (Nat.gcd_le_left b h) ha
theorem div_six {a b : Int} (ha : a.natAbs ≤ six) : (a / b).natAbs ≤ 2 * six := by
  have h1 := Int.natAbs_ediv_le_natAbs a b
  omega
theorem EB.newg {W : World} (T : TypeId) {g n1 c1 n2 c2 : Nat} {g1 g2 : Bool} {A1 A2 : Option Addr} (hg : W.heap.size = g) : EB (W.alloc (.cells #[.bool g1, .slice A1 n1 c1, .bool g2, .slice A2 n2 c2] T)) g g1 A1 n1 c1 g2 A2 n2 c2 := by
  subst hg; exact EB.new W T

set_option maxRecDepth 100000 in
set_option maxHeartbeats 16000000 in
theorem numDivisors_walk (A1 A2 A3 : Option Addr) (k1 k2 k3 d1 d2 d3 : Nat) (z1 z2 z3 : List Int) (w : World) {B : Nat} (hB : B ≤ w.heap.size) (hT : PowT B w) (hS : SynT B w)
    (h1 : Reads w B 1 A1 k1 (z1.map (Value.int .i64))) (h2 : Reads w B 1 A2 k2 (z2.map (Value.int .i64))) (h3 : Reads w B 1 A3 k3 (z3.map (Value.int .i64))) (m1 : k1 ≤ 9223372036854775807) (m2 : k2 ≤ 9223372036854775807) (m3 : k3 ≤ 9223372036854775807) :
    Calls Tryd.prog 6 #[.agg #[.slice A1 k1 d1, .slice A2 k2 d2, .slice A3 k3 d3]] w fun e w' => e = .returned (.bool true) ∧ Below w.heap.size w w' := by
  have SA := Lib.hid (fun (W : World) (hW : Below w.heap.size w W) => sanity_any W (Nat.le_trans hB hW.size) (hT.below hW hB) (hS.below hW hB))
  have M1 := Lib.hid (fun (W : World) (hW : Below w.heap.size w W) => made_v (W := W) (c := d1) (h1.below (hW.mono hB)) (Nat.le_trans hB hW.size) m1)
  have M2 := Lib.hid (fun (W : World) (hW : Below w.heap.size w W) => made_v (W := W) (c := d2) (h2.below (hW.mono hB)) (Nat.le_trans hB hW.size) m2)
  have M3 := Lib.hid (fun (W : World) (hW : Below w.heap.size w W) => made_v (W := W) (c := d3) (h3.below (hW.mono hB)) (Nat.le_trans hB hW.size) m3)
  clear h1 h2 h3 m1 m2 m3 hT hS
  obtain ⟨ga, va, ra, ea, ga', va', ba⟩ := rt_made z1
  obtain ⟨gb, vb, rb, eb, gb', vb', bb⟩ := rt_made z2
  obtain ⟨gc, vc, rc, ec, gc', vc', bc⟩ := rt_made z3
  rw [ga', va'] at M1
  rw [gb', vb'] at M2
  rw [gc', vc'] at M3
  clear ga' va' gb' vb' gc' vc'
  have F := Lib.hid (And.intro ra (And.intro ea (And.intro ba (And.intro rb (And.intro eb (And.intro bb (And.intro rc (And.intro ec bc))))))))
  clear ra ea ba rb eb bb rc ec bc
  go_enter Tryd.func6, Tryd.ntmps6
  have l0 := AM.start (w := w) (arr := #[.slice A1 k1 d1, .slice A2 k2 d2, .slice A3 k3 d3]) (T := 43)
  go_upto_region 2 with (first
    | (go_at_call 8; (with_reducible refine (SA.out _ l0.below).mono ?_); rintro e w1 ⟨rfl, hb⟩; have l1 := l0.via hb; clear hb l0)
    | fail "no arm")
  refine divs_region _ _ w w1 A1 k1 d1 ga va A2 k2 d2 gb vb A3 k3 d3 gc vc rfl (by kernel_rfl) (by simp) rfl l1 M1.out M2.out M3.out
    rfl rfl rfl rfl rfl rfl rfl rfl rfl rfl rfl rfl rfl rfl rfl
    (by kernel_rfl) (by kernel_rfl) (by kernel_rfl) (by kernel_rfl) (by kernel_rfl) (by kernel_rfl) (by kernel_rfl) (by kernel_rfl) (by kernel_rfl) (by kernel_rfl) (by kernel_rfl) (by kernel_rfl) (by kernel_rfl) (by kernel_rfl) ?_
  rintro f W0 hA ⟨q0, A_a, n_a, c_a, q1, A_b, n_b, c_b, q2, A_c, n_c, c_c, z0, r0, _, ob_a, _, z1, r1, _, ob_b, _, z2, r2, _, ob_c, _, _, _, _⟩
  simp only [patch_cons, patch_nil, z0, r0, z1, r1, z2, r2]
  have hBB := hA.below
  clear hA z0 z1 z2 r0 r1 r2 l1 M1 M2 M3 SA
  obtain ⟨ra, ea, b1, rb, eb, b2, rc, ec, b3⟩ := F.out
  clear F hB
  obtain ⟨vg, hvg⟩ : ∃ vg, Nat.gcd va vb = vg := ⟨_, rfl⟩
  have bg : vg ≤ six := by rw [← hvg]; exact gcd_le_six b1 b2
  have rg : Rt false vg := ⟨fun _ => rfl, Nat.lt_of_le_of_lt bg (by unfold six big; decide +kernel)⟩
  have fa := ra.2
  have fb := rb.2
  have ha0 : vg = 0 → va = 0 := fun h => Nat.eq_zero_of_gcd_eq_zero_left (hvg.trans h)
  have hb0 : vg = 0 → vb = 0 := fun h => Nat.eq_zero_of_gcd_eq_zero_right (hvg.trans h)
  have hab0 : va = 0 → vb = 0 → vg = 0 := fun h h2 => by rw [← hvg, h, h2]; rfl
  have GG := Lib.hid (fun (W : World) (A A2 : Option Addr) (n c n2 c2 : Nat) (h : Sl W W.heap.size A n c (digs va)) (h2 : Sl W W.heap.size A2 n2 c2 (digs vb)) => gcd_v ra rb rg hvg h h2)
  obtain ⟨a, ha⟩ : ∃ a, madeV z1 = a := ⟨_, rfl⟩
  obtain ⟨b, hb⟩ : ∃ b, madeV z2 = b := ⟨_, rfl⟩
  obtain ⟨c, hc⟩ : ∃ c, madeV z3 = c := ⟨_, rfl⟩
  rw [ha] at ea
  rw [hb] at eb
  rw [hc] at ec
  have ua : a.natAbs = va := by rw [ea, sgn_abs]
  have ub : b.natAbs = vb := by rw [eb, sgn_abs]
  have uc : c.natAbs = vc := by rw [ec, sgn_abs]
  have rm : Rt false vc := rc.abs
  obtain ⟨gx, vx, rx, ex⟩ := rt_any (a * c) (six_prod (by omega) (by omega))
  obtain ⟨gy, vy, ry, ey⟩ := rt_any (c * b) (six_prod (by omega) (by omega))
  have ux : vx = va * vc := by rw [← ua, ← uc, ← Int.natAbs_mul, ex, sgn_abs]
  have uy : vy = vc * vb := by rw [← ub, ← uc, ← Int.natAbs_mul, ey, sgn_abs]
  have uz : Nat.gcd vx vy = vg * vc := by rw [ux, uy, Nat.mul_comm va, Nat.gcd_mul_left, hvg, Nat.mul_comm]
  have rz : Rt false (vg * vc) := ⟨fun _ => rfl, Nat.lt_of_le_of_lt (Nat.mul_le_mul bg b3) (by unfold six big; decide +kernel)⟩
  obtain ⟨vz, hvz⟩ : ∃ vz, vg * vc = vz := ⟨_, rfl⟩
  rw [hvz] at rz uz
  obtain ⟨gqa, vqa, rqa, eqa⟩ := rt_any (a / (vg : Int)) (six_sum (div_six (by omega)))
  obtain ⟨gqb, vqb, rqb, eqb⟩ := rt_any (b / (vg : Int)) (six_sum (div_six (by omega)))
  have mda : a % (vg : Int) = 0 := Int.emod_eq_zero_of_dvd (Int.ofNat_dvd_left.2 (by rw [ua, ← hvg]; exact Nat.gcd_dvd_left _ _))
  have mdb : b % (vg : Int) = 0 := Int.emod_eq_zero_of_dvd (Int.ofNat_dvd_left.2 (by rw [ub, ← hvg]; exact Nat.gcd_dvd_right _ _))
  have XA := Lib.hid (fun (W : World) (A A2 : Option Addr) (n c n2 c2 : Nat) (h : Sl W W.heap.size A n c (digs va)) (h2 : Sl W W.heap.size A2 n2 c2 (digs vc)) => mul_v ra rc rx (by rw [← ea, ← ec, ← ex]) h h2)
  have YB := Lib.hid (fun (W : World) (A A2 : Option Addr) (n c n2 c2 : Nat) (h : Sl W W.heap.size A n c (digs vc)) (h2 : Sl W W.heap.size A2 n2 c2 (digs vb)) => mul_v rc rb ry (by rw [← ec, ← eb, ← ey]) h h2)
  have ZG := Lib.hid (fun (W : World) (A A2 : Option Addr) (n c n2 c2 : Nat) (h : Sl W W.heap.size A n c (digs vg)) (h2 : Sl W W.heap.size A2 n2 c2 (digs vc)) => mul_v rg rm rz (by rw [← hvz]; exact (Int.natCast_mul _ _).symm) h h2)
  have HG := Lib.hid (fun (W : World) (A A2 : Option Addr) (n c n2 c2 : Nat) (h : Sl W W.heap.size A n c (digs vx)) (h2 : Sl W W.heap.size A2 n2 c2 (digs vy)) => gcd_v rx ry rz uz h h2)
  have HS := Lib.hid (fun (W : World) (A A2 : Option Addr) (n c n2 c2 : Nat) (h : Sl W W.heap.size A n c (digs vz)) (h2 : Sl W W.heap.size A2 n2 c2 (digs vz)) => same_v rz rz (b := true) (decide_eq_true rfl) h h2)
  have DA := Lib.hid (fun (hg0 : vg ≠ 0) (W : World) (A A2 : Option Addr) (n c n2 c2 : Nat) (h : Sl W W.heap.size A n c (digs va)) (h2 : Sl W W.heap.size A2 n2 c2 (digs vg)) => div_v ra rg rqa Rt.zero hg0 (by rw [← ea, ← eqa]; rfl) (by rw [← ea]; exact mda) h h2)
  have DB := Lib.hid (fun (hg0 : vg ≠ 0) (W : World) (A A2 : Option Addr) (n c n2 c2 : Nat) (h : Sl W W.heap.size A n c (digs vb)) (h2 : Sl W W.heap.size A2 n2 c2 (digs vg)) => div_v rb rg rqb Rt.zero hg0 (by rw [← eb, ← eqb]; rfl) (by rw [← eb]; exact mdb) h h2)
  obtain ⟨gq, vq, rq, eq⟩ := rt_any (a / b) (six_sum (div_six (by omega)))
  obtain ⟨gp, vp, rp, ep⟩ := rt_any (a / b * b) (by
    have h1 := Int.mul_ediv_add_emod a b
    rw [Int.mul_comm] at h1
    by_cases hb : b = 0
    · subst hb; rw [Int.mul_zero]; decide +kernel
    · have h2 := Int.emod_nonneg a hb
      have h3 := Int.emod_lt a hb
      exact six_sum (by omega))
  have hrn : vb ≠ 0 → 0 ≤ a % b ∧ (a % b).natAbs < vb := fun h => by
    have hb : b ≠ 0 := by omega
    have h2 := Int.emod_nonneg a hb
    have h3 := Int.emod_lt a hb
    omega
  obtain ⟨vr, hvr⟩ : ∃ vr, (a % b).natAbs = vr := ⟨_, rfl⟩
  have NB_ : vb ≠ 0 → Rt false vr ∧ sgn ga va / sgn gb vb = sgn gq vq ∧ sgn ga va % sgn gb vb = sgn false vr ∧ sgn gq vq * sgn gb vb = sgn gp vp ∧ sgn gp vp + sgn false vr = sgn ga va ∧ cmpI (sgn false vr) (sgn false vb) = -1 := fun h => by
    obtain ⟨h1, h2⟩ := hrn h
    have h3 : a % b = sgn false vr := by rw [← hvr]; simp [sgn]; omega
    refine ⟨⟨fun _ => rfl, by have := rb.2; omega⟩, by rw [← ea, ← eb, ← eq], by rw [← ea, ← eb]; exact h3, by rw [← eq, ← eb, ← ep], ?_, ?_⟩
    · rw [← ep, ← h3, ← ea, Int.mul_comm]; exact Int.mul_ediv_add_emod a b
    · unfold cmpI; rw [if_pos (by simp [sgn]; omega)]
  have hgp := Lib.hid NB_
  clear NB_ hrn hvr mda mdb ux uy uz ua ub uc ex ey eq ep eqa eqb hvz ha hb hc ea eb ec b1 b2 b3 bg hvg
  clear rx ry rz rqa rqb rm
  by_cases hb00 : vb = 0
  · obtain rfl : gb = false := rb.1 hb00
    subst hb00
    have D1 := Lib.hid (fun (W : World) (A A2 : Option Addr) (n c n2 c2 : Nat) (h : Sl W W.heap.size A n c (digs va)) (h2 : Sl W W.heap.size A2 n2 c2 (digs 0)) => div_0 (neg := ga) h h2)
    clear hgp rq rp rb
    by_cases hg0 : vg = 0
    · have hva := ha0 hg0
      clear ha0 hb0 hab0
      have D0 := Lib.hid (fun (neg : Bool) (v : Nat) (W : World) (A A2 : Option Addr) (n c n2 c2 : Nat) (h : Sl W W.heap.size A n c (digs v)) (h2 : Sl W W.heap.size A2 n2 c2 (digs 0)) => div_0 (neg := neg) h h2)
      have tk1 : Hid True := trivial
      have tk2 : Hid True := trivial
      obtain ⟨g0_a, g1_a, hs_a, gz_a⟩ := id ob_a
      obtain ⟨g0_b, g1_b, hs_b, gz_b⟩ := id ob_b
      have hbz : ¬ (0 : Int) < n_b := (by have := (none_digs hs_b).2 rfl; omega)
      go_wp2_with (first
        | (clear tk1; go_at_call 23; (with_reducible refine (D1.out _ _ _ _ _ _ _ hs_a hs_b).mono ?_); rintro e w1 ⟨A_q, n_q, c_q, A_r, n_r, c_r, rfl, hs_q, hs_r, hb⟩; replace ob_a := ob_a.via hb; replace ob_b := ob_b.via hb; replace ob_c := ob_c.via hb; replace hBB := hBB.trans (hb.mono hBB.size); clear hb; clear g0_a g1_a hs_a gz_a; clear g0_b g1_b hs_b gz_b; skip; replace hs_q := hs_q.alloc_ (.cells #[.bool false, .slice A_q n_q c_q] 25); replace hs_r := hs_r.alloc_ (.cells #[.bool false, .slice A_q n_q c_q] 25); replace ob_a := ob_a.alloc_ (.cells #[.bool false, .slice A_q n_q c_q] 25); replace ob_b := ob_b.alloc_ (.cells #[.bool false, .slice A_q n_q c_q] 25); replace ob_c := ob_c.alloc_ (.cells #[.bool false, .slice A_q n_q c_q] 25); replace hBB := hBB.alloc hBB.size (.cells #[.bool false, .slice A_q n_q c_q] 25); replace hs_q := hs_q.alloc_ (.cells #[.bool false, .slice A_r n_r c_r] 25); replace hs_r := hs_r.alloc_ (.cells #[.bool false, .slice A_r n_r c_r] 25); replace ob_a := ob_a.alloc_ (.cells #[.bool false, .slice A_r n_r c_r] 25); replace ob_b := ob_b.alloc_ (.cells #[.bool false, .slice A_r n_r c_r] 25); replace ob_c := ob_c.alloc_ (.cells #[.bool false, .slice A_r n_r c_r] 25); replace hBB := hBB.alloc hBB.size (.cells #[.bool false, .slice A_r n_r c_r] 25); clear hs_q; clear hs_r; obtain ⟨g0_b, g1_b, hs_b, gz_b⟩ := id ob_b; obtain ⟨g0_a, g1_a, hs_a, gz_a⟩ := id ob_a)
        | (clear tk2; go_at_call 24; (with_reducible refine (GG.out _ _ _ _ _ _ _ hs_a hs_b).mono ?_); rintro e w2 ⟨A_g, n_g, c_g, rfl, hs_g, hb⟩; replace ob_a := ob_a.via hb; replace ob_b := ob_b.via hb; replace ob_c := ob_c.via hb; replace hBB := hBB.trans (hb.mono hBB.size); clear hb; clear g0_b g1_b hs_b gz_b; clear g0_a g1_a hs_a gz_a; have ob_g := OB.newg (neg := false) (g := w2.heap.size) hs_g 25 (rfl); clear hs_g; replace ob_a := ob_a.alloc_ (.cells #[.bool false, .slice A_g n_g c_g] 25); replace ob_b := ob_b.alloc_ (.cells #[.bool false, .slice A_g n_g c_g] 25); replace ob_c := ob_c.alloc_ (.cells #[.bool false, .slice A_g n_g c_g] 25); replace hBB := hBB.alloc hBB.size (.cells #[.bool false, .slice A_g n_g c_g] 25); obtain ⟨g0_g, g1_g, hs_g, gz_g⟩ := id ob_g; obtain ⟨g0_a, g1_a, hs_a, gz_a⟩ := id ob_a; obtain ⟨g0_b, g1_b, hs_b, gz_b⟩ := id ob_b; have hgz : ((n_g : Int) == 0) = true := (by have := (none_digs hs_g).2 hg0; simp; omega); have f_a := few_digs hs_a fa; have f_b := few_digs hs_b fb; have hgs : ((n_a : Int) + n_b == 0) = true := (by have h1 := (none_digs hs_a).2 hva; have h2 := (none_digs hs_b).2 rfl; simp; omega); have eb : EB ((w2.alloc (.cells #[.bool false, .slice A_g n_g c_g] 25)).alloc (.cells #[.bool ga, .slice A_a n_a c_a, .bool false, .slice A_b n_b c_b] 25)) (w2.heap.size + 1) ga A_a n_a c_a false A_b n_b c_b := EB.newg 25 (by simp only [World.size_alloc]); replace ob_a := ob_a.alloc_ (.cells #[.bool ga, .slice A_a n_a c_a, .bool false, .slice A_b n_b c_b] 25); replace ob_b := ob_b.alloc_ (.cells #[.bool ga, .slice A_a n_a c_a, .bool false, .slice A_b n_b c_b] 25); replace ob_c := ob_c.alloc_ (.cells #[.bool ga, .slice A_a n_a c_a, .bool false, .slice A_b n_b c_b] 25); replace ob_g := ob_g.alloc_ (.cells #[.bool ga, .slice A_a n_a c_a, .bool false, .slice A_b n_b c_b] 25); replace hBB := hBB.alloc hBB.size (.cells #[.bool ga, .slice A_a n_a c_a, .bool false, .slice A_b n_b c_b] 25))
        | fail "no arm")
      clear g0_a g1_a hs_a gz_a g0_b g1_b hs_b gz_b g0_g g1_g hs_g gz_g hgz hgs f_a f_b hbz
      go_loopw [130] (fun i W => ∃ k : Nat, k ≤ 2 ∧ i = .int .i64 k ∧ Hid (Below w.heap.size w W ∧ OB W q0 ga A_a n_a c_a va ∧ OB W q1 false A_b n_b c_b 0 ∧ OB W q2 gc A_c n_c c_c vc ∧ OB W (w2.heap.size) false A_g n_g c_g vg ∧ EB W (w2.heap.size + 1) ga A_a n_a c_a false A_b n_b c_b)) (fun i _ => 2 - (intOf i).toNat)
      case atStart => exact ⟨0, by omega, rfl, Lib.hid ⟨hBB, ob_a, ob_b, ob_c, ob_g, eb⟩⟩
      case round =>
        clear hBB ob_a ob_b ob_c ob_g eb
        obtain ⟨k, hk, rfl, hI⟩ := hrel
        obtain ⟨hBB, ob_a, ob_b, ob_c, ob_g, eb⟩ := hI.out
        clear hI
        obtain ⟨x0, x1, x2, x3, xz⟩ := id eb
        rcases (show k = 0 ∨ k = 1 ∨ k = 2 by omega) with rfl | rfl | rfl
        · skip
          have tk1 : Hid True := trivial
          replace ob_a := ob_a.alloc_ (.cells #[.bool ga, .slice A_a n_a c_a] 25)
          replace ob_b := ob_b.alloc_ (.cells #[.bool ga, .slice A_a n_a c_a] 25)
          replace ob_c := ob_c.alloc_ (.cells #[.bool ga, .slice A_a n_a c_a] 25)
          replace ob_g := ob_g.alloc_ (.cells #[.bool ga, .slice A_a n_a c_a] 25)
          replace eb := eb.alloc_ (.cells #[.bool ga, .slice A_a n_a c_a] 25)
          replace hBB := hBB.alloc hBB.size (.cells #[.bool ga, .slice A_a n_a c_a] 25)
          obtain ⟨g0_a, g1_a, hs_a, gz_a⟩ := id ob_a
          obtain ⟨g0_g, g1_g, hs_g, gz_g⟩ := id ob_g
          go_wp2_with (first
            | (clear tk1; go_at_call 23; (with_reducible refine (D0.out _ _ _ _ _ _ _ _ _ hs_a (hg0 ▸ hs_g)).mono ?_); rintro e w1 ⟨A_q, n_q, c_q, A_r, n_r, c_r, rfl, hs_q, hs_r, hb⟩; replace ob_a := ob_a.via hb; replace ob_b := ob_b.via hb; replace ob_c := ob_c.via hb; replace ob_g := ob_g.via hb; replace eb := eb.via hb; replace hBB := hBB.trans (hb.mono hBB.size); clear hb; clear g0_a g1_a hs_a gz_a; clear g0_g g1_g hs_g gz_g; skip; replace hs_q := hs_q.alloc_ (.cells #[.bool false, .slice A_q n_q c_q] 25); replace hs_r := hs_r.alloc_ (.cells #[.bool false, .slice A_q n_q c_q] 25); replace ob_a := ob_a.alloc_ (.cells #[.bool false, .slice A_q n_q c_q] 25); replace ob_b := ob_b.alloc_ (.cells #[.bool false, .slice A_q n_q c_q] 25); replace ob_c := ob_c.alloc_ (.cells #[.bool false, .slice A_q n_q c_q] 25); replace ob_g := ob_g.alloc_ (.cells #[.bool false, .slice A_q n_q c_q] 25); replace eb := eb.alloc_ (.cells #[.bool false, .slice A_q n_q c_q] 25); replace hBB := hBB.alloc hBB.size (.cells #[.bool false, .slice A_q n_q c_q] 25); replace hs_q := hs_q.alloc_ (.cells #[.bool false, .slice A_r n_r c_r] 25); replace hs_r := hs_r.alloc_ (.cells #[.bool false, .slice A_r n_r c_r] 25); replace ob_a := ob_a.alloc_ (.cells #[.bool false, .slice A_r n_r c_r] 25); replace ob_b := ob_b.alloc_ (.cells #[.bool false, .slice A_r n_r c_r] 25); replace ob_c := ob_c.alloc_ (.cells #[.bool false, .slice A_r n_r c_r] 25); replace ob_g := ob_g.alloc_ (.cells #[.bool false, .slice A_r n_r c_r] 25); replace eb := eb.alloc_ (.cells #[.bool false, .slice A_r n_r c_r] 25); replace hBB := hBB.alloc hBB.size (.cells #[.bool false, .slice A_r n_r c_r] 25); clear hs_q; clear hs_r; obtain ⟨g0_g, g1_g, hs_g, gz_g⟩ := id ob_g; have hgn : ¬ (0 : Int) < n_g := (by have := (none_digs hs_g).2 hg0; omega))
            | fail "no arm")
          go_roundw
          case rel => exact ⟨1, by omega, rfl, Lib.hid ⟨hBB, ob_a, ob_b, ob_c, ob_g, eb⟩⟩
          case measure => simp [intOf]
        · skip
          have tk1 : Hid True := trivial
          replace ob_a := ob_a.alloc_ (.cells #[.bool false, .slice A_b n_b c_b] 25)
          replace ob_b := ob_b.alloc_ (.cells #[.bool false, .slice A_b n_b c_b] 25)
          replace ob_c := ob_c.alloc_ (.cells #[.bool false, .slice A_b n_b c_b] 25)
          replace ob_g := ob_g.alloc_ (.cells #[.bool false, .slice A_b n_b c_b] 25)
          replace eb := eb.alloc_ (.cells #[.bool false, .slice A_b n_b c_b] 25)
          replace hBB := hBB.alloc hBB.size (.cells #[.bool false, .slice A_b n_b c_b] 25)
          obtain ⟨g0_b, g1_b, hs_b, gz_b⟩ := id ob_b
          obtain ⟨g0_g, g1_g, hs_g, gz_g⟩ := id ob_g
          go_wp2_with (first
            | (clear tk1; go_at_call 23; (with_reducible refine (D0.out _ _ _ _ _ _ _ _ _ hs_b (hg0 ▸ hs_g)).mono ?_); rintro e w1 ⟨A_q, n_q, c_q, A_r, n_r, c_r, rfl, hs_q, hs_r, hb⟩; replace ob_a := ob_a.via hb; replace ob_b := ob_b.via hb; replace ob_c := ob_c.via hb; replace ob_g := ob_g.via hb; replace eb := eb.via hb; replace hBB := hBB.trans (hb.mono hBB.size); clear hb; clear g0_b g1_b hs_b gz_b; clear g0_g g1_g hs_g gz_g; skip; replace hs_q := hs_q.alloc_ (.cells #[.bool false, .slice A_q n_q c_q] 25); replace hs_r := hs_r.alloc_ (.cells #[.bool false, .slice A_q n_q c_q] 25); replace ob_a := ob_a.alloc_ (.cells #[.bool false, .slice A_q n_q c_q] 25); replace ob_b := ob_b.alloc_ (.cells #[.bool false, .slice A_q n_q c_q] 25); replace ob_c := ob_c.alloc_ (.cells #[.bool false, .slice A_q n_q c_q] 25); replace ob_g := ob_g.alloc_ (.cells #[.bool false, .slice A_q n_q c_q] 25); replace eb := eb.alloc_ (.cells #[.bool false, .slice A_q n_q c_q] 25); replace hBB := hBB.alloc hBB.size (.cells #[.bool false, .slice A_q n_q c_q] 25); replace hs_q := hs_q.alloc_ (.cells #[.bool false, .slice A_r n_r c_r] 25); replace hs_r := hs_r.alloc_ (.cells #[.bool false, .slice A_r n_r c_r] 25); replace ob_a := ob_a.alloc_ (.cells #[.bool false, .slice A_r n_r c_r] 25); replace ob_b := ob_b.alloc_ (.cells #[.bool false, .slice A_r n_r c_r] 25); replace ob_c := ob_c.alloc_ (.cells #[.bool false, .slice A_r n_r c_r] 25); replace ob_g := ob_g.alloc_ (.cells #[.bool false, .slice A_r n_r c_r] 25); replace eb := eb.alloc_ (.cells #[.bool false, .slice A_r n_r c_r] 25); replace hBB := hBB.alloc hBB.size (.cells #[.bool false, .slice A_r n_r c_r] 25); clear hs_q; clear hs_r; obtain ⟨g0_g, g1_g, hs_g, gz_g⟩ := id ob_g; have hgn : ¬ (0 : Int) < n_g := (by have := (none_digs hs_g).2 hg0; omega))
            | fail "no arm")
          go_roundw
          case rel => exact ⟨2, by omega, rfl, Lib.hid ⟨hBB, ob_a, ob_b, ob_c, ob_g, eb⟩⟩
          case measure => simp [intOf]
        · skip
          have tk1 : Hid True := trivial
          have tk2 : Hid True := trivial
          have tk3 : Hid True := trivial
          have tk4 : Hid True := trivial
          have tk5 : Hid True := trivial
          obtain ⟨g0_a, g1_a, hs_a, gz_a⟩ := id ob_a
          obtain ⟨g0_c, g1_c, hs_c, gz_c⟩ := id ob_c
          go_wp2_with (first
            | (clear tk1; go_at_call 20; (with_reducible refine (XA.out _ _ _ _ _ _ _ hs_a hs_c).mono ?_); rintro e w1 ⟨A_x, n_x, c_x, rfl, hs_x, hb⟩; replace ob_a := ob_a.via hb; replace ob_b := ob_b.via hb; replace ob_c := ob_c.via hb; replace ob_g := ob_g.via hb; replace eb := eb.via hb; replace hBB := hBB.trans (hb.mono hBB.size); clear hb; clear g0_a g1_a hs_a gz_a; clear g0_c g1_c hs_c gz_c; have ob_x := OB.newg (neg := gx) (g := w1.heap.size) hs_x 25 (rfl); clear hs_x; replace ob_a := ob_a.alloc_ (.cells #[.bool gx, .slice A_x n_x c_x] 25); replace ob_b := ob_b.alloc_ (.cells #[.bool gx, .slice A_x n_x c_x] 25); replace ob_c := ob_c.alloc_ (.cells #[.bool gx, .slice A_x n_x c_x] 25); replace ob_g := ob_g.alloc_ (.cells #[.bool gx, .slice A_x n_x c_x] 25); replace eb := eb.alloc_ (.cells #[.bool gx, .slice A_x n_x c_x] 25); replace hBB := hBB.alloc hBB.size (.cells #[.bool gx, .slice A_x n_x c_x] 25); obtain ⟨g0_c, g1_c, hs_c, gz_c⟩ := id ob_c; obtain ⟨g0_b, g1_b, hs_b, gz_b⟩ := id ob_b)
            | (clear tk2; go_at_call 20; (with_reducible refine (YB.out _ _ _ _ _ _ _ hs_c hs_b).mono ?_); rintro e w2 ⟨A_y, n_y, c_y, rfl, hs_y, hb⟩; replace ob_a := ob_a.via hb; replace ob_b := ob_b.via hb; replace ob_c := ob_c.via hb; replace ob_g := ob_g.via hb; replace ob_x := ob_x.via hb; replace eb := eb.via hb; replace hBB := hBB.trans (hb.mono hBB.size); clear hb; clear g0_c g1_c hs_c gz_c; clear g0_b g1_b hs_b gz_b; have ob_y := OB.newg (neg := gy) (g := w2.heap.size) hs_y 25 (rfl); clear hs_y; replace ob_a := ob_a.alloc_ (.cells #[.bool gy, .slice A_y n_y c_y] 25); replace ob_b := ob_b.alloc_ (.cells #[.bool gy, .slice A_y n_y c_y] 25); replace ob_c := ob_c.alloc_ (.cells #[.bool gy, .slice A_y n_y c_y] 25); replace ob_g := ob_g.alloc_ (.cells #[.bool gy, .slice A_y n_y c_y] 25); replace ob_x := ob_x.alloc_ (.cells #[.bool gy, .slice A_y n_y c_y] 25); replace eb := eb.alloc_ (.cells #[.bool gy, .slice A_y n_y c_y] 25); replace hBB := hBB.alloc hBB.size (.cells #[.bool gy, .slice A_y n_y c_y] 25); obtain ⟨g0_g, g1_g, hs_g, gz_g⟩ := id ob_g; obtain ⟨g0_c, g1_c, hs_c, gz_c⟩ := id ob_c)
            | (clear tk3; go_at_call 20; (with_reducible refine (ZG.out _ _ _ _ _ _ _ hs_g hs_c).mono ?_); rintro e w3 ⟨A_z, n_z, c_z, rfl, hs_z, hb⟩; replace ob_a := ob_a.via hb; replace ob_b := ob_b.via hb; replace ob_c := ob_c.via hb; replace ob_g := ob_g.via hb; replace ob_x := ob_x.via hb; replace ob_y := ob_y.via hb; replace eb := eb.via hb; replace hBB := hBB.trans (hb.mono hBB.size); clear hb; clear g0_g g1_g hs_g gz_g; clear g0_c g1_c hs_c gz_c; have ob_z := OB.newg (neg := false) (g := w3.heap.size) hs_z 25 (rfl); clear hs_z; replace ob_a := ob_a.alloc_ (.cells #[.bool false, .slice A_z n_z c_z] 25); replace ob_b := ob_b.alloc_ (.cells #[.bool false, .slice A_z n_z c_z] 25); replace ob_c := ob_c.alloc_ (.cells #[.bool false, .slice A_z n_z c_z] 25); replace ob_g := ob_g.alloc_ (.cells #[.bool false, .slice A_z n_z c_z] 25); replace ob_x := ob_x.alloc_ (.cells #[.bool false, .slice A_z n_z c_z] 25); replace ob_y := ob_y.alloc_ (.cells #[.bool false, .slice A_z n_z c_z] 25); replace eb := eb.alloc_ (.cells #[.bool false, .slice A_z n_z c_z] 25); replace hBB := hBB.alloc hBB.size (.cells #[.bool false, .slice A_z n_z c_z] 25); obtain ⟨g0_x, g1_x, hs_x, gz_x⟩ := id ob_x; obtain ⟨g0_y, g1_y, hs_y, gz_y⟩ := id ob_y)
            | (clear tk4; go_at_call 24; (with_reducible refine (HG.out _ _ _ _ _ _ _ hs_x hs_y).mono ?_); rintro e w4 ⟨A_h, n_h, c_h, rfl, hs_h, hb⟩; replace ob_a := ob_a.via hb; replace ob_b := ob_b.via hb; replace ob_c := ob_c.via hb; replace ob_g := ob_g.via hb; replace ob_x := ob_x.via hb; replace ob_y := ob_y.via hb; replace ob_z := ob_z.via hb; replace eb := eb.via hb; replace hBB := hBB.trans (hb.mono hBB.size); clear hb; clear g0_x g1_x hs_x gz_x; clear g0_y g1_y hs_y gz_y; have ob_h := OB.newg (neg := false) (g := w4.heap.size) hs_h 25 (rfl); clear hs_h; replace ob_a := ob_a.alloc_ (.cells #[.bool false, .slice A_h n_h c_h] 25); replace ob_b := ob_b.alloc_ (.cells #[.bool false, .slice A_h n_h c_h] 25); replace ob_c := ob_c.alloc_ (.cells #[.bool false, .slice A_h n_h c_h] 25); replace ob_g := ob_g.alloc_ (.cells #[.bool false, .slice A_h n_h c_h] 25); replace ob_x := ob_x.alloc_ (.cells #[.bool false, .slice A_h n_h c_h] 25); replace ob_y := ob_y.alloc_ (.cells #[.bool false, .slice A_h n_h c_h] 25); replace ob_z := ob_z.alloc_ (.cells #[.bool false, .slice A_h n_h c_h] 25); replace eb := eb.alloc_ (.cells #[.bool false, .slice A_h n_h c_h] 25); replace hBB := hBB.alloc hBB.size (.cells #[.bool false, .slice A_h n_h c_h] 25); obtain ⟨g0_h, g1_h, hs_h, gz_h⟩ := id ob_h; obtain ⟨g0_z, g1_z, hs_z, gz_z⟩ := id ob_z)
            | (clear tk5; go_at_call 15; (with_reducible refine (HS.out _ _ _ _ _ _ _ hs_h hs_z).mono ?_); rintro e w5 ⟨rfl, hb⟩; replace ob_a := ob_a.via hb; replace ob_b := ob_b.via hb; replace ob_c := ob_c.via hb; replace ob_g := ob_g.via hb; replace ob_x := ob_x.via hb; replace ob_y := ob_y.via hb; replace ob_z := ob_z.via hb; replace ob_h := ob_h.via hb; replace eb := eb.via hb; replace hBB := hBB.trans (hb.mono hBB.size); clear hb; clear g0_h g1_h hs_h gz_h; clear g0_z g1_z hs_z gz_z)
            | fail "no arm")
          go_ret
          exact ⟨rfl, hBB⟩
    · have hva : va ≠ 0 := fun h => hg0 (hab0 h rfl)
      clear ha0 hb0 hab0
      have tk1 : Hid True := trivial
      have tk2 : Hid True := trivial
      obtain ⟨g0_a, g1_a, hs_a, gz_a⟩ := id ob_a
      obtain ⟨g0_b, g1_b, hs_b, gz_b⟩ := id ob_b
      have hbz : ¬ (0 : Int) < n_b := (by have := (none_digs hs_b).2 rfl; omega)
      go_wp2_with (first
        | (clear tk1; go_at_call 23; (with_reducible refine (D1.out _ _ _ _ _ _ _ hs_a hs_b).mono ?_); rintro e w1 ⟨A_q, n_q, c_q, A_r, n_r, c_r, rfl, hs_q, hs_r, hb⟩; replace ob_a := ob_a.via hb; replace ob_b := ob_b.via hb; replace ob_c := ob_c.via hb; replace hBB := hBB.trans (hb.mono hBB.size); clear hb; clear g0_a g1_a hs_a gz_a; clear g0_b g1_b hs_b gz_b; skip; replace hs_q := hs_q.alloc_ (.cells #[.bool false, .slice A_q n_q c_q] 25); replace hs_r := hs_r.alloc_ (.cells #[.bool false, .slice A_q n_q c_q] 25); replace ob_a := ob_a.alloc_ (.cells #[.bool false, .slice A_q n_q c_q] 25); replace ob_b := ob_b.alloc_ (.cells #[.bool false, .slice A_q n_q c_q] 25); replace ob_c := ob_c.alloc_ (.cells #[.bool false, .slice A_q n_q c_q] 25); replace hBB := hBB.alloc hBB.size (.cells #[.bool false, .slice A_q n_q c_q] 25); replace hs_q := hs_q.alloc_ (.cells #[.bool false, .slice A_r n_r c_r] 25); replace hs_r := hs_r.alloc_ (.cells #[.bool false, .slice A_r n_r c_r] 25); replace ob_a := ob_a.alloc_ (.cells #[.bool false, .slice A_r n_r c_r] 25); replace ob_b := ob_b.alloc_ (.cells #[.bool false, .slice A_r n_r c_r] 25); replace ob_c := ob_c.alloc_ (.cells #[.bool false, .slice A_r n_r c_r] 25); replace hBB := hBB.alloc hBB.size (.cells #[.bool false, .slice A_r n_r c_r] 25); clear hs_q; clear hs_r; obtain ⟨g0_b, g1_b, hs_b, gz_b⟩ := id ob_b; obtain ⟨g0_a, g1_a, hs_a, gz_a⟩ := id ob_a)
        | (clear tk2; go_at_call 24; (with_reducible refine (GG.out _ _ _ _ _ _ _ hs_a hs_b).mono ?_); rintro e w2 ⟨A_g, n_g, c_g, rfl, hs_g, hb⟩; replace ob_a := ob_a.via hb; replace ob_b := ob_b.via hb; replace ob_c := ob_c.via hb; replace hBB := hBB.trans (hb.mono hBB.size); clear hb; clear g0_b g1_b hs_b gz_b; clear g0_a g1_a hs_a gz_a; have ob_g := OB.newg (neg := false) (g := w2.heap.size) hs_g 25 (rfl); clear hs_g; replace ob_a := ob_a.alloc_ (.cells #[.bool false, .slice A_g n_g c_g] 25); replace ob_b := ob_b.alloc_ (.cells #[.bool false, .slice A_g n_g c_g] 25); replace ob_c := ob_c.alloc_ (.cells #[.bool false, .slice A_g n_g c_g] 25); replace hBB := hBB.alloc hBB.size (.cells #[.bool false, .slice A_g n_g c_g] 25); obtain ⟨g0_g, g1_g, hs_g, gz_g⟩ := id ob_g; obtain ⟨g0_a, g1_a, hs_a, gz_a⟩ := id ob_a; obtain ⟨g0_b, g1_b, hs_b, gz_b⟩ := id ob_b; have hgz : ((n_g : Int) == 0) = false := (by have := (none_digs hs_g).1; simp; omega); have f_a := few_digs hs_a fa; have f_b := few_digs hs_b fb; have hgs : ((n_a : Int) + n_b == 0) = false := (by have h1 := (none_digs hs_a).1; have h2 := (none_digs hs_b).1; simp; omega); have eb : EB ((w2.alloc (.cells #[.bool false, .slice A_g n_g c_g] 25)).alloc (.cells #[.bool ga, .slice A_a n_a c_a, .bool false, .slice A_b n_b c_b] 25)) (w2.heap.size + 1) ga A_a n_a c_a false A_b n_b c_b := EB.newg 25 (by simp only [World.size_alloc]); replace ob_a := ob_a.alloc_ (.cells #[.bool ga, .slice A_a n_a c_a, .bool false, .slice A_b n_b c_b] 25); replace ob_b := ob_b.alloc_ (.cells #[.bool ga, .slice A_a n_a c_a, .bool false, .slice A_b n_b c_b] 25); replace ob_c := ob_c.alloc_ (.cells #[.bool ga, .slice A_a n_a c_a, .bool false, .slice A_b n_b c_b] 25); replace ob_g := ob_g.alloc_ (.cells #[.bool ga, .slice A_a n_a c_a, .bool false, .slice A_b n_b c_b] 25); replace hBB := hBB.alloc hBB.size (.cells #[.bool ga, .slice A_a n_a c_a, .bool false, .slice A_b n_b c_b] 25))
        | fail "no arm")
      clear g0_a g1_a hs_a gz_a g0_b g1_b hs_b gz_b g0_g g1_g hs_g gz_g hgz hgs f_a f_b hbz
      go_loopw [130] (fun i W => ∃ k : Nat, k ≤ 2 ∧ i = .int .i64 k ∧ Hid (Below w.heap.size w W ∧ OB W q0 ga A_a n_a c_a va ∧ OB W q1 false A_b n_b c_b 0 ∧ OB W q2 gc A_c n_c c_c vc ∧ OB W (w2.heap.size) false A_g n_g c_g vg ∧ EB W (w2.heap.size + 1) ga A_a n_a c_a false A_b n_b c_b)) (fun i _ => 2 - (intOf i).toNat)
      case atStart => exact ⟨0, by omega, rfl, Lib.hid ⟨hBB, ob_a, ob_b, ob_c, ob_g, eb⟩⟩
      case round =>
        clear hBB ob_a ob_b ob_c ob_g eb
        obtain ⟨k, hk, rfl, hI⟩ := hrel
        obtain ⟨hBB, ob_a, ob_b, ob_c, ob_g, eb⟩ := hI.out
        clear hI
        obtain ⟨x0, x1, x2, x3, xz⟩ := id eb
        rcases (show k = 0 ∨ k = 1 ∨ k = 2 by omega) with rfl | rfl | rfl
        · skip
          have tk1 : Hid True := trivial
          replace ob_a := ob_a.alloc_ (.cells #[.bool ga, .slice A_a n_a c_a] 25)
          replace ob_b := ob_b.alloc_ (.cells #[.bool ga, .slice A_a n_a c_a] 25)
          replace ob_c := ob_c.alloc_ (.cells #[.bool ga, .slice A_a n_a c_a] 25)
          replace ob_g := ob_g.alloc_ (.cells #[.bool ga, .slice A_a n_a c_a] 25)
          replace eb := eb.alloc_ (.cells #[.bool ga, .slice A_a n_a c_a] 25)
          replace hBB := hBB.alloc hBB.size (.cells #[.bool ga, .slice A_a n_a c_a] 25)
          obtain ⟨g0_a, g1_a, hs_a, gz_a⟩ := id ob_a
          obtain ⟨g0_g, g1_g, hs_g, gz_g⟩ := id ob_g
          go_wp2_with (first
            | (clear tk1; go_at_call 23; (with_reducible refine (DA.out hg0 _ _ _ _ _ _ _ hs_a hs_g).mono ?_); rintro e w1 ⟨A_q, n_q, c_q, A_r, n_r, c_r, rfl, hs_q, hs_r, hb⟩; replace ob_a := ob_a.via hb; replace ob_b := ob_b.via hb; replace ob_c := ob_c.via hb; replace ob_g := ob_g.via hb; replace eb := eb.via hb; replace hBB := hBB.trans (hb.mono hBB.size); clear hb; clear g0_a g1_a hs_a gz_a; clear g0_g g1_g hs_g gz_g; skip; have hrz : ¬ (0 : Int) < n_r := (by have := (none_digs hs_r).2 rfl; omega); replace hs_q := hs_q.alloc_ (.cells #[.bool gqa, .slice A_q n_q c_q] 25); replace hs_r := hs_r.alloc_ (.cells #[.bool gqa, .slice A_q n_q c_q] 25); replace ob_a := ob_a.alloc_ (.cells #[.bool gqa, .slice A_q n_q c_q] 25); replace ob_b := ob_b.alloc_ (.cells #[.bool gqa, .slice A_q n_q c_q] 25); replace ob_c := ob_c.alloc_ (.cells #[.bool gqa, .slice A_q n_q c_q] 25); replace ob_g := ob_g.alloc_ (.cells #[.bool gqa, .slice A_q n_q c_q] 25); replace eb := eb.alloc_ (.cells #[.bool gqa, .slice A_q n_q c_q] 25); replace hBB := hBB.alloc hBB.size (.cells #[.bool gqa, .slice A_q n_q c_q] 25); replace hs_q := hs_q.alloc_ (.cells #[.bool false, .slice A_r n_r c_r] 25); replace hs_r := hs_r.alloc_ (.cells #[.bool false, .slice A_r n_r c_r] 25); replace ob_a := ob_a.alloc_ (.cells #[.bool false, .slice A_r n_r c_r] 25); replace ob_b := ob_b.alloc_ (.cells #[.bool false, .slice A_r n_r c_r] 25); replace ob_c := ob_c.alloc_ (.cells #[.bool false, .slice A_r n_r c_r] 25); replace ob_g := ob_g.alloc_ (.cells #[.bool false, .slice A_r n_r c_r] 25); replace eb := eb.alloc_ (.cells #[.bool false, .slice A_r n_r c_r] 25); replace hBB := hBB.alloc hBB.size (.cells #[.bool false, .slice A_r n_r c_r] 25); clear hs_q; clear hs_r; obtain ⟨g0_g, g1_g, hs_g, gz_g⟩ := id ob_g; have hgn : (0 : Int) < n_g := (by have := (none_digs hs_g).1; omega))
            | fail "no arm")
          go_roundw
          case rel => exact ⟨1, by omega, rfl, Lib.hid ⟨hBB, ob_a, ob_b, ob_c, ob_g, eb⟩⟩
          case measure => simp [intOf]
        · skip
          have tk1 : Hid True := trivial
          replace ob_a := ob_a.alloc_ (.cells #[.bool false, .slice A_b n_b c_b] 25)
          replace ob_b := ob_b.alloc_ (.cells #[.bool false, .slice A_b n_b c_b] 25)
          replace ob_c := ob_c.alloc_ (.cells #[.bool false, .slice A_b n_b c_b] 25)
          replace ob_g := ob_g.alloc_ (.cells #[.bool false, .slice A_b n_b c_b] 25)
          replace eb := eb.alloc_ (.cells #[.bool false, .slice A_b n_b c_b] 25)
          replace hBB := hBB.alloc hBB.size (.cells #[.bool false, .slice A_b n_b c_b] 25)
          obtain ⟨g0_b, g1_b, hs_b, gz_b⟩ := id ob_b
          obtain ⟨g0_g, g1_g, hs_g, gz_g⟩ := id ob_g
          go_wp2_with (first
            | (clear tk1; go_at_call 23; (with_reducible refine (DB.out hg0 _ _ _ _ _ _ _ hs_b hs_g).mono ?_); rintro e w1 ⟨A_q, n_q, c_q, A_r, n_r, c_r, rfl, hs_q, hs_r, hb⟩; replace ob_a := ob_a.via hb; replace ob_b := ob_b.via hb; replace ob_c := ob_c.via hb; replace ob_g := ob_g.via hb; replace eb := eb.via hb; replace hBB := hBB.trans (hb.mono hBB.size); clear hb; clear g0_b g1_b hs_b gz_b; clear g0_g g1_g hs_g gz_g; skip; have hrz : ¬ (0 : Int) < n_r := (by have := (none_digs hs_r).2 rfl; omega); replace hs_q := hs_q.alloc_ (.cells #[.bool gqb, .slice A_q n_q c_q] 25); replace hs_r := hs_r.alloc_ (.cells #[.bool gqb, .slice A_q n_q c_q] 25); replace ob_a := ob_a.alloc_ (.cells #[.bool gqb, .slice A_q n_q c_q] 25); replace ob_b := ob_b.alloc_ (.cells #[.bool gqb, .slice A_q n_q c_q] 25); replace ob_c := ob_c.alloc_ (.cells #[.bool gqb, .slice A_q n_q c_q] 25); replace ob_g := ob_g.alloc_ (.cells #[.bool gqb, .slice A_q n_q c_q] 25); replace eb := eb.alloc_ (.cells #[.bool gqb, .slice A_q n_q c_q] 25); replace hBB := hBB.alloc hBB.size (.cells #[.bool gqb, .slice A_q n_q c_q] 25); replace hs_q := hs_q.alloc_ (.cells #[.bool false, .slice A_r n_r c_r] 25); replace hs_r := hs_r.alloc_ (.cells #[.bool false, .slice A_r n_r c_r] 25); replace ob_a := ob_a.alloc_ (.cells #[.bool false, .slice A_r n_r c_r] 25); replace ob_b := ob_b.alloc_ (.cells #[.bool false, .slice A_r n_r c_r] 25); replace ob_c := ob_c.alloc_ (.cells #[.bool false, .slice A_r n_r c_r] 25); replace ob_g := ob_g.alloc_ (.cells #[.bool false, .slice A_r n_r c_r] 25); replace eb := eb.alloc_ (.cells #[.bool false, .slice A_r n_r c_r] 25); replace hBB := hBB.alloc hBB.size (.cells #[.bool false, .slice A_r n_r c_r] 25); clear hs_q; clear hs_r; obtain ⟨g0_g, g1_g, hs_g, gz_g⟩ := id ob_g; have hgn : (0 : Int) < n_g := (by have := (none_digs hs_g).1; omega))
            | fail "no arm")
          go_roundw
          case rel => exact ⟨2, by omega, rfl, Lib.hid ⟨hBB, ob_a, ob_b, ob_c, ob_g, eb⟩⟩
          case measure => simp [intOf]
        · skip
          have tk1 : Hid True := trivial
          have tk2 : Hid True := trivial
          have tk3 : Hid True := trivial
          have tk4 : Hid True := trivial
          have tk5 : Hid True := trivial
          obtain ⟨g0_a, g1_a, hs_a, gz_a⟩ := id ob_a
          obtain ⟨g0_c, g1_c, hs_c, gz_c⟩ := id ob_c
          go_wp2_with (first
            | (clear tk1; go_at_call 20; (with_reducible refine (XA.out _ _ _ _ _ _ _ hs_a hs_c).mono ?_); rintro e w1 ⟨A_x, n_x, c_x, rfl, hs_x, hb⟩; replace ob_a := ob_a.via hb; replace ob_b := ob_b.via hb; replace ob_c := ob_c.via hb; replace ob_g := ob_g.via hb; replace eb := eb.via hb; replace hBB := hBB.trans (hb.mono hBB.size); clear hb; clear g0_a g1_a hs_a gz_a; clear g0_c g1_c hs_c gz_c; have ob_x := OB.newg (neg := gx) (g := w1.heap.size) hs_x 25 (rfl); clear hs_x; replace ob_a := ob_a.alloc_ (.cells #[.bool gx, .slice A_x n_x c_x] 25); replace ob_b := ob_b.alloc_ (.cells #[.bool gx, .slice A_x n_x c_x] 25); replace ob_c := ob_c.alloc_ (.cells #[.bool gx, .slice A_x n_x c_x] 25); replace ob_g := ob_g.alloc_ (.cells #[.bool gx, .slice A_x n_x c_x] 25); replace eb := eb.alloc_ (.cells #[.bool gx, .slice A_x n_x c_x] 25); replace hBB := hBB.alloc hBB.size (.cells #[.bool gx, .slice A_x n_x c_x] 25); obtain ⟨g0_c, g1_c, hs_c, gz_c⟩ := id ob_c; obtain ⟨g0_b, g1_b, hs_b, gz_b⟩ := id ob_b)
            | (clear tk2; go_at_call 20; (with_reducible refine (YB.out _ _ _ _ _ _ _ hs_c hs_b).mono ?_); rintro e w2 ⟨A_y, n_y, c_y, rfl, hs_y, hb⟩; replace ob_a := ob_a.via hb; replace ob_b := ob_b.via hb; replace ob_c := ob_c.via hb; replace ob_g := ob_g.via hb; replace ob_x := ob_x.via hb; replace eb := eb.via hb; replace hBB := hBB.trans (hb.mono hBB.size); clear hb; clear g0_c g1_c hs_c gz_c; clear g0_b g1_b hs_b gz_b; have ob_y := OB.newg (neg := gy) (g := w2.heap.size) hs_y 25 (rfl); clear hs_y; replace ob_a := ob_a.alloc_ (.cells #[.bool gy, .slice A_y n_y c_y] 25); replace ob_b := ob_b.alloc_ (.cells #[.bool gy, .slice A_y n_y c_y] 25); replace ob_c := ob_c.alloc_ (.cells #[.bool gy, .slice A_y n_y c_y] 25); replace ob_g := ob_g.alloc_ (.cells #[.bool gy, .slice A_y n_y c_y] 25); replace ob_x := ob_x.alloc_ (.cells #[.bool gy, .slice A_y n_y c_y] 25); replace eb := eb.alloc_ (.cells #[.bool gy, .slice A_y n_y c_y] 25); replace hBB := hBB.alloc hBB.size (.cells #[.bool gy, .slice A_y n_y c_y] 25); obtain ⟨g0_g, g1_g, hs_g, gz_g⟩ := id ob_g; obtain ⟨g0_c, g1_c, hs_c, gz_c⟩ := id ob_c)
            | (clear tk3; go_at_call 20; (with_reducible refine (ZG.out _ _ _ _ _ _ _ hs_g hs_c).mono ?_); rintro e w3 ⟨A_z, n_z, c_z, rfl, hs_z, hb⟩; replace ob_a := ob_a.via hb; replace ob_b := ob_b.via hb; replace ob_c := ob_c.via hb; replace ob_g := ob_g.via hb; replace ob_x := ob_x.via hb; replace ob_y := ob_y.via hb; replace eb := eb.via hb; replace hBB := hBB.trans (hb.mono hBB.size); clear hb; clear g0_g g1_g hs_g gz_g; clear g0_c g1_c hs_c gz_c; have ob_z := OB.newg (neg := false) (g := w3.heap.size) hs_z 25 (rfl); clear hs_z; replace ob_a := ob_a.alloc_ (.cells #[.bool false, .slice A_z n_z c_z] 25); replace ob_b := ob_b.alloc_ (.cells #[.bool false, .slice A_z n_z c_z] 25); replace ob_c := ob_c.alloc_ (.cells #[.bool false, .slice A_z n_z c_z] 25); replace ob_g := ob_g.alloc_ (.cells #[.bool false, .slice A_z n_z c_z] 25); replace ob_x := ob_x.alloc_ (.cells #[.bool false, .slice A_z n_z c_z] 25); replace ob_y := ob_y.alloc_ (.cells #[.bool false, .slice A_z n_z c_z] 25); replace eb := eb.alloc_ (.cells #[.bool false, .slice A_z n_z c_z] 25); replace hBB := hBB.alloc hBB.size (.cells #[.bool false, .slice A_z n_z c_z] 25); obtain ⟨g0_x, g1_x, hs_x, gz_x⟩ := id ob_x; obtain ⟨g0_y, g1_y, hs_y, gz_y⟩ := id ob_y)
            | (clear tk4; go_at_call 24; (with_reducible refine (HG.out _ _ _ _ _ _ _ hs_x hs_y).mono ?_); rintro e w4 ⟨A_h, n_h, c_h, rfl, hs_h, hb⟩; replace ob_a := ob_a.via hb; replace ob_b := ob_b.via hb; replace ob_c := ob_c.via hb; replace ob_g := ob_g.via hb; replace ob_x := ob_x.via hb; replace ob_y := ob_y.via hb; replace ob_z := ob_z.via hb; replace eb := eb.via hb; replace hBB := hBB.trans (hb.mono hBB.size); clear hb; clear g0_x g1_x hs_x gz_x; clear g0_y g1_y hs_y gz_y; have ob_h := OB.newg (neg := false) (g := w4.heap.size) hs_h 25 (rfl); clear hs_h; replace ob_a := ob_a.alloc_ (.cells #[.bool false, .slice A_h n_h c_h] 25); replace ob_b := ob_b.alloc_ (.cells #[.bool false, .slice A_h n_h c_h] 25); replace ob_c := ob_c.alloc_ (.cells #[.bool false, .slice A_h n_h c_h] 25); replace ob_g := ob_g.alloc_ (.cells #[.bool false, .slice A_h n_h c_h] 25); replace ob_x := ob_x.alloc_ (.cells #[.bool false, .slice A_h n_h c_h] 25); replace ob_y := ob_y.alloc_ (.cells #[.bool false, .slice A_h n_h c_h] 25); replace ob_z := ob_z.alloc_ (.cells #[.bool false, .slice A_h n_h c_h] 25); replace eb := eb.alloc_ (.cells #[.bool false, .slice A_h n_h c_h] 25); replace hBB := hBB.alloc hBB.size (.cells #[.bool false, .slice A_h n_h c_h] 25); obtain ⟨g0_h, g1_h, hs_h, gz_h⟩ := id ob_h; obtain ⟨g0_z, g1_z, hs_z, gz_z⟩ := id ob_z)
            | (clear tk5; go_at_call 15; (with_reducible refine (HS.out _ _ _ _ _ _ _ hs_h hs_z).mono ?_); rintro e w5 ⟨rfl, hb⟩; replace ob_a := ob_a.via hb; replace ob_b := ob_b.via hb; replace ob_c := ob_c.via hb; replace ob_g := ob_g.via hb; replace ob_x := ob_x.via hb; replace ob_y := ob_y.via hb; replace ob_z := ob_z.via hb; replace ob_h := ob_h.via hb; replace eb := eb.via hb; replace hBB := hBB.trans (hb.mono hBB.size); clear hb; clear g0_h g1_h hs_h gz_h; clear g0_z g1_z hs_z gz_z)
            | fail "no arm")
          go_ret
          exact ⟨rfl, hBB⟩
  · obtain ⟨rr, t1, t2, t3, t4, t5⟩ := hgp.out hb00
    clear hgp
    have hg0 : vg ≠ 0 := fun h => hb00 (hb0 h)
    clear ha0 hb0 hab0
    have D1 := Lib.hid (fun (W : World) (A A2 : Option Addr) (n c n2 c2 : Nat) (h : Sl W W.heap.size A n c (digs va)) (h2 : Sl W W.heap.size A2 n2 c2 (digs vb)) => div_v ra rb rq rr hb00 t1 t2 h h2)
    have MQ := Lib.hid (fun (W : World) (A A2 : Option Addr) (n c n2 c2 : Nat) (h : Sl W W.heap.size A n c (digs vq)) (h2 : Sl W W.heap.size A2 n2 c2 (digs vb)) => mul_v rq rb rp t3 h h2)
    have AR := Lib.hid (fun (W : World) (A A2 : Option Addr) (n c n2 c2 : Nat) (h : Sl W W.heap.size A n c (digs vp)) (h2 : Sl W W.heap.size A2 n2 c2 (digs vr)) => add_v rp rr ra t4 h h2)
    have QA := Lib.hid (fun (W : World) (A A2 : Option Addr) (n c n2 c2 : Nat) (h : Sl W W.heap.size A n c (digs va)) (h2 : Sl W W.heap.size A2 n2 c2 (digs va)) => same_v ra ra (b := true) (decide_eq_true rfl) h h2)
    have CR := Lib.hid (fun (W : World) (A A2 : Option Addr) (n c n2 c2 : Nat) (h : Sl W W.heap.size A n c (digs vr)) (h2 : Sl W W.heap.size A2 n2 c2 (digs vb)) => cmp_v rr rb.abs (o := -1) t5 h h2)
    have RQ := Lib.hid (fun (W : World) (A : Option Addr) (n c : Nat) (h : Sl W W.heap.size A n c (digs vq)) => right_v rq h)
    have RR := Lib.hid (fun (W : World) (A : Option Addr) (n c : Nat) (h : Sl W W.heap.size A n c (digs vr)) => right_v rr h)
    clear rq rp rr t1 t2 t3 t4 t5 rb ra
    have tk1 : Hid True := trivial
    have tk2 : Hid True := trivial
    have tk3 : Hid True := trivial
    have tk4 : Hid True := trivial
    have tk5 : Hid True := trivial
    have tk6 : Hid True := trivial
    have tk7 : Hid True := trivial
    have tk8 : Hid True := trivial
    obtain ⟨g0_a, g1_a, hs_a, gz_a⟩ := id ob_a
    obtain ⟨g0_b, g1_b, hs_b, gz_b⟩ := id ob_b
    have hbz : decide (0 < n_b) = true := (by have := (none_digs hs_b).1; simp; omega)
    go_wp2_with (first
      | (clear tk1; go_at_call 23; (with_reducible refine (D1.out _ _ _ _ _ _ _ hs_a hs_b).mono ?_); rintro e w1 ⟨A_q, n_q, c_q, A_r, n_r, c_r, rfl, hs_q, hs_r, hb⟩; replace ob_a := ob_a.via hb; replace ob_b := ob_b.via hb; replace ob_c := ob_c.via hb; replace hBB := hBB.trans (hb.mono hBB.size); clear hb; clear g0_a g1_a hs_a gz_a; clear g0_b g1_b hs_b gz_b; skip; have ob_q := OB.newg (neg := gq) (g := w1.heap.size) hs_q 25 (rfl); clear hs_q; replace hs_r := hs_r.alloc_ (.cells #[.bool gq, .slice A_q n_q c_q] 25); replace ob_a := ob_a.alloc_ (.cells #[.bool gq, .slice A_q n_q c_q] 25); replace ob_b := ob_b.alloc_ (.cells #[.bool gq, .slice A_q n_q c_q] 25); replace ob_c := ob_c.alloc_ (.cells #[.bool gq, .slice A_q n_q c_q] 25); replace hBB := hBB.alloc hBB.size (.cells #[.bool gq, .slice A_q n_q c_q] 25); have ob_r := OB.newg (neg := false) (g := w1.heap.size + 1) hs_r 25 (by simp only [World.size_alloc]); clear hs_r; replace ob_a := ob_a.alloc_ (.cells #[.bool false, .slice A_r n_r c_r] 25); replace ob_b := ob_b.alloc_ (.cells #[.bool false, .slice A_r n_r c_r] 25); replace ob_c := ob_c.alloc_ (.cells #[.bool false, .slice A_r n_r c_r] 25); replace ob_q := ob_q.alloc_ (.cells #[.bool false, .slice A_r n_r c_r] 25); replace hBB := hBB.alloc hBB.size (.cells #[.bool false, .slice A_r n_r c_r] 25); obtain ⟨g0_b, g1_b, hs_b, gz_b⟩ := id ob_b; obtain ⟨g0_q, g1_q, hs_q, gz_q⟩ := id ob_q)
      | (clear tk2; go_at_call 20; (with_reducible refine (MQ.out _ _ _ _ _ _ _ hs_q hs_b).mono ?_); rintro e w2 ⟨A_p, n_p, c_p, rfl, hs_p, hb⟩; replace ob_a := ob_a.via hb; replace ob_b := ob_b.via hb; replace ob_c := ob_c.via hb; replace ob_q := ob_q.via hb; replace ob_r := ob_r.via hb; replace hBB := hBB.trans (hb.mono hBB.size); clear hb; clear g0_b g1_b hs_b gz_b; clear g0_q g1_q hs_q gz_q; have ob_p := OB.newg (neg := gp) (g := w2.heap.size) hs_p 25 (rfl); clear hs_p; replace ob_a := ob_a.alloc_ (.cells #[.bool gp, .slice A_p n_p c_p] 25); replace ob_b := ob_b.alloc_ (.cells #[.bool gp, .slice A_p n_p c_p] 25); replace ob_c := ob_c.alloc_ (.cells #[.bool gp, .slice A_p n_p c_p] 25); replace ob_q := ob_q.alloc_ (.cells #[.bool gp, .slice A_p n_p c_p] 25); replace ob_r := ob_r.alloc_ (.cells #[.bool gp, .slice A_p n_p c_p] 25); replace hBB := hBB.alloc hBB.size (.cells #[.bool gp, .slice A_p n_p c_p] 25); obtain ⟨g0_p, g1_p, hs_p, gz_p⟩ := id ob_p; obtain ⟨g0_r, g1_r, hs_r, gz_r⟩ := id ob_r)
      | (clear tk3; go_at_call 18; (with_reducible refine (AR.out _ _ _ _ _ _ _ hs_p hs_r).mono ?_); rintro e w3 ⟨A_s, n_s, c_s, rfl, hs_s, hb⟩; replace ob_a := ob_a.via hb; replace ob_b := ob_b.via hb; replace ob_c := ob_c.via hb; replace ob_q := ob_q.via hb; replace ob_r := ob_r.via hb; replace ob_p := ob_p.via hb; replace hBB := hBB.trans (hb.mono hBB.size); clear hb; clear g0_p g1_p hs_p gz_p; clear g0_r g1_r hs_r gz_r; have ob_s := OB.newg (neg := ga) (g := w3.heap.size) hs_s 25 (rfl); clear hs_s; replace ob_a := ob_a.alloc_ (.cells #[.bool ga, .slice A_s n_s c_s] 25); replace ob_b := ob_b.alloc_ (.cells #[.bool ga, .slice A_s n_s c_s] 25); replace ob_c := ob_c.alloc_ (.cells #[.bool ga, .slice A_s n_s c_s] 25); replace ob_q := ob_q.alloc_ (.cells #[.bool ga, .slice A_s n_s c_s] 25); replace ob_r := ob_r.alloc_ (.cells #[.bool ga, .slice A_s n_s c_s] 25); replace ob_p := ob_p.alloc_ (.cells #[.bool ga, .slice A_s n_s c_s] 25); replace hBB := hBB.alloc hBB.size (.cells #[.bool ga, .slice A_s n_s c_s] 25); obtain ⟨g0_s, g1_s, hs_s, gz_s⟩ := id ob_s; obtain ⟨g0_a, g1_a, hs_a, gz_a⟩ := id ob_a)
      | (clear tk4; go_at_call 15; (with_reducible refine (QA.out _ _ _ _ _ _ _ hs_s hs_a).mono ?_); rintro e w4 ⟨rfl, hb⟩; replace ob_a := ob_a.via hb; replace ob_b := ob_b.via hb; replace ob_c := ob_c.via hb; replace ob_q := ob_q.via hb; replace ob_r := ob_r.via hb; replace ob_p := ob_p.via hb; replace ob_s := ob_s.via hb; replace hBB := hBB.trans (hb.mono hBB.size); clear hb; clear g0_s g1_s hs_s gz_s; clear g0_a g1_a hs_a gz_a; obtain ⟨g0_r, g1_r, hs_r, gz_r⟩ := id ob_r; obtain ⟨g0_b, g1_b, hs_b, gz_b⟩ := id ob_b)
      | (clear tk5; go_at_call 21; (with_reducible refine (CR.out _ _ _ _ _ _ _ hs_r hs_b).mono ?_); rintro e w5 ⟨rfl, hb⟩; replace ob_a := ob_a.via hb; replace ob_b := ob_b.via hb; replace ob_c := ob_c.via hb; replace ob_q := ob_q.via hb; replace ob_r := ob_r.via hb; replace ob_p := ob_p.via hb; replace ob_s := ob_s.via hb; replace hBB := hBB.trans (hb.mono hBB.size); clear hb; clear g0_r g1_r hs_r gz_r; clear g0_b g1_b hs_b gz_b; obtain ⟨g0_q, g1_q, hs_q, gz_q⟩ := id ob_q)
      | (clear tk6; go_at_call 22; (with_reducible refine (RQ.out _ _ _ _ hs_q).mono ?_); rintro e w6 ⟨rfl, hb⟩; replace ob_a := ob_a.via hb; replace ob_b := ob_b.via hb; replace ob_c := ob_c.via hb; replace ob_q := ob_q.via hb; replace ob_r := ob_r.via hb; replace ob_p := ob_p.via hb; replace ob_s := ob_s.via hb; replace hBB := hBB.trans (hb.mono hBB.size); clear hb; clear g0_q g1_q hs_q gz_q; obtain ⟨g0_r, g1_r, hs_r, gz_r⟩ := id ob_r)
      | (clear tk7; go_at_call 22; (with_reducible refine (RR.out _ _ _ _ hs_r).mono ?_); rintro e w7 ⟨rfl, hb⟩; replace ob_a := ob_a.via hb; replace ob_b := ob_b.via hb; replace ob_c := ob_c.via hb; replace ob_q := ob_q.via hb; replace ob_r := ob_r.via hb; replace ob_p := ob_p.via hb; replace ob_s := ob_s.via hb; replace hBB := hBB.trans (hb.mono hBB.size); clear hb; clear g0_r g1_r hs_r gz_r; obtain ⟨g0_b, g1_b, hs_b, gz_b⟩ := id ob_b; obtain ⟨g0_a, g1_a, hs_a, gz_a⟩ := id ob_a)
      | (clear tk8; go_at_call 24; (with_reducible refine (GG.out _ _ _ _ _ _ _ hs_a hs_b).mono ?_); rintro e w8 ⟨A_g, n_g, c_g, rfl, hs_g, hb⟩; replace ob_a := ob_a.via hb; replace ob_b := ob_b.via hb; replace ob_c := ob_c.via hb; replace ob_q := ob_q.via hb; replace ob_r := ob_r.via hb; replace ob_p := ob_p.via hb; replace ob_s := ob_s.via hb; replace hBB := hBB.trans (hb.mono hBB.size); clear hb; clear g0_b g1_b hs_b gz_b; clear g0_a g1_a hs_a gz_a; have ob_g := OB.newg (neg := false) (g := w8.heap.size) hs_g 25 (rfl); clear hs_g; replace ob_a := ob_a.alloc_ (.cells #[.bool false, .slice A_g n_g c_g] 25); replace ob_b := ob_b.alloc_ (.cells #[.bool false, .slice A_g n_g c_g] 25); replace ob_c := ob_c.alloc_ (.cells #[.bool false, .slice A_g n_g c_g] 25); replace ob_q := ob_q.alloc_ (.cells #[.bool false, .slice A_g n_g c_g] 25); replace ob_r := ob_r.alloc_ (.cells #[.bool false, .slice A_g n_g c_g] 25); replace ob_p := ob_p.alloc_ (.cells #[.bool false, .slice A_g n_g c_g] 25); replace ob_s := ob_s.alloc_ (.cells #[.bool false, .slice A_g n_g c_g] 25); replace hBB := hBB.alloc hBB.size (.cells #[.bool false, .slice A_g n_g c_g] 25); obtain ⟨g0_g, g1_g, hs_g, gz_g⟩ := id ob_g; obtain ⟨g0_a, g1_a, hs_a, gz_a⟩ := id ob_a; obtain ⟨g0_b, g1_b, hs_b, gz_b⟩ := id ob_b; have hgz : ((n_g : Int) == 0) = false := (by have := (none_digs hs_g).1; simp; omega); have f_a := few_digs hs_a fa; have f_b := few_digs hs_b fb; have hgs : ((n_a : Int) + n_b == 0) = false := (by have h1 := (none_digs hs_a).1; have h2 := (none_digs hs_b).1; simp; omega); have eb : EB ((w8.alloc (.cells #[.bool false, .slice A_g n_g c_g] 25)).alloc (.cells #[.bool ga, .slice A_a n_a c_a, .bool gb, .slice A_b n_b c_b] 25)) (w8.heap.size + 1) ga A_a n_a c_a gb A_b n_b c_b := EB.newg 25 (by simp only [World.size_alloc]); replace ob_a := ob_a.alloc_ (.cells #[.bool ga, .slice A_a n_a c_a, .bool gb, .slice A_b n_b c_b] 25); replace ob_b := ob_b.alloc_ (.cells #[.bool ga, .slice A_a n_a c_a, .bool gb, .slice A_b n_b c_b] 25); replace ob_c := ob_c.alloc_ (.cells #[.bool ga, .slice A_a n_a c_a, .bool gb, .slice A_b n_b c_b] 25); replace ob_q := ob_q.alloc_ (.cells #[.bool ga, .slice A_a n_a c_a, .bool gb, .slice A_b n_b c_b] 25); replace ob_r := ob_r.alloc_ (.cells #[.bool ga, .slice A_a n_a c_a, .bool gb, .slice A_b n_b c_b] 25); replace ob_p := ob_p.alloc_ (.cells #[.bool ga, .slice A_a n_a c_a, .bool gb, .slice A_b n_b c_b] 25); replace ob_s := ob_s.alloc_ (.cells #[.bool ga, .slice A_a n_a c_a, .bool gb, .slice A_b n_b c_b] 25); replace ob_g := ob_g.alloc_ (.cells #[.bool ga, .slice A_a n_a c_a, .bool gb, .slice A_b n_b c_b] 25); replace hBB := hBB.alloc hBB.size (.cells #[.bool ga, .slice A_a n_a c_a, .bool gb, .slice A_b n_b c_b] 25))
      | fail "no arm")
    clear g0_a g1_a hs_a gz_a g0_b g1_b hs_b gz_b g0_g g1_g hs_g gz_g hgz hgs f_a f_b hbz
    go_loopw [130] (fun i W => ∃ k : Nat, k ≤ 2 ∧ i = .int .i64 k ∧ Hid (Below w.heap.size w W ∧ OB W q0 ga A_a n_a c_a va ∧ OB W q1 gb A_b n_b c_b vb ∧ OB W q2 gc A_c n_c c_c vc ∧ OB W (w8.heap.size) false A_g n_g c_g vg ∧ EB W (w8.heap.size + 1) ga A_a n_a c_a gb A_b n_b c_b)) (fun i _ => 2 - (intOf i).toNat)
    case atStart => exact ⟨0, by omega, rfl, Lib.hid ⟨hBB, ob_a, ob_b, ob_c, ob_g, eb⟩⟩
    case round =>
      clear hBB ob_a ob_b ob_c ob_g eb
      obtain ⟨k, hk, rfl, hI⟩ := hrel
      obtain ⟨hBB, ob_a, ob_b, ob_c, ob_g, eb⟩ := hI.out
      clear hI
      obtain ⟨x0, x1, x2, x3, xz⟩ := id eb
      rcases (show k = 0 ∨ k = 1 ∨ k = 2 by omega) with rfl | rfl | rfl
      · skip
        have tk1 : Hid True := trivial
        replace ob_a := ob_a.alloc_ (.cells #[.bool ga, .slice A_a n_a c_a] 25)
        replace ob_b := ob_b.alloc_ (.cells #[.bool ga, .slice A_a n_a c_a] 25)
        replace ob_c := ob_c.alloc_ (.cells #[.bool ga, .slice A_a n_a c_a] 25)
        replace ob_g := ob_g.alloc_ (.cells #[.bool ga, .slice A_a n_a c_a] 25)
        replace eb := eb.alloc_ (.cells #[.bool ga, .slice A_a n_a c_a] 25)
        replace hBB := hBB.alloc hBB.size (.cells #[.bool ga, .slice A_a n_a c_a] 25)
        obtain ⟨g0_a, g1_a, hs_a, gz_a⟩ := id ob_a
        obtain ⟨g0_g, g1_g, hs_g, gz_g⟩ := id ob_g
        go_wp2_with (first
          | (clear tk1; go_at_call 23; (with_reducible refine (DA.out hg0 _ _ _ _ _ _ _ hs_a hs_g).mono ?_); rintro e w1 ⟨A_q, n_q, c_q, A_r, n_r, c_r, rfl, hs_q, hs_r, hb⟩; replace ob_a := ob_a.via hb; replace ob_b := ob_b.via hb; replace ob_c := ob_c.via hb; replace ob_g := ob_g.via hb; replace eb := eb.via hb; replace hBB := hBB.trans (hb.mono hBB.size); clear hb; clear g0_a g1_a hs_a gz_a; clear g0_g g1_g hs_g gz_g; skip; have hrz : ¬ (0 : Int) < n_r := (by have := (none_digs hs_r).2 rfl; omega); replace hs_q := hs_q.alloc_ (.cells #[.bool gqa, .slice A_q n_q c_q] 25); replace hs_r := hs_r.alloc_ (.cells #[.bool gqa, .slice A_q n_q c_q] 25); replace ob_a := ob_a.alloc_ (.cells #[.bool gqa, .slice A_q n_q c_q] 25); replace ob_b := ob_b.alloc_ (.cells #[.bool gqa, .slice A_q n_q c_q] 25); replace ob_c := ob_c.alloc_ (.cells #[.bool gqa, .slice A_q n_q c_q] 25); replace ob_g := ob_g.alloc_ (.cells #[.bool gqa, .slice A_q n_q c_q] 25); replace eb := eb.alloc_ (.cells #[.bool gqa, .slice A_q n_q c_q] 25); replace hBB := hBB.alloc hBB.size (.cells #[.bool gqa, .slice A_q n_q c_q] 25); replace hs_q := hs_q.alloc_ (.cells #[.bool false, .slice A_r n_r c_r] 25); replace hs_r := hs_r.alloc_ (.cells #[.bool false, .slice A_r n_r c_r] 25); replace ob_a := ob_a.alloc_ (.cells #[.bool false, .slice A_r n_r c_r] 25); replace ob_b := ob_b.alloc_ (.cells #[.bool false, .slice A_r n_r c_r] 25); replace ob_c := ob_c.alloc_ (.cells #[.bool false, .slice A_r n_r c_r] 25); replace ob_g := ob_g.alloc_ (.cells #[.bool false, .slice A_r n_r c_r] 25); replace eb := eb.alloc_ (.cells #[.bool false, .slice A_r n_r c_r] 25); replace hBB := hBB.alloc hBB.size (.cells #[.bool false, .slice A_r n_r c_r] 25); clear hs_q; clear hs_r; obtain ⟨g0_g, g1_g, hs_g, gz_g⟩ := id ob_g; have hgn : (0 : Int) < n_g := (by have := (none_digs hs_g).1; omega))
          | fail "no arm")
        go_roundw
        case rel => exact ⟨1, by omega, rfl, Lib.hid ⟨hBB, ob_a, ob_b, ob_c, ob_g, eb⟩⟩
        case measure => simp [intOf]
      · skip
        have tk1 : Hid True := trivial
        replace ob_a := ob_a.alloc_ (.cells #[.bool gb, .slice A_b n_b c_b] 25)
        replace ob_b := ob_b.alloc_ (.cells #[.bool gb, .slice A_b n_b c_b] 25)
        replace ob_c := ob_c.alloc_ (.cells #[.bool gb, .slice A_b n_b c_b] 25)
        replace ob_g := ob_g.alloc_ (.cells #[.bool gb, .slice A_b n_b c_b] 25)
        replace eb := eb.alloc_ (.cells #[.bool gb, .slice A_b n_b c_b] 25)
        replace hBB := hBB.alloc hBB.size (.cells #[.bool gb, .slice A_b n_b c_b] 25)
        obtain ⟨g0_b, g1_b, hs_b, gz_b⟩ := id ob_b
        obtain ⟨g0_g, g1_g, hs_g, gz_g⟩ := id ob_g
        go_wp2_with (first
          | (clear tk1; go_at_call 23; (with_reducible refine (DB.out hg0 _ _ _ _ _ _ _ hs_b hs_g).mono ?_); rintro e w1 ⟨A_q, n_q, c_q, A_r, n_r, c_r, rfl, hs_q, hs_r, hb⟩; replace ob_a := ob_a.via hb; replace ob_b := ob_b.via hb; replace ob_c := ob_c.via hb; replace ob_g := ob_g.via hb; replace eb := eb.via hb; replace hBB := hBB.trans (hb.mono hBB.size); clear hb; clear g0_b g1_b hs_b gz_b; clear g0_g g1_g hs_g gz_g; skip; have hrz : ¬ (0 : Int) < n_r := (by have := (none_digs hs_r).2 rfl; omega); replace hs_q := hs_q.alloc_ (.cells #[.bool gqb, .slice A_q n_q c_q] 25); replace hs_r := hs_r.alloc_ (.cells #[.bool gqb, .slice A_q n_q c_q] 25); replace ob_a := ob_a.alloc_ (.cells #[.bool gqb, .slice A_q n_q c_q] 25); replace ob_b := ob_b.alloc_ (.cells #[.bool gqb, .slice A_q n_q c_q] 25); replace ob_c := ob_c.alloc_ (.cells #[.bool gqb, .slice A_q n_q c_q] 25); replace ob_g := ob_g.alloc_ (.cells #[.bool gqb, .slice A_q n_q c_q] 25); replace eb := eb.alloc_ (.cells #[.bool gqb, .slice A_q n_q c_q] 25); replace hBB := hBB.alloc hBB.size (.cells #[.bool gqb, .slice A_q n_q c_q] 25); replace hs_q := hs_q.alloc_ (.cells #[.bool false, .slice A_r n_r c_r] 25); replace hs_r := hs_r.alloc_ (.cells #[.bool false, .slice A_r n_r c_r] 25); replace ob_a := ob_a.alloc_ (.cells #[.bool false, .slice A_r n_r c_r] 25); replace ob_b := ob_b.alloc_ (.cells #[.bool false, .slice A_r n_r c_r] 25); replace ob_c := ob_c.alloc_ (.cells #[.bool false, .slice A_r n_r c_r] 25); replace ob_g := ob_g.alloc_ (.cells #[.bool false, .slice A_r n_r c_r] 25); replace eb := eb.alloc_ (.cells #[.bool false, .slice A_r n_r c_r] 25); replace hBB := hBB.alloc hBB.size (.cells #[.bool false, .slice A_r n_r c_r] 25); clear hs_q; clear hs_r; obtain ⟨g0_g, g1_g, hs_g, gz_g⟩ := id ob_g; have hgn : (0 : Int) < n_g := (by have := (none_digs hs_g).1; omega))
          | fail "no arm")
        go_roundw
        case rel => exact ⟨2, by omega, rfl, Lib.hid ⟨hBB, ob_a, ob_b, ob_c, ob_g, eb⟩⟩
        case measure => simp [intOf]
      · skip
        have tk1 : Hid True := trivial
        have tk2 : Hid True := trivial
        have tk3 : Hid True := trivial
        have tk4 : Hid True := trivial
        have tk5 : Hid True := trivial
        obtain ⟨g0_a, g1_a, hs_a, gz_a⟩ := id ob_a
        obtain ⟨g0_c, g1_c, hs_c, gz_c⟩ := id ob_c
        go_wp2_with (first
          | (clear tk1; go_at_call 20; (with_reducible refine (XA.out _ _ _ _ _ _ _ hs_a hs_c).mono ?_); rintro e w1 ⟨A_x, n_x, c_x, rfl, hs_x, hb⟩; replace ob_a := ob_a.via hb; replace ob_b := ob_b.via hb; replace ob_c := ob_c.via hb; replace ob_g := ob_g.via hb; replace eb := eb.via hb; replace hBB := hBB.trans (hb.mono hBB.size); clear hb; clear g0_a g1_a hs_a gz_a; clear g0_c g1_c hs_c gz_c; have ob_x := OB.newg (neg := gx) (g := w1.heap.size) hs_x 25 (rfl); clear hs_x; replace ob_a := ob_a.alloc_ (.cells #[.bool gx, .slice A_x n_x c_x] 25); replace ob_b := ob_b.alloc_ (.cells #[.bool gx, .slice A_x n_x c_x] 25); replace ob_c := ob_c.alloc_ (.cells #[.bool gx, .slice A_x n_x c_x] 25); replace ob_g := ob_g.alloc_ (.cells #[.bool gx, .slice A_x n_x c_x] 25); replace eb := eb.alloc_ (.cells #[.bool gx, .slice A_x n_x c_x] 25); replace hBB := hBB.alloc hBB.size (.cells #[.bool gx, .slice A_x n_x c_x] 25); obtain ⟨g0_c, g1_c, hs_c, gz_c⟩ := id ob_c; obtain ⟨g0_b, g1_b, hs_b, gz_b⟩ := id ob_b)
          | (clear tk2; go_at_call 20; (with_reducible refine (YB.out _ _ _ _ _ _ _ hs_c hs_b).mono ?_); rintro e w2 ⟨A_y, n_y, c_y, rfl, hs_y, hb⟩; replace ob_a := ob_a.via hb; replace ob_b := ob_b.via hb; replace ob_c := ob_c.via hb; replace ob_g := ob_g.via hb; replace ob_x := ob_x.via hb; replace eb := eb.via hb; replace hBB := hBB.trans (hb.mono hBB.size); clear hb; clear g0_c g1_c hs_c gz_c; clear g0_b g1_b hs_b gz_b; have ob_y := OB.newg (neg := gy) (g := w2.heap.size) hs_y 25 (rfl); clear hs_y; replace ob_a := ob_a.alloc_ (.cells #[.bool gy, .slice A_y n_y c_y] 25); replace ob_b := ob_b.alloc_ (.cells #[.bool gy, .slice A_y n_y c_y] 25); replace ob_c := ob_c.alloc_ (.cells #[.bool gy, .slice A_y n_y c_y] 25); replace ob_g := ob_g.alloc_ (.cells #[.bool gy, .slice A_y n_y c_y] 25); replace ob_x := ob_x.alloc_ (.cells #[.bool gy, .slice A_y n_y c_y] 25); replace eb := eb.alloc_ (.cells #[.bool gy, .slice A_y n_y c_y] 25); replace hBB := hBB.alloc hBB.size (.cells #[.bool gy, .slice A_y n_y c_y] 25); obtain ⟨g0_g, g1_g, hs_g, gz_g⟩ := id ob_g; obtain ⟨g0_c, g1_c, hs_c, gz_c⟩ := id ob_c)
          | (clear tk3; go_at_call 20; (with_reducible refine (ZG.out _ _ _ _ _ _ _ hs_g hs_c).mono ?_); rintro e w3 ⟨A_z, n_z, c_z, rfl, hs_z, hb⟩; replace ob_a := ob_a.via hb; replace ob_b := ob_b.via hb; replace ob_c := ob_c.via hb; replace ob_g := ob_g.via hb; replace ob_x := ob_x.via hb; replace ob_y := ob_y.via hb; replace eb := eb.via hb; replace hBB := hBB.trans (hb.mono hBB.size); clear hb; clear g0_g g1_g hs_g gz_g; clear g0_c g1_c hs_c gz_c; have ob_z := OB.newg (neg := false) (g := w3.heap.size) hs_z 25 (rfl); clear hs_z; replace ob_a := ob_a.alloc_ (.cells #[.bool false, .slice A_z n_z c_z] 25); replace ob_b := ob_b.alloc_ (.cells #[.bool false, .slice A_z n_z c_z] 25); replace ob_c := ob_c.alloc_ (.cells #[.bool false, .slice A_z n_z c_z] 25); replace ob_g := ob_g.alloc_ (.cells #[.bool false, .slice A_z n_z c_z] 25); replace ob_x := ob_x.alloc_ (.cells #[.bool false, .slice A_z n_z c_z] 25); replace ob_y := ob_y.alloc_ (.cells #[.bool false, .slice A_z n_z c_z] 25); replace eb := eb.alloc_ (.cells #[.bool false, .slice A_z n_z c_z] 25); replace hBB := hBB.alloc hBB.size (.cells #[.bool false, .slice A_z n_z c_z] 25); obtain ⟨g0_x, g1_x, hs_x, gz_x⟩ := id ob_x; obtain ⟨g0_y, g1_y, hs_y, gz_y⟩ := id ob_y)
          | (clear tk4; go_at_call 24; (with_reducible refine (HG.out _ _ _ _ _ _ _ hs_x hs_y).mono ?_); rintro e w4 ⟨A_h, n_h, c_h, rfl, hs_h, hb⟩; replace ob_a := ob_a.via hb; replace ob_b := ob_b.via hb; replace ob_c := ob_c.via hb; replace ob_g := ob_g.via hb; replace ob_x := ob_x.via hb; replace ob_y := ob_y.via hb; replace ob_z := ob_z.via hb; replace eb := eb.via hb; replace hBB := hBB.trans (hb.mono hBB.size); clear hb; clear g0_x g1_x hs_x gz_x; clear g0_y g1_y hs_y gz_y; have ob_h := OB.newg (neg := false) (g := w4.heap.size) hs_h 25 (rfl); clear hs_h; replace ob_a := ob_a.alloc_ (.cells #[.bool false, .slice A_h n_h c_h] 25); replace ob_b := ob_b.alloc_ (.cells #[.bool false, .slice A_h n_h c_h] 25); replace ob_c := ob_c.alloc_ (.cells #[.bool false, .slice A_h n_h c_h] 25); replace ob_g := ob_g.alloc_ (.cells #[.bool false, .slice A_h n_h c_h] 25); replace ob_x := ob_x.alloc_ (.cells #[.bool false, .slice A_h n_h c_h] 25); replace ob_y := ob_y.alloc_ (.cells #[.bool false, .slice A_h n_h c_h] 25); replace ob_z := ob_z.alloc_ (.cells #[.bool false, .slice A_h n_h c_h] 25); replace eb := eb.alloc_ (.cells #[.bool false, .slice A_h n_h c_h] 25); replace hBB := hBB.alloc hBB.size (.cells #[.bool false, .slice A_h n_h c_h] 25); obtain ⟨g0_h, g1_h, hs_h, gz_h⟩ := id ob_h; obtain ⟨g0_z, g1_z, hs_z, gz_z⟩ := id ob_z)
          | (clear tk5; go_at_call 15; (with_reducible refine (HS.out _ _ _ _ _ _ _ hs_h hs_z).mono ?_); rintro e w5 ⟨rfl, hb⟩; replace ob_a := ob_a.via hb; replace ob_b := ob_b.via hb; replace ob_c := ob_c.via hb; replace ob_g := ob_g.via hb; replace ob_x := ob_x.via hb; replace ob_y := ob_y.via hb; replace ob_z := ob_z.via hb; replace ob_h := ob_h.via hb; replace eb := eb.via hb; replace hBB := hBB.trans (hb.mono hBB.size); clear hb; clear g0_h g1_h hs_h gz_h; clear g0_z g1_z hs_z gz_z)
          | fail "no arm")
        go_ret
        exact ⟨rfl, hBB⟩
end Go.Proofs.YthnickjbknpmhaaDoor
