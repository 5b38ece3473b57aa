/-
  The contract of the reference's divide.
  The contracts of the reference's Div and Gcd.
  The contract of the reference's Gcd.
-/
import Derived.Test.YthnickjbknpmhaaGreatDoorNumRefZ
import Derived.Test.YthnickjbknpmhaaGreatDoorNumIs
import Derived.Test.YthnickjbknpmhaaGreatDoorNumGcd
import Derived.Test.YthnickjbknpmhaaGreatDoorNumZ
namespace Go.Proofs.YthnickjbknpmhaaGreatDoor
open Go.RowKit Go.Shelf

theorem digs_few {v k : Nat} (h : v < 4294967296 ^ k) : (digs v).length ≤ k := by
  rcases Nat.lt_or_ge k (digs v).length with h1 | h1
  · have hne : digs v ≠ [] := fun e => by rw [e] at h1; simp at h1
    have h2 := canon_ge (digs_canon v) hne
    rw [nval_digs] at h2
    have h3 : 4294967296 ^ k ≤ 4294967296 ^ ((digs v).length - 1) := Nat.pow_le_pow_right (by omega) (by omega)
    omega
  · exact h1
theorem blen_few {l : List Nat} {n : Nat} (hl : Dig l) (hn : l.length = n) : blen (nval l) ≤ 32 * n := by
  have h := nval_lt hl
  rw [hn, p32] at h
  exact blen_le h
theorem blen_word {l : List Nat} {n : Nat} (hl : Dig l) (hn : l.length = n) (h2 : n ≤ 2) : nval l < 18446744073709551616 := by
  have h := nval_lt hl
  rw [hn] at h
  have : 4294967296 ^ n ≤ 4294967296 ^ 2 := Nat.pow_le_pow_right (by omega) h2
  omega

/-- A store in one block leaves a slice in another. -/
theorem Sl.apart {w : World} {B n c g k : Nat} {A : Option Addr} {l : List Nat} (h : Sl w B A n c l) (hA : ∀ ad, A = some ad → ad.block ≠ g) (u : Value) : Sl (w.setCell ⟨g, k, none⟩ u) B A n c l := by
  refine ⟨⟨⟨h.1.1.1, fun hn => ?_⟩, h.1.2⟩, h.2⟩
  obtain ⟨ad, e, hb, hc⟩ := h.1.1.2 hn
  refine ⟨ad, e, hb, fun j v hv => ?_⟩
  have hne := hA ad e
  rw [World.cell?_setCell_other]
  · exact hc j v hv
  · intro e2
    apply hne
    have h3 := congrArg Addr.block e2
    rw [block_of_add] at h3
    exact h3.symm

set_option maxRecDepth 100000 in
set_option maxHeartbeats 2000000 in
theorem divide_small {A A2 : Option Addr} {n n2 c c2 B : Nat} {l m : List Nat} {w : World} (h : Sl w B A n c l) (h2 : Sl w B A2 n2 c2 m) (hB : B ≤ w.heap.size) (hn : n ≤ 2) (hn2 : n2 ≤ 2) (h0 : nval m ≠ 0) :
    Calls Tryz.prog 30 #[.slice A n c, .slice A2 n2 c2] w (RetQR (nval l / nval m) (nval l % nval m) w) := by
  have hv := blen_word h.dig h.len hn
  have hv2 := blen_word h2.dig h2.len hn2
  have WA := Lib.hid (fun (W : World) (hW : Below w.heap.size w W) => refword_any ((h.more hB).below hW) hn)
  have WB := Lib.hid (fun (W : World) (hW : Below w.heap.size w W) => refword_any ((h2.more hB).below hW) hn2)
  obtain ⟨x, hx⟩ : ∃ x, nval l = x := ⟨_, rfl⟩
  obtain ⟨y, hy⟩ : ∃ y, nval m = y := ⟨_, rfl⟩
  rw [hx] at hv WA ⊢
  rw [hy] at hv2 h0 WB ⊢
  obtain ⟨q, hq⟩ : ∃ q, x / y = q := ⟨_, rfl⟩
  obtain ⟨r, hr⟩ : ∃ r, x % y = r := ⟨_, rfl⟩
  have e1 : (x : Int) / (y : Int) = (q : Int) := by rw [← hq]; rfl
  have e2 : (x : Int) % (y : Int) = (r : Int) := by rw [← hr]; rfl
  have hql : q < 18446744073709551616 := by rw [← hq]; exact Nat.lt_of_le_of_lt (Nat.div_le_self _ _) hv
  have hrl : r < 18446744073709551616 := by rw [← hr]; exact Nat.lt_of_le_of_lt (Nat.mod_le _ _) hv
  have hyn : (y : Int) ≠ 0 := by omega
  have hbb := Below.refl w.heap.size w
  have hn' : (n : Int) ≤ 2 := by omega
  have hn2' : (n2 : Int) ≤ 2 := by omega
  rw [hq, hr]
  clear h h2 hx hy hq hr h0 hn hn2
  have tk1 : Hid True := trivial
  go_enter Tryz.func30, Tryz.ntmps30
  go_wp2_with (first
    | (go_at_call 58; (with_reducible refine (WA.out _ hbb).mono ?_); rintro e w1 ⟨rfl, rfl⟩)
    | (go_at_call 58; (with_reducible refine (WB.out _ hbb).mono ?_); rintro e w1 ⟨rfl, rfl⟩)
    | (clear tk1; go_at_call 57; go_loud ((with_reducible refine (refdigits_any q _ hql).mono ?_); rintro e w3 ⟨A3, n3, c3, rfl, hs3, hb⟩; replace hbb := hbb.trans (hb.mono hbb.size); clear hb))
    | (go_at_call 57; go_loud ((with_reducible refine (refdigits_any r _ hrl).mono ?_); rintro e w4 ⟨A4, n4, c4, rfl, hs4, hb⟩; replace hs3 := hs3.via hb; replace hbb := hbb.trans (hb.mono hbb.size); clear hb))
    | fail "no arm")
  go_ret2
  exact ⟨_, _, _, _, _, _, rfl, hs3, hs4, hbb⟩

set_option maxRecDepth 100000 in
set_option maxHeartbeats 2000000 in
theorem divide_less {A A2 : Option Addr} {n n2 c c2 B : Nat} {l m : List Nat} {w : World} (h : Sl w B A n c l) (h2 : Sl w B A2 n2 c2 m) (hB : B ≤ w.heap.size) (hl : Canon l) (hm : Canon m) (hn : n ≤ 64) (hn2 : n2 ≤ 64) (hbig : ¬ (n ≤ 2 ∧ n2 ≤ 2)) (hlt : blen (nval l) < blen (nval m)) :
    Calls Tryz.prog 30 #[.slice A n c, .slice A2 n2 c2] w (RetQR (nval l / nval m) (nval l % nval m) w) := by
  have hvl := blen_lt_of hlt
  rw [Nat.div_eq_of_lt hvl, Nat.mod_eq_of_lt hvl]
  have LA := Lib.hid (length_any h hl (by omega))
  have LB := Lib.hid (length_any h2 hm (by omega))
  have hb1 := blen_few h.dig h.len
  have hb2 := blen_few h2.dig h2.len
  have hs := Lib.hid (show Sl w w.heap.size A n c (digs (nval l)) by rw [← digs_of hl]; exact h.more hB)
  obtain ⟨x, hx⟩ : ∃ x, blen (nval l) = x := ⟨_, rfl⟩
  obtain ⟨y, hy⟩ : ∃ y, blen (nval m) = y := ⟨_, rfl⟩
  rw [hx] at LA hlt hb1
  rw [hy] at LB hlt hb2
  have hlt' : (x : Int) - y < 0 := by omega
  have hxx : x ≤ 3000 := by omega
  have hyy : y ≤ 3000 := by omega
  clear h h2 hx hy hl hm hlt hb1 hb2 hvl
  rcases (show (2 : Int) < n ∨ ((n : Int) ≤ 2 ∧ (2 : Int) < n2) by omega) with hc | ⟨hc, hc2⟩
  all_goals
    go_enter Tryz.func30, Tryz.ntmps30
    go_wp2_with (first
      | (go_at_call 59; (with_reducible refine LA.out.mono ?_); rintro e w1 ⟨rfl, rfl⟩)
      | (go_at_call 59; (with_reducible refine LB.out.mono ?_); rintro e w1 ⟨rfl, rfl⟩)
      | fail "no arm")
    go_ret2
    exact ⟨_, _, _, _, _, _, rfl, (by rw [digs_zero]; exact Sl.none_), hs.out, Below.refl _ _⟩

/-- What holds between two rounds of the division: the rest and the quotient so far. -/
def DvI (W : World) (g V D j n1 : Nat) (A3 : Option Addr) (n3 c3 : Nat) (o : List Nat) : Prop :=
  DBk W g 40 o ∧ Sl W W.heap.size A3 n3 c3 (digs (V / 2 ^ j % D)) ∧ (∀ ad, A3 = some ad → ad.block ≠ g) ∧ o.length = n1 ∧ Dig o ∧ nval o = V / 2 ^ j / D * 2 ^ j

set_option maxRecDepth 100000 in
set_option maxHeartbeats 4000000 in
theorem divide_main {A A2 : Option Addr} {n n2 c c2 B : Nat} {l m : List Nat} {w : World} (h : Sl w B A n c l) (h2 : Sl w B A2 n2 c2 m) (hB : B ≤ w.heap.size) (hl : Canon l) (hm : Canon m) (hn : n ≤ 64) (hn2 : n2 ≤ 64) (h0 : nval m ≠ 0) (hbig : ¬ (n ≤ 2 ∧ n2 ≤ 2)) (hge : blen (nval m) ≤ blen (nval l)) :
    Calls Tryz.prog 30 #[.slice A n c, .slice A2 n2 c2] w (RetQR (nval l / nval m) (nval l % nval m) w) := by
  have LA := Lib.hid (length_any h hl (by omega))
  have LB := Lib.hid (length_any h2 hm (by omega))
  have hb1 := blen_few h.dig h.len
  have hb2 := blen_few h2.dig h2.len
  obtain ⟨f, hf⟩ : ∃ f, blen (nval l) - blen (nval m) = f := ⟨_, rfl⟩
  have hst := Lib.hid (start_lt (V := nval l) (W := nval m) (f := f) h0 (by omega))
  have hbm : 0 < blen (nval m) := by rw [blen_pos h0]; omega
  have HN := Lib.hid (show f < 32 * n by omega)
  have H := Lib.hid (h.more hB)
  have H2 := Lib.hid (h2.more hB)
  have HM := Lib.hid hm
  have HV := Lib.hid (show nval m < 4294967296 ^ 64 from (canon_fits hm).1 (by rw [h2.len]; exact hn2))
  have WI := Lib.hid (fun (W : World) (hW : Below w.heap.size w W) (f : Nat) (hf : f ≤ 100000) => without_any f ((h.more hB).below hW) hW.size (by omega) hf)
  have BT := Lib.hid (fun (W : World) (hW : Below w.heap.size w W) (k : Nat) (hk : k / 32 < n) => bit_any k ((h.more hB).below hW) hk)
  obtain ⟨V, hV⟩ : ∃ V, nval l = V := ⟨_, rfl⟩
  obtain ⟨D, hD⟩ : ∃ D, nval m = D := ⟨_, rfl⟩
  rw [hV] at WI BT hst
  rw [hD] at hst HV h0
  have HD := Lib.hid hD
  have hD0 : Hid (D ≠ 0) := Lib.hid h0
  rw [hV, hD]
  rw [hV] at LA
  rw [hD] at LB
  rw [hV, hD] at hf hge
  obtain ⟨x, hx⟩ : ∃ x, blen V = x := ⟨_, rfl⟩
  obtain ⟨y, hy⟩ : ∃ y, blen D = y := ⟨_, rfl⟩
  rw [hV, hx] at hb1
  rw [hD, hy] at hb2
  rw [hx] at LA hf hge
  rw [hy] at LB hf hge
  have e1 : (x : Int) - y = (f : Int) := by omega
  have hxx : x ≤ 3000 := by omega
  have hyy : y ≤ 3000 := by omega
  have hff : f ≤ 3000 := by omega
  obtain ⟨k0, hk0⟩ : ∃ k0, f / 32 = k0 := ⟨_, rfl⟩
  obtain ⟨n1, hn1⟩ : ∃ n1, k0 + 1 = n1 := ⟨_, rfl⟩
  obtain ⟨f1, hf1⟩ : ∃ f1, f + 1 = f1 := ⟨_, rfl⟩
  have e2 : (f : Int) / 32 = (k0 : Int) := by omega
  have e3 : (k0 : Int) + 1 = (n1 : Int) := by omega
  have e4 : (f : Int) + 1 = (f1 : Int) := by omega
  have HK := Lib.hid (show ∀ j, j ≤ f → j / 32 < n1 by intro j hj; omega)
  have hkl : k0 ≤ 1000 := by omega
  have hfl : f1 ≤ 100000 := by omega
  have hnl : n1 ≤ 1000 := by omega
  have hmk := run_make_u32 n1 (by omega)
  rw [hf1] at hst
  have hf1' := Lib.hid hf1
  clear h h2 hV hD hx hy hl hm hb1 hb2 hbm h0 hf hge hk0 hn1 hf1
  rcases (show (2 : Int) < n ∨ ((n : Int) ≤ 2 ∧ (2 : Int) < n2) by omega) with hc | ⟨hc, hc2⟩
  all_goals
    go_enter Tryz.func30, Tryz.ntmps30
    go_upto_region 7 with (first
      | (go_at_call 59; (with_reducible refine LA.out.mono ?_); rintro e w1 ⟨rfl, rfl⟩)
      | (go_at_call 59; (with_reducible refine LB.out.mono ?_); rintro e w1 ⟨rfl, rfl⟩)
      | fail "no arm")
    have d0 := DBk.new w 40 n1
    have hBW : Below w.heap.size w (w.alloc (.cells (madeCells #[.int .u32 0] n1) 40)) := (Below.refl _ _).alloc (Nat.le_refl _) _
    have hz1 : (w.alloc (.cells (madeCells #[.int .u32 0] n1) 40)).heap.size = w.heap.size + 1 := by simp
    obtain ⟨W1, hW1⟩ : ∃ W1, w.alloc (.cells (madeCells #[.int .u32 0] n1) 40) = W1 := ⟨_, rfl⟩
    rw [hW1] at d0 hBW hz1 ⊢
    clear hmk hW1
    go_wp2_with (first
      | (go_at_call 60; go_loud ((with_reducible refine (WI.out _ hBW f1 hfl).mono ?_); rintro e w2 ⟨A3, n3, c3, rfl, hs3, hb, hfr⟩; have hBB := hBW.trans (hb.mono hBW.size); replace d0 := d0.below hb (by omega)))
      | fail "no arm")
    go_loopw [8, 9] (fun x y W => ∃ (j : Nat) (z : Int) (A3 : Option Addr) (n3 c3 : Nat) (o : List Nat), j ≤ f1 ∧ x = .slice A3 n3 c3 ∧ y = .int .i64 z ∧ z = (j : Int) - 1 ∧ Below w.heap.size w W ∧ Hid (DvI W w.heap.size V D j n1 A3 n3 c3 o)) (fun _ y _ => (intOf y + 1).toNat)
    case atStart =>
      exact ⟨f1, _, A3, n3, c3, List.replicate n1 0, by omega, rfl, rfl, by omega, hBB, Lib.hid ⟨d0, by rw [Nat.mod_eq_of_lt hst.out]; exact hs3, fun ad e => by have := hfr ad e; omega, by simp, dig_zeros n1, by rw [nval_zeros, Nat.div_eq_of_lt hst.out, Nat.zero_mul]⟩⟩
    case round =>
      clear hs3 hb hfr hBB d0 hBW hz1
      obtain ⟨j, z, A3, n3, c3, o, hj, rfl, rfl, hz, hBB, hI⟩ := hrel
      cases j with
      | zero =>
        obtain rfl : z = -1 := by omega
        clear hz
        have hq := Lib.hid (show nval o = V / D by have := hI.out.2.2.2.2.2; simpa using this)
        have hsq : Sl wr wr.heap.size (some ⟨w.heap.size, 0, none⟩) n1 n1 o := by
          have := hI.out.1.sl hI.out.2.2.2.2.1 hI.out.1.lt (by rw [hI.out.2.2.2.1]; omega)
          rwa [hI.out.2.2.2.1] at this
        have hs3 := hI.out.2.1
        rw [Nat.pow_zero, Nat.div_one] at hs3
        clear hI
        go_wp2_with (first
          | (go_at_call 48; (with_reducible refine (reftrim_val (v := V / D) hsq hq.out).mono ?_); rintro e w2 ⟨n', rfl, hs5, rfl⟩)
          | fail "no arm")
        go_ret2
        exact ⟨_, _, _, _, _, _, rfl, hs5, hs3, hBB⟩
      | succ j =>
        obtain rfl : z = (j : Int) := by omega
        clear hz
        have hjf : j ≤ f := by have := hf1'.out; omega
        have hk : j / 32 < n := by have := HN.out; omega
        obtain ⟨i1, i2, i3, i4, i5, i6⟩ := hI.out
        have hdb := div_bit (V := V) (k := j)
        obtain ⟨b0, hb0⟩ : ∃ b0, V / 2 ^ j % 2 = b0 := ⟨_, rfl⟩
        have hb01 : b0 ≤ 1 := by omega
        have QS := quo_step (A := V / 2 ^ (j + 1)) (W := D) hb01 (by have := hD0.out; omega)
        rw [hb0] at hdb
        rw [← hdb] at QS
        obtain ⟨R, hR⟩ : ∃ R, V / 2 ^ (j + 1) % D = R := ⟨_, rfl⟩
        obtain ⟨Q, hQ⟩ : ∃ Q, V / 2 ^ (j + 1) / D = Q := ⟨_, rfl⟩
        have hRD : R < D := by rw [← hR]; exact Nat.mod_lt _ (by have := hD0.out; omega)
        rw [hR] at i2 QS
        rw [hQ] at i6 QS
        have hn3 : n3 ≤ 64 := by
          have := digs_few (Nat.lt_trans hRD HV.out)
          rwa [i2.len] at this
        obtain ⟨r2, hr2⟩ : ∃ r2, 2 * R + b0 = r2 := ⟨_, rfl⟩
        rw [hr2] at QS
        have hr2f : r2 < 4294967296 ^ 65 := by
          have := HV.out
          have h65 : (4294967296 : Nat) ^ 65 = 4294967296 ^ 64 * 4294967296 := Nat.pow_succ ..
          omega
        have BI := Lib.hid (BT.out _ hBB j hk)
        rw [hb0] at BI
        have TW := Lib.hid (twice_any b0 i2 (Nat.le_refl _) (by omega) hb01)
        rw [nval_digs, hr2] at TW
        have CP := Lib.hid (fun (W : World) (hW : Below w.heap.size w W) (A4 : Option Addr) (n4 c4 : Nat) (h : Sl W W.heap.size A4 n4 c4 (digs r2)) => refcompare_any h ((H2.out.below hW).more hW.size) (Nat.le_refl _) (digs_canon r2) HM.out)
        rw [nval_digs, HD.out] at CP
        have hgz : w.heap.size < wr.heap.size := i1.lt
        rcases Nat.lt_or_ge r2 D with hlt | hge
        · obtain ⟨q1, q2⟩ := QS.2 hlt
          rw [cmpv_lt hlt] at CP
          have hN := Lib.hid (And.intro q2 (show V / 2 ^ j / D * 2 ^ j = nval o by rw [q1, i6, Nat.pow_succ]; rw [Nat.mul_comm 2 Q, Nat.mul_assoc, Nat.mul_comm 2 (2 ^ j)]))
          clear QS hdb hb0 hR hQ hRD hr2 hr2f q1 q2 i6 hlt i2 hI hk
          go_wp2_with (first
            | (go_at_call 62; (with_reducible refine BI.out.mono ?_); rintro e w1 ⟨rfl, rfl⟩)
            | (go_at_call 61; (with_reducible refine TW.out.mono ?_); rintro e w2 ⟨A4, n4, c4, rfl, hs4, hb, hfr⟩; replace hBB := hBB.trans (hb.mono hBB.size); replace i1 := i1.below hb hgz)
            | (go_at_call 63; (with_reducible refine (CP.out _ hBB _ _ _ hs4).mono ?_); rintro e w3 ⟨rfl, hb3⟩; replace hBB := hBB.trans (hb3.mono hBB.size); replace i1 := i1.below hb3 i1.lt; replace hs4 := hs4.via hb3)
            | fail "no arm")
          refine ⟨⟨j, _, A4, n4, c4, o, by omega, rfl, rfl, rfl, hBB, Lib.hid ⟨i1, by rw [hN.out.1]; exact hs4, fun ad e => by have := hfr ad e; omega, i4, i5, hN.out.2.symm⟩⟩, ?_⟩
          simp [intOf]
        · obtain ⟨q1, q2⟩ := QS.1 hge
          have MI := Lib.hid (fun (W : World) (hW : Below w.heap.size w W) (A4 : Option Addr) (n4 c4 : Nat) (h : Sl W W.heap.size A4 n4 c4 (digs r2)) => refminus_f A4 A2 n4 c4 n2 c2 W.heap.size (digs r2) m W h ((H2.out.below hW).more hW.size) (Nat.le_refl _) (by rw [← h.len]; have := digs_few hr2f; omega) (by rw [← h.len, ← H2.out.len]; exact canon_len_le HM.out (digs_canon r2).1 (by rw [HD.out, nval_digs]; exact hge)) (by rw [HD.out, nval_digs]; exact hge))
          rw [nval_digs, HD.out] at MI
          have hc3 := cmpv_nn hge
          obtain ⟨oo, hoo⟩ : ∃ oo, cmpv r2 D = oo := ⟨_, rfl⟩
          rw [hoo] at CP hc3
          obtain ⟨k, hkk⟩ : ∃ k, j / 32 = k := ⟨_, rfl⟩
          obtain ⟨r, hrr⟩ : ∃ r, j % 32 = r := ⟨_, rfl⟩
          have hkn := HK.out j hjf
          have hlow := dg_low i5 i6
          have hx4 := dg_lt i5 k
          rw [hkk, hrr] at hlow
          rw [hkk] at hkn
          have hcg := fun (W : World) (h : DBk W w.heap.size 40 o) => h.cell (k := k) (by rw [i4]; exact hkn)
          have HNV := Lib.hid (nval_set o k)
          obtain ⟨x0, hx0⟩ : ∃ x0, dg o k = x0 := ⟨_, rfl⟩
          rw [hx0] at hlow hx4 hcg HNV
          obtain ⟨p, hp⟩ : ∃ p, 2 ^ r = p := ⟨_, rfl⟩
          obtain ⟨y0, hy0⟩ : ∃ y0, x0 + p = y0 := ⟨_, rfl⟩
          have hyl : y0 < 4294967296 := by
            have := or_digit (k := j) hx4 (by rw [hrr]; exact hlow)
            rw [hrr, hp] at this
            omega
          have eo : bits .or .u32 (x0 : Int) (p : Int) = (y0 : Int) := by
            rw [bor32 x0 p hx4 (by omega), ← hp, or_pow hlow, hp, hy0]
          have ek : (j : Int) / 32 = (k : Int) := by omega
          have er : (j : Int) % 32 = (r : Int) := by omega
          have ep : (2 : Int) ^ r = (p : Int) := by rw [← hp]; simp
          have hpl : p < 4294967296 := by omega
          have hr32 : r < 32 := by omega
          have hkn1 : (k : Int) < n1 := by omega
          have hP := pow_split j
          rw [hkk, hrr, hp] at hP
          have hN := Lib.hid (And.intro q2 (show nval (o.set k y0) = V / 2 ^ j / D * 2 ^ j by
            have h9 := HNV.out y0 (by rw [i4]; exact hkn)
            rw [← hy0, Nat.mul_add, hP] at h9
            rw [← hy0, q1, Nat.add_mul, Nat.one_mul, Nat.mul_comm 2 Q, Nat.mul_assoc, ← Nat.pow_succ', ← i6]
            omega))
          have hset := Lib.hid (dig_set (k := k) i5 hyl)
          clear QS hdb hb0 hR hQ hRD hr2 hr2f q1 q2 i6 hge i2 hI hk hoo hkk hrr hlow hx0 hp hy0 hP HNV
          go_upto_region 14 with (first
            | (go_at_call 62; (with_reducible refine BI.out.mono ?_); rintro e w1 ⟨rfl, rfl⟩)
            | (go_at_call 61; (with_reducible refine TW.out.mono ?_); rintro e w2 ⟨A4, n4, c4, rfl, hs4, hb, hfr⟩; replace hBB := hBB.trans (hb.mono hBB.size); replace i1 := i1.below hb hgz)
            | (go_at_call 63; (with_reducible refine (CP.out _ hBB _ _ _ hs4).mono ?_); rintro e w3 ⟨rfl, hb3⟩; replace hBB := hBB.trans (hb3.mono hBB.size); replace i1 := i1.below hb3 i1.lt; replace hs4 := hs4.via hb3; replace hgz := i1.lt)
            | (go_at_call 32; go_loud ((with_reducible refine (MI.out _ hBB _ _ _ hs4).mono ?_); rintro e w4 ⟨A5, n5, c5, rfl, hs5, hb4, hfr5⟩; replace hBB := hBB.trans (hb4.mono hBB.size); replace i1 := i1.below hb4 i1.lt))
            | fail "no arm")
          have hc4 := hcg _ i1
          have hfz := i1.frozen k
          have hlt4 := i1.lt
          have hnxt : Hid (Below w.heap.size w ((w4.setCell ⟨w.heap.size, k, none⟩ (.int .u32 (y0 : Nat))).drew) ∧ DvI ((w4.setCell ⟨w.heap.size, k, none⟩ (.int .u32 (y0 : Nat))).drew) w.heap.size V D j n1 A5 n5 c5 (o.set k y0)) := by
            have hd5 := i1.set k y0
            have hs6 := hs5.apart (g := w.heap.size) (k := k) (fun ad e => by have := hfr5 ad e; omega) (.int .u32 (y0 : Nat))
            refine ⟨(hBB.setCell (p := ⟨w.heap.size, k, none⟩) (Nat.le_refl _) _).drew, hd5.below (Below.drew (Below.refl _ _)) hd5.lt, ?_, ?_, by simpa using i4, hset.out, hN.out.2⟩
            · rw [hN.out.1]
              exact (hs6.below (Below.drew (Below.refl _ _))).more (by simp [World.setCell, World.drew])
            · intro ad e
              have := hfr5 ad e
              omega
          go_region
          all_goals
            go_wp2_with fail
            refine ⟨⟨j, _, A5, n5, c5, o.set k y0, by omega, rfl, rfl, rfl, hnxt.out.1, Lib.hid hnxt.out.2⟩, ?_⟩
            simp [intOf]

theorem divide_any {A A2 : Option Addr} {n n2 c c2 B : Nat} {l m : List Nat} {w : World} (h : Sl w B A n c l) (h2 : Sl w B A2 n2 c2 m) (hB : B ≤ w.heap.size) (hl : Canon l) (hm : Canon m) (hn : n ≤ 64) (hn2 : n2 ≤ 64) (h0 : nval m ≠ 0) :
    Calls Tryz.prog 30 #[.slice A n c, .slice A2 n2 c2] w (RetQR (nval l / nval m) (nval l % nval m) w) := by
  by_cases hb : n ≤ 2 ∧ n2 ≤ 2
  · exact divide_small h h2 hB hb.1 hb.2 h0
  · rcases Nat.lt_or_ge (blen (nval l)) (blen (nval m)) with hlt | hge
    · exact divide_less h h2 hB hl hm hn hn2 hb hlt
    · exact divide_main h h2 hB hl hm hn hn2 h0 hb hge
end Go.Proofs.YthnickjbknpmhaaGreatDoor

namespace Go.Proofs.YthnickjbknpmhaaGreatDoor
open Go.RowKit Go.Shelf

theorem val_pos {m : List Nat} {n2 : Nat} (hm : Canon m) (hl : m.length = n2) (k0 : 0 < n2) : nval m ≠ 0 := fun h0 => by
  have := canon_zero hm h0
  rw [this] at hl
  simp at hl
  omega

set_option maxRecDepth 100000 in
set_option maxHeartbeats 1000000 in
theorem refdiv_no1 (neg neg2 : Bool) {A A2 : Option Addr} {n n2 c c2 B : Nat} {l : List Nat} {w : World} (h : Sl w B A n c l) (hB : B ≤ w.heap.size) (h1 : rightB neg l = false) :
    Calls Tryz.prog 10 #[.agg #[.bool neg, .slice A n c], .agg #[.bool neg2, .slice A2 n2 c2]] w (RetDiv none w) := by
  have R1 := Lib.hid (refright_to neg (h.more hB) false h1)
  have s0 := Sd.start (w := w) (neg := neg) (A := A) (n := n) (c := c) (neg2 := neg2) (A2 := A2) (n2 := n2) (c2 := c2)
  clear h h1
  go_enter Tryz.func10, Tryz.ntmps10
  go_wp2_with (go_at_call 29; refine (R1.out _ s0.below).mono ?_; rintro e w1 ⟨rfl, hb⟩; have s1 := s0.via hb; obtain ⟨a0, a1, b0, b1, q0, q1, qf, r0, r1, rf, rz⟩ := s1.facts)
  obtain ⟨p0, p1, p2, p3⟩ := four_set (.bool false) (.slice none 0 0) (.bool false) (.slice none 0 0) q0 q1 r0 r1 (by omega)
  refine bodyPost_ret (v := .tuple #[.agg #[.bool false, .slice none 0 0], .agg #[.bool false, .slice none 0 0], .bool false]) ?_ rfl ⟨_, _, _, _, _, _, rfl, by rw [show digs (dqO none).natAbs = [] from digs_zero]; exact Sl.none_, by rw [show digs (drO none).natAbs = [] from digs_zero]; exact Sl.none_, ?_⟩
  · simp [results, Tryz.f10, go_sem, p0, p1, p2, p3]
  · exact (((s1.below.setCell (by simp; omega) _).setCell (by simp; omega) _).setCell (by simp; omega) _).setCell (by simp; omega) _

set_option maxRecDepth 100000 in
set_option maxHeartbeats 1000000 in
theorem refdiv_no2 (neg neg2 : Bool) {A A2 : Option Addr} {n n2 c c2 B : Nat} {l m : List Nat} {w : World} (h : Sl w B A n c l) (h2 : Sl w B A2 n2 c2 m) (hB : B ≤ w.heap.size) (h1 : rightB neg l = true) (k1 : rightB neg2 m = false) :
    Calls Tryz.prog 10 #[.agg #[.bool neg, .slice A n c], .agg #[.bool neg2, .slice A2 n2 c2]] w (RetDiv none w) := by
  have R1 := Lib.hid (refright_to neg (h.more hB) true h1)
  have R2 := Lib.hid (refright_to neg2 (h2.more hB) false k1)
  have s0 := Sd.start (w := w) (neg := neg) (A := A) (n := n) (c := c) (neg2 := neg2) (A2 := A2) (n2 := n2) (c2 := c2)
  clear h h1 h2 k1
  go_enter Tryz.func10, Tryz.ntmps10
  go_wp2_with (first
    | (go_at_call 29; (with_reducible refine (R1.out _ s0.below).mono ?_); rintro e w1 ⟨rfl, hb⟩; have s1 := s0.via hb; obtain ⟨a0, a1, b0, b1, q0, q1, qf, r0, r1, rf, rz⟩ := s1.facts)
    | (go_at_call 29; (with_reducible refine (R2.out _ s1.below).mono ?_); rintro e w2 ⟨rfl, hb⟩; have s2 := s1.via hb; clear a0 a1 b0 b1 q0 q1 qf r0 r1 rf rz; obtain ⟨a0, a1, b0, b1, q0, q1, qf, r0, r1, rf, rz⟩ := s2.facts)
    | fail "no arm")
  obtain ⟨p0, p1, p2, p3⟩ := four_set (.bool false) (.slice none 0 0) (.bool false) (.slice none 0 0) q0 q1 r0 r1 (by omega)
  refine bodyPost_ret (v := .tuple #[.agg #[.bool false, .slice none 0 0], .agg #[.bool false, .slice none 0 0], .bool false]) ?_ rfl ⟨_, _, _, _, _, _, rfl, by rw [show digs (dqO none).natAbs = [] from digs_zero]; exact Sl.none_, by rw [show digs (drO none).natAbs = [] from digs_zero]; exact Sl.none_, ?_⟩
  · simp [results, Tryz.f10, go_sem, p0, p1, p2, p3]
  · exact (((s2.below.setCell (by simp; omega) _).setCell (by simp; omega) _).setCell (by simp; omega) _).setCell (by simp; omega) _

set_option maxRecDepth 100000 in
set_option maxHeartbeats 1000000 in
theorem refdiv_no3 (neg neg2 : Bool) {A A2 : Option Addr} {n n2 c c2 B : Nat} {l m : List Nat} {w : World} (h : Sl w B A n c l) (h2 : Sl w B A2 n2 c2 m) (hB : B ≤ w.heap.size) (h1 : rightB neg l = true) (k1 : rightB neg2 m = true) (k0 : m = []) :
    Calls Tryz.prog 10 #[.agg #[.bool neg, .slice A n c], .agg #[.bool neg2, .slice A2 n2 c2]] w (RetDiv none w) := by
  have hn0 : n2 = 0 := by rw [← h2.len, k0]; rfl
  subst hn0
  have R1 := Lib.hid (refright_to neg (h.more hB) true h1)
  have R2 := Lib.hid (refright_to neg2 (h2.more hB) true k1)
  have s0 := Sd.start (w := w) (neg := neg) (A := A) (n := n) (c := c) (neg2 := neg2) (A2 := A2) (n2 := 0) (c2 := c2)
  clear h h1 h2 k1 k0
  go_enter Tryz.func10, Tryz.ntmps10
  go_wp2_with (first
    | (go_at_call 29; (with_reducible refine (R1.out _ s0.below).mono ?_); rintro e w1 ⟨rfl, hb⟩; have s1 := s0.via hb; obtain ⟨a0, a1, b0, b1, q0, q1, qf, r0, r1, rf, rz⟩ := s1.facts)
    | (go_at_call 29; (with_reducible refine (R2.out _ s1.below).mono ?_); rintro e w2 ⟨rfl, hb⟩; have s2 := s1.via hb; clear a0 a1 b0 b1 q0 q1 qf r0 r1 rf rz; obtain ⟨a0, a1, b0, b1, q0, q1, qf, r0, r1, rf, rz⟩ := s2.facts)
    | fail "no arm")
  obtain ⟨p0, p1, p2, p3⟩ := four_set (.bool false) (.slice none 0 0) (.bool false) (.slice none 0 0) q0 q1 r0 r1 (by omega)
  refine bodyPost_ret (v := .tuple #[.agg #[.bool false, .slice none 0 0], .agg #[.bool false, .slice none 0 0], .bool false]) ?_ rfl ⟨_, _, _, _, _, _, rfl, by rw [show digs (dqO none).natAbs = [] from digs_zero]; exact Sl.none_, by rw [show digs (drO none).natAbs = [] from digs_zero]; exact Sl.none_, ?_⟩
  · simp [results, Tryz.f10, go_sem, p0, p1, p2, p3]
  · exact (((s2.below.setCell (by simp; omega) _).setCell (by simp; omega) _).setCell (by simp; omega) _).setCell (by simp; omega) _

set_option maxRecDepth 100000 in
set_option maxHeartbeats 2000000 in
theorem refdiv_plain (neg neg2 : Bool) {A A2 : Option Addr} {n n2 c c2 B : Nat} {l m : List Nat} {w : World} (h : Sl w B A n c l) (h2 : Sl w B A2 n2 c2 m) (hB : B ≤ w.heap.size) (h1 : rightB neg l = true) (k1 : rightB neg2 m = true) (k0 : 0 < n2) (hz : neg = false ∨ nval l % nval m = 0) :
    Calls Tryz.prog 10 #[.agg #[.bool neg, .slice A n c], .agg #[.bool neg2, .slice A2 n2 c2]] w (RetDiv (some (sgn (!(neg == neg2)) (nval l / nval m), sgn false (nval l % nval m))) w) := by
  have R1 := Lib.hid (refright_to neg (h.more hB) true h1)
  have R2 := Lib.hid (refright_to neg2 (h2.more hB) true k1)
  have hl := right_true h1 h.dig
  have hm := right_true k1 h2.dig
  have hn := hl.2.1
  rw [h.len] at hn
  have hn2 := hm.2.1
  rw [h2.len] at hn2
  have hlb : nval l < big := (canon_fits hl.1).1 hl.2.1
  have hmb : nval m < big := (canon_fits hm.1).1 hm.2.1
  have hqb : nval l / nval m < big := Nat.lt_of_le_of_lt (Nat.div_le_self _ _) hlb
  have hrb : nval l % nval m < big := Nat.lt_of_le_of_lt (Nat.mod_le _ _) hlb
  have OV := Lib.hid (fun (W : World) (hW : Below w.heap.size w W) => show Calls Tryz.prog 30 #[.slice A n c, .slice A2 n2 c2] W (RetQR (nval l / nval m) (nval l % nval m) W) from divide_any ((h.more hB).below hW) ((h2.more hB).below hW) hW.size hl.1 hm.1 hn hn2 (val_pos hm.1 h2.len k0))
  have s0 := Sd.start (w := w) (neg := neg) (A := A) (n := n) (c := c) (neg2 := neg2) (A2 := A2) (n2 := n2) (c2 := c2)
  have hne : ((n2 : Int) == 0) = false := by simp; omega
  have hne2 : (n2 : Int) ≠ 0 := by omega
  obtain ⟨q, hq⟩ : ∃ q, nval l / nval m = q := ⟨_, rfl⟩
  obtain ⟨r, hr⟩ : ∃ r, nval l % nval m = r := ⟨_, rfl⟩
  have hF : Hid (vO (fitO (sgn (!(neg == neg2)) q)) = sgn (!(neg == neg2)) q ∧ ngO (fitO (sgn (!(neg == neg2)) q)) = decide (sgn (!(neg == neg2)) q < 0) ∧ vO (fitO (sgn false r)) = sgn false r ∧ ngO (fitO (sgn false r)) = decide (sgn false r < 0)) := by
    have e1 := fit_ok (x := sgn (!(neg == neg2)) q) (by have : (sgn (!(neg == neg2)) q).natAbs = q := by (unfold sgn; split <;> simp)
                                                        rw [this, ← hq]; exact hqb)
    have e2 := fit_ok (x := sgn false r) (by have : (sgn false r).natAbs = r := by (unfold sgn; simp)
                                             rw [this, ← hr]; exact hrb)
    exact ⟨e1.1, e1.2, e2.1, e2.2⟩
  rw [hr] at hz
  rw [hq, hr] at OV ⊢
  clear h h1 h2 k1 hl hm hlb hmb hqb hrb hq hr hn k0
  have hguard : Hid (∀ {W : World} {B A n c}, Sl W B A n c (digs r) → neg = true → n = 0) := fun {W B A n c} hs hn => by
    rcases hz with hz | hz
    · rw [hn] at hz; cases hz
    · have := hs.len; rw [hz, digs_zero] at this; exact this.symm
  clear hz
  cases neg
  · clear hguard
    rw [show (!(false == neg2)) = neg2 by cases neg2 <;> rfl] at hF ⊢
    go_enter Tryz.func10, Tryz.ntmps10
    go_wp2_with (first
      | (go_at_call 29; (with_reducible refine (R1.out _ s0.below).mono ?_); rintro e w1 ⟨rfl, hb⟩; have s1 := s0.via hb; obtain ⟨a0, a1, b0, b1, q0, q1, qf, r0, r1, rf, rz⟩ := s1.facts)
      | (go_at_call 29; (with_reducible refine (R2.out _ s1.below).mono ?_); rintro e w2 ⟨rfl, hb⟩; have s2 := s1.via hb; clear a0 a1 b0 b1 q0 q1 qf r0 r1 rf rz; obtain ⟨a0, a1, b0, b1, q0, q1, qf, r0, r1, rf, rz⟩ := s2.facts)
      | (go_at_call 30; (with_reducible refine (OV.out _ s2.below).mono ?_); rintro e w3 ⟨A3, n3, c3, A4, n4, c4, rfl, hsq, hsr, hb3⟩; have s3 := s2.via hb3; clear a0 a1 b0 b1 q0 q1 qf r0 r1 rf rz; obtain ⟨a0, a1, b0, b1, q0, q1, qf, r0, r1, rf, rz⟩ := s3.facts)
      | (go_at_call 23; (with_reducible refine (signed_any A3 n3 c3 w3.heap.size _ _ _ w3 hsq (Nat.le_refl _) (nval_digs _)).mono ?_); rintro e w4 ⟨A5, n5, c5, rfl, hs5, hb4⟩; have s4 := s3.via hb4; clear a0 a1 b0 b1 q0 q1 qf r0 r1 rf rz; obtain ⟨a0, a1, b0, b1, q0, q1, qf, r0, r1, rf, rz⟩ := s4.facts)
      | (go_at_call 23; (with_reducible refine (signed_any A4 _ c4 w3.heap.size _ _ _ _ (hsr.below (hb4.alloc (Nat.le_trans hb4.size (Nat.le_refl _)) _)) (by have := hb4.size; simp; omega) (nval_digs _)).mono ?_); rintro e w5 ⟨A6, n6, c6, rfl, hs6, hb5⟩; have s5 := (s4.alloc _).via hb5; obtain ⟨e0, e1⟩ := S1.facts (w := w4) (A := A5) (n := n5) (c := c5) (hb5.mono (by simp)); have hz5 := hb5.size; (try simp at hz5); clear a0 a1 b0 b1 q0 q1 qf r0 r1 rf rz; obtain ⟨a0, a1, b0, b1, q0, q1, qf, r0, r1, rf, rz⟩ := s5.facts)
      | fail "no arm")
    have hy5 : w4.heap.size < w5.heap.size := by omega
    have s6 := s5.alloc (.cells #[.bool (ngO (fitO (sgn false r))), .slice A6 n6 c6] 26)
    have k0 := (World.cell?_alloc_lt w5 (.cells #[.bool (ngO (fitO (sgn false r))), .slice A6 n6 c6] 26) ⟨w4.heap.size, 0, none⟩ hy5).trans e0
    have k1 := (World.cell?_alloc_lt w5 (.cells #[.bool (ngO (fitO (sgn false r))), .slice A6 n6 c6] 26) ⟨w4.heap.size, 1, none⟩ hy5).trans e1
    obtain ⟨g0, g1⟩ := (S1.start (w := w5) (neg := ngO (fitO (sgn false r))) (A := A6) (n := n6) (c := c6)).facts
    have hs7 := (hs6.below ((Below.refl _ _).alloc (Nat.le_refl _) (.cells #[.bool (ngO (fitO (sgn false r))), .slice A6 n6 c6] 26))).more (B' := (w5.alloc (.cells #[.bool (ngO (fitO (sgn false r))), .slice A6 n6 c6] 26)).heap.size) (by simp)
    have hs8 := (hs5.below (((Below.refl _ _).alloc (Nat.le_refl _) _).trans ((hb5.mono (by simp)).alloc (by omega) (.cells #[.bool (ngO (fitO (sgn false r))), .slice A6 n6 c6] 26)))).more (B' := (w5.alloc (.cells #[.bool (ngO (fitO (sgn false r))), .slice A6 n6 c6] 26)).heap.size) (by simp; omega)
    obtain ⟨W6, hW6⟩ : ∃ W6, w5.alloc (.cells #[.bool (ngO (fitO (sgn false r))), .slice A6 n6 c6] 26) = W6 := ⟨_, rfl⟩
    rw [hW6] at s6 k0 k1 g0 g1 hs7 hs8 ⊢
    have y4 := s4.size
    have y5 := s5.size
    have y1 : w5.heap.size ≠ w.heap.size + 1 + 1 := by omega
    have y2 : w5.heap.size ≠ w.heap.size + 1 + 1 + 1 := by omega
    have y3 : w4.heap.size ≠ w.heap.size + 1 + 1 := by omega
    have y6 : w4.heap.size ≠ w.heap.size + 1 + 1 + 1 := by omega
    clear a0 a1 b0 b1 q0 q1 qf r0 r1 rf rz e0 e1 hs5 hs6 hW6
    obtain ⟨a0, a1, b0, b1, q0, q1, qf, r0, r1, rf, rz⟩ := s6.facts
    go_region
    go_wp2_with fail
    obtain ⟨f1, f2, f3, f4⟩ := hF.out
    obtain ⟨p0, p1, p2, p3⟩ := four_set (.bool (ngO (fitO (sgn neg2 q)))) (.slice A5 n5 c5) (.bool (ngO (fitO (sgn false r)))) (.slice A6 n6 c6) q0 q1 r0 r1 (by omega)
    rw [f1] at hs8
    rw [f3] at hs7
    refine bodyPost_ret (v := .tuple #[.agg #[.bool (ngO (fitO (sgn neg2 q))), .slice A5 n5 c5], .agg #[.bool (ngO (fitO (sgn false r))), .slice A6 n6 c6], .bool true]) ?_ rfl ⟨A5, n5, c5, A6, n6, c6, by rw [f2, f4]; rfl, ?_, ?_, ?_⟩
    · simp [results, Tryz.f10, go_sem, p0, p1, p2, p3]
    · exact hs8.stored4 q0 q1 r0 r1 (by omega) _ _ _ _
    · exact hs7.stored4 q0 q1 r0 r1 (by omega) _ _ _ _
    · exact ((((s6.below.setCell (by simp; omega) _).setCell (by simp; omega) _).setCell (by simp; omega) _).setCell (by simp; omega) _).drew
  · have hG : Hid (∀ {W : World} {B : Nat} {A : Option Addr} {n c : Nat}, Sl W B A n c (digs r) → n = 0) := Lib.hid (fun hs => hguard.out hs rfl)
    clear hguard
    rw [show (!(true == neg2)) = !neg2 by cases neg2 <;> rfl] at hF ⊢
    go_enter Tryz.func10, Tryz.ntmps10
    go_wp2_with (first
      | (go_at_call 29; (with_reducible refine (R1.out _ s0.below).mono ?_); rintro e w1 ⟨rfl, hb⟩; have s1 := s0.via hb; obtain ⟨a0, a1, b0, b1, q0, q1, qf, r0, r1, rf, rz⟩ := s1.facts)
      | (go_at_call 29; (with_reducible refine (R2.out _ s1.below).mono ?_); rintro e w2 ⟨rfl, hb⟩; have s2 := s1.via hb; clear a0 a1 b0 b1 q0 q1 qf r0 r1 rf rz; obtain ⟨a0, a1, b0, b1, q0, q1, qf, r0, r1, rf, rz⟩ := s2.facts)
      | (go_at_call 30; (with_reducible refine (OV.out _ s2.below).mono ?_); rintro e w3 ⟨A3, n3, c3, A4, n4, c4, rfl, hsq, hsr, hb3⟩; have s3 := s2.via hb3; clear a0 a1 b0 b1 q0 q1 qf r0 r1 rf rz; obtain ⟨a0, a1, b0, b1, q0, q1, qf, r0, r1, rf, rz⟩ := s3.facts; obtain rfl := hG.out hsr)
      | (go_at_call 23; (with_reducible refine (signed_any A3 n3 c3 w3.heap.size _ _ _ w3 hsq (Nat.le_refl _) (nval_digs _)).mono ?_); rintro e w4 ⟨A5, n5, c5, rfl, hs5, hb4⟩; have s4 := s3.via hb4; clear a0 a1 b0 b1 q0 q1 qf r0 r1 rf rz; obtain ⟨a0, a1, b0, b1, q0, q1, qf, r0, r1, rf, rz⟩ := s4.facts)
      | (go_at_call 23; (with_reducible refine (signed_any A4 _ c4 w3.heap.size _ _ _ _ (hsr.below (hb4.alloc (Nat.le_trans hb4.size (Nat.le_refl _)) _)) (by have := hb4.size; simp; omega) (nval_digs _)).mono ?_); rintro e w5 ⟨A6, n6, c6, rfl, hs6, hb5⟩; have s5 := (s4.alloc _).via hb5; obtain ⟨e0, e1⟩ := S1.facts (w := w4) (A := A5) (n := n5) (c := c5) (hb5.mono (by simp)); have hz5 := hb5.size; (try simp at hz5); clear a0 a1 b0 b1 q0 q1 qf r0 r1 rf rz; obtain ⟨a0, a1, b0, b1, q0, q1, qf, r0, r1, rf, rz⟩ := s5.facts)
      | fail "no arm")
    have hy5 : w4.heap.size < w5.heap.size := by omega
    have s6 := s5.alloc (.cells #[.bool (ngO (fitO (sgn false r))), .slice A6 n6 c6] 26)
    have k0 := (World.cell?_alloc_lt w5 (.cells #[.bool (ngO (fitO (sgn false r))), .slice A6 n6 c6] 26) ⟨w4.heap.size, 0, none⟩ hy5).trans e0
    have k1 := (World.cell?_alloc_lt w5 (.cells #[.bool (ngO (fitO (sgn false r))), .slice A6 n6 c6] 26) ⟨w4.heap.size, 1, none⟩ hy5).trans e1
    obtain ⟨g0, g1⟩ := (S1.start (w := w5) (neg := ngO (fitO (sgn false r))) (A := A6) (n := n6) (c := c6)).facts
    have hs7 := (hs6.below ((Below.refl _ _).alloc (Nat.le_refl _) (.cells #[.bool (ngO (fitO (sgn false r))), .slice A6 n6 c6] 26))).more (B' := (w5.alloc (.cells #[.bool (ngO (fitO (sgn false r))), .slice A6 n6 c6] 26)).heap.size) (by simp)
    have hs8 := (hs5.below (((Below.refl _ _).alloc (Nat.le_refl _) _).trans ((hb5.mono (by simp)).alloc (by omega) (.cells #[.bool (ngO (fitO (sgn false r))), .slice A6 n6 c6] 26)))).more (B' := (w5.alloc (.cells #[.bool (ngO (fitO (sgn false r))), .slice A6 n6 c6] 26)).heap.size) (by simp; omega)
    obtain ⟨W6, hW6⟩ : ∃ W6, w5.alloc (.cells #[.bool (ngO (fitO (sgn false r))), .slice A6 n6 c6] 26) = W6 := ⟨_, rfl⟩
    rw [hW6] at s6 k0 k1 g0 g1 hs7 hs8 ⊢
    have y4 := s4.size
    have y5 := s5.size
    have y1 : w5.heap.size ≠ w.heap.size + 1 + 1 := by omega
    have y2 : w5.heap.size ≠ w.heap.size + 1 + 1 + 1 := by omega
    have y3 : w4.heap.size ≠ w.heap.size + 1 + 1 := by omega
    have y6 : w4.heap.size ≠ w.heap.size + 1 + 1 + 1 := by omega
    clear a0 a1 b0 b1 q0 q1 qf r0 r1 rf rz e0 e1 hs5 hs6 hW6
    obtain ⟨a0, a1, b0, b1, q0, q1, qf, r0, r1, rf, rz⟩ := s6.facts
    go_region
    go_wp2_with fail
    obtain ⟨f1, f2, f3, f4⟩ := hF.out
    obtain ⟨p0, p1, p2, p3⟩ := four_set (.bool (ngO (fitO (sgn (!neg2) q)))) (.slice A5 n5 c5) (.bool (ngO (fitO (sgn false r)))) (.slice A6 n6 c6) q0 q1 r0 r1 (by omega)
    rw [f1] at hs8
    rw [f3] at hs7
    refine bodyPost_ret (v := .tuple #[.agg #[.bool (ngO (fitO (sgn (!neg2) q))), .slice A5 n5 c5], .agg #[.bool (ngO (fitO (sgn false r))), .slice A6 n6 c6], .bool true]) ?_ rfl ⟨A5, n5, c5, A6, n6, c6, by rw [f2, f4]; rfl, ?_, ?_, ?_⟩
    · simp [results, Tryz.f10, go_sem, p0, p1, p2, p3]
    · exact hs8.stored4 q0 q1 r0 r1 (by omega) _ _ _ _
    · exact hs7.stored4 q0 q1 r0 r1 (by omega) _ _ _ _
    · exact ((((s6.below.setCell (by simp; omega) _).setCell (by simp; omega) _).setCell (by simp; omega) _).setCell (by simp; omega) _).drew

set_option maxRecDepth 100000 in
set_option maxHeartbeats 2000000 in
theorem refdiv_up (neg2 : Bool) {A A2 : Option Addr} {n n2 c c2 B : Nat} {l m : List Nat} {w : World} (h : Sl w B A n c l) (h2 : Sl w B A2 n2 c2 m) (hB : B ≤ w.heap.size) (h1 : rightB true l = true) (k1 : rightB neg2 m = true) (k0 : 0 < n2) (hz : 0 < nval l % nval m) :
    Calls Tryz.prog 10 #[.agg #[.bool true, .slice A n c], .agg #[.bool neg2, .slice A2 n2 c2]] w (RetDiv (some (sgn (!neg2) (nval l / nval m + 1), sgn false (nval m - nval l % nval m))) w) := by
  have R1 := Lib.hid (refright_to true (h.more hB) true h1)
  have R2 := Lib.hid (refright_to neg2 (h2.more hB) true k1)
  have hl := right_true h1 h.dig
  have hm := right_true k1 h2.dig
  have hn := hl.2.1
  have hn2 := hm.2.1
  rw [h.len] at hn
  rw [h2.len] at hn2
  have hV0 : 0 < nval m := by
    rcases Nat.eq_zero_or_pos (nval m) with h0 | h0
    · have := canon_zero hm.1 h0; rw [← h2.len, this] at k0; simp at k0
    · exact h0
  have hlb : nval l < big := (canon_fits hl.1).1 hl.2.1
  have hmb : nval m < big := (canon_fits hm.1).1 hm.2.1
  have hqb : nval l / nval m + 1 < big := Nat.lt_of_le_of_lt (up_fits hV0 hz) hlb
  have hrl := Nat.mod_lt (nval l) hV0
  have hrb : nval m - nval l % nval m < big := by omega
  have OV := Lib.hid (fun (W : World) (hW : Below w.heap.size w W) => show Calls Tryz.prog 30 #[.slice A n c, .slice A2 n2 c2] W (RetQR (nval l / nval m) (nval l % nval m) W) from divide_any ((h.more hB).below hW) ((h2.more hB).below hW) hW.size hl.1 hm.1 hn hn2 (val_pos hm.1 h2.len k0))
  have s0 := Sd.start (w := w) (neg := true) (A := A) (n := n) (c := c) (neg2 := neg2) (A2 := A2) (n2 := n2) (c2 := c2)
  have hne : ((n2 : Int) == 0) = false := by simp; omega
  have hne2 : (n2 : Int) ≠ 0 := by omega
  have H2 := Lib.hid (h2.more hB)
  have hc2 : Hid (Canon m) := Lib.hid hm.1
  obtain ⟨q, hq⟩ : ∃ q, nval l / nval m = q := ⟨_, rfl⟩
  obtain ⟨r, hr⟩ : ∃ r, nval l % nval m = r := ⟨_, rfl⟩
  obtain ⟨V, hV⟩ : ∃ V, nval m = V := ⟨_, rfl⟩
  rw [hq] at hqb
  rw [hr] at hrb hrl hz
  rw [hq, hr] at OV ⊢
  rw [hV] at hrb hrl ⊢
  have hF : Hid (vO (fitO (sgn (!neg2) (q + 1))) = sgn (!neg2) (q + 1) ∧ ngO (fitO (sgn (!neg2) (q + 1))) = decide (sgn (!neg2) (q + 1) < 0) ∧ vO (fitO (sgn false (V - r))) = sgn false (V - r) ∧ ngO (fitO (sgn false (V - r))) = decide (sgn false (V - r) < 0)) := by
    have e1 := fit_ok (x := sgn (!neg2) (q + 1)) (by have : (sgn (!neg2) (q + 1)).natAbs = q + 1 := by (unfold sgn; split <;> omega)
                                                     rw [this]; exact hqb)
    have e2 := fit_ok (x := sgn false (V - r)) (by have : (sgn false (V - r)).natAbs = V - r := by (unfold sgn; simp)
                                                   rw [this]; exact hrb)
    exact ⟨e1.1, e1.2, e2.1, e2.2⟩
  have hq64 : Hid (∀ {W : World} {B : Nat} {A : Option Addr} {n c : Nat}, Sl W B A n c (digs q) → n ≤ 1000) := Lib.hid (fun hs => by
    have h1 := (digs_fits q).2 (show q < 4294967296 ^ 64 from Nat.lt_trans (by omega) hqb)
    rw [hs.len] at h1; omega)
  have hr64 : Hid (∀ {W : World} {B : Nat} {A : Option Addr} {n c : Nat}, Sl W B A n c (digs r) → n ≤ n2 ∧ 0 < n) := Lib.hid (fun hs => by
    have h1 := canon_len_le (digs_canon r) hc2.out.1 (by rw [nval_digs, hV]; omega)
    rw [hs.len, h2.len] at h1
    refine ⟨h1, ?_⟩
    rw [← hs.len]
    rcases Nat.eq_zero_or_pos (digs r).length with h0 | h0
    · have := digs_nil.1 (List.eq_nil_of_length_eq_zero h0); omega
    · exact h0)
  clear h h1 h2 k1 hl hm hlb hmb hqb hrb hq hr hn k0 hV0
  go_enter Tryz.func10, Tryz.ntmps10
  go_upto_region 5 with (first
    | (go_at_call 29; (with_reducible refine (R1.out _ s0.below).mono ?_); rintro e w1 ⟨rfl, hb⟩; have s1 := s0.via hb; obtain ⟨a0, a1, b0, b1, q0, q1, qf, r0, r1, rf, rz⟩ := s1.facts)
    | (go_at_call 29; (with_reducible refine (R2.out _ s1.below).mono ?_); rintro e w2 ⟨rfl, hb⟩; have s2 := s1.via hb; clear a0 a1 b0 b1 q0 q1 qf r0 r1 rf rz; obtain ⟨a0, a1, b0, b1, q0, q1, qf, r0, r1, rf, rz⟩ := s2.facts)
    | (go_at_call 30; (with_reducible refine (OV.out _ s2.below).mono ?_); rintro e w3 ⟨A3, n3, c3, A4, n4, c4, rfl, hsq, hsr, hb3⟩; have s3 := s2.via hb3; clear a0 a1 b0 b1 q0 q1 qf r0 r1 rf rz; obtain ⟨a0, a1, b0, b1, q0, q1, qf, r0, r1, rf, rz⟩ := s3.facts; have hn4 : (0 : Int) < n4 := by (have := (hr64.out hsr).2; omega))
    | fail "no arm")
  have PL := Lib.hid (fun (W : World) (g : Nat) (hW : Below w3.heap.size w3 W) (hD : DBk W g 40 [1]) => show Calls Tryz.prog 31 #[.slice A3 n3 c3, .slice (some ⟨g, 0, none⟩) 1 1] W (RetD (q + 1) W) from by
    have := refplus_any A3 (some ⟨g, 0, none⟩) n3 c3 1 1 W.heap.size (digs q) [1] W ((hsq.below hW).more hW.size) (hD.sl (B := W.heap.size) (by intro d hd; simp at hd; omega) hD.lt (by simp)) (Nat.le_refl _) (hq64.out hsq) (by simp)
    rw [nval_digs, show nval [1] = 1 from rfl] at this
    exact this)
  have MI := Lib.hid (fun (W : World) (hW : Below w3.heap.size w3 W) => show Calls Tryz.prog 32 #[.slice A2 n2 c2, .slice A4 n4 c4] W (RetD (V - r) W) from by
    have := refminus_any A2 A4 n2 c2 n4 c4 W.heap.size m (digs r) W ((H2.out.below (s3.below.trans (hW.mono s3.below.size))).more (Nat.le_trans s3.below.size hW.size)) ((hsr.below hW).more hW.size) (Nat.le_refl _) (by omega) (hr64.out hsr).1 (by rw [nval_digs, hV]; omega)
    rw [nval_digs, hV] at this
    exact this)
  have u1 : Below w3.heap.size w3 (w3.alloc (.cells #[.int .u32 1] 40)) := (Below.refl _ _).alloc (Nat.le_refl _) _
  have d1 : DBk (w3.alloc (.cells #[.int .u32 1] 40)) w3.heap.size 40 [1] := heap_alloc_at w3 _ _ rfl
  have hd4 : decide (0 < n4) = true := by simp; omega
  simp only [hd4]
  go_upto_region 7 with (first
    | (go_at_call 31; go_loud ((with_reducible refine (PL.out _ _ u1 d1).mono ?_); rintro e w4 ⟨A5, n5, c5, rfl, hp, hb4⟩; have u4 := u1.trans (hb4.mono u1.size); have s4 := s3.via u4; clear a0 a1 b0 b1 q0 q1 qf r0 r1 rf rz; obtain ⟨a0, a1, b0, b1, q0, q1, qf, r0, r1, rf, rz⟩ := s4.facts))
    | (go_at_call 32; go_loud ((with_reducible refine (MI.out _ u4).mono ?_); rintro e wc ⟨A6, n6, c6, rfl, hmi, hb6⟩; have uc := u4.trans (hb6.mono u4.size); replace hp := (hp.below hb6).more hb6.size))
    | fail "no arm")
  clear hsq hsr
  have hsq := hp
  have hsr := hmi
  have sc := s3.via uc
  clear a0 a1 b0 b1 q0 q1 qf r0 r1 rf rz
  obtain ⟨a0, a1, b0, b1, q0, q1, qf, r0, r1, rf, rz⟩ := sc.facts
  go_wp2_with (first
    | (go_at_call 23; (with_reducible refine (signed_any A5 n5 c5 wc.heap.size _ _ _ wc hsq (Nat.le_refl _) (nval_digs _)).mono ?_); rintro e w4 ⟨A7, n7, c7, rfl, hs5, hb4⟩; have s4 := sc.via hb4; clear a0 a1 b0 b1 q0 q1 qf r0 r1 rf rz; obtain ⟨a0, a1, b0, b1, q0, q1, qf, r0, r1, rf, rz⟩ := s4.facts)
    | (go_at_call 23; (with_reducible refine (signed_any A6 n6 c6 wc.heap.size _ _ _ _ (hsr.below (hb4.alloc (Nat.le_trans hb4.size (Nat.le_refl _)) _)) (by have := hb4.size; simp; omega) (nval_digs _)).mono ?_); rintro e w5 ⟨A8, n8, c8, rfl, hs6, hb5⟩; have s5 := (s4.alloc _).via hb5; obtain ⟨e0, e1⟩ := S1.facts (w := w4) (A := A7) (n := n7) (c := c7) (hb5.mono (by simp)); have hz5 := hb5.size; (try simp at hz5); clear a0 a1 b0 b1 q0 q1 qf r0 r1 rf rz; obtain ⟨a0, a1, b0, b1, q0, q1, qf, r0, r1, rf, rz⟩ := s5.facts)
    | fail "no arm")
  have hy5 : w4.heap.size < w5.heap.size := by omega
  have s6 := s5.alloc (.cells #[.bool (ngO (fitO (sgn false (V - r)))), .slice A8 n8 c8] 26)
  have k0 := (World.cell?_alloc_lt w5 (.cells #[.bool (ngO (fitO (sgn false (V - r)))), .slice A8 n8 c8] 26) ⟨w4.heap.size, 0, none⟩ hy5).trans e0
  have k1 := (World.cell?_alloc_lt w5 (.cells #[.bool (ngO (fitO (sgn false (V - r)))), .slice A8 n8 c8] 26) ⟨w4.heap.size, 1, none⟩ hy5).trans e1
  obtain ⟨g0, g1⟩ := (S1.start (w := w5) (neg := ngO (fitO (sgn false (V - r)))) (A := A8) (n := n8) (c := c8)).facts
  have hs7 := (hs6.below ((Below.refl _ _).alloc (Nat.le_refl _) (.cells #[.bool (ngO (fitO (sgn false (V - r)))), .slice A8 n8 c8] 26))).more (B' := (w5.alloc (.cells #[.bool (ngO (fitO (sgn false (V - r)))), .slice A8 n8 c8] 26)).heap.size) (by simp)
  have hs8 := (hs5.below (((Below.refl _ _).alloc (Nat.le_refl _) _).trans ((hb5.mono (by simp)).alloc (by omega) (.cells #[.bool (ngO (fitO (sgn false (V - r)))), .slice A8 n8 c8] 26)))).more (B' := (w5.alloc (.cells #[.bool (ngO (fitO (sgn false (V - r)))), .slice A8 n8 c8] 26)).heap.size) (by simp; omega)
  obtain ⟨W6, hW6⟩ : ∃ W6, w5.alloc (.cells #[.bool (ngO (fitO (sgn false (V - r)))), .slice A8 n8 c8] 26) = W6 := ⟨_, rfl⟩
  rw [hW6] at s6 k0 k1 g0 g1 hs7 hs8 ⊢
  have y4 := s4.size
  have y5 := s5.size
  have y1 : w5.heap.size ≠ w.heap.size + 1 + 1 := by omega
  have y2 : w5.heap.size ≠ w.heap.size + 1 + 1 + 1 := by omega
  have y3 : w4.heap.size ≠ w.heap.size + 1 + 1 := by omega
  have y6 : w4.heap.size ≠ w.heap.size + 1 + 1 + 1 := by omega
  clear a0 a1 b0 b1 q0 q1 qf r0 r1 rf rz e0 e1 hs5 hs6 hW6
  obtain ⟨a0, a1, b0, b1, q0, q1, qf, r0, r1, rf, rz⟩ := s6.facts
  go_region
  go_wp2_with fail
  obtain ⟨f1, f2, f3, f4⟩ := hF.out
  obtain ⟨p0, p1, p2, p3⟩ := four_set (.bool (ngO (fitO (sgn (!neg2) (q + 1))))) (.slice A7 n7 c7) (.bool (ngO (fitO (sgn false (V - r))))) (.slice A8 n8 c8) q0 q1 r0 r1 (by omega)
  rw [f1] at hs8
  rw [f3] at hs7
  refine bodyPost_ret (v := .tuple #[.agg #[.bool (ngO (fitO (sgn (!neg2) (q + 1)))), .slice A7 n7 c7], .agg #[.bool (ngO (fitO (sgn false (V - r)))), .slice A8 n8 c8], .bool true]) ?_ rfl ⟨A7, n7, c7, A8, n8, c8, by rw [f2, f4]; rfl, ?_, ?_, ?_⟩
  · simp [results, Tryz.f10, go_sem, p0, p1, p2, p3]
  · exact hs8.stored4 q0 q1 r0 r1 (by omega) _ _ _ _
  · exact hs7.stored4 q0 q1 r0 r1 (by omega) _ _ _ _
  · exact ((((s6.below.setCell (by simp; omega) _).setCell (by simp; omega) _).setCell (by simp; omega) _).setCell (by simp; omega) _).drew
theorem refdiv_any (neg neg2 : Bool) {A A2 : Option Addr} {n n2 c c2 B : Nat} {l m : List Nat} {w : World} (h : Sl w B A n c l) (h2 : Sl w B A2 n2 c2 m) (hB : B ≤ w.heap.size) :
    Calls Tryz.prog 10 #[.agg #[.bool neg, .slice A n c], .agg #[.bool neg2, .slice A2 n2 c2]] w (RetDiv (divS neg l neg2 m) w) := by
  cases h1 : rightB neg l with
  | false => rw [show divS neg l neg2 m = none by unfold divS; rw [if_neg (by rw [h1]; simp)]]; exact refdiv_no1 neg neg2 h hB h1
  | true =>
    cases k1 : rightB neg2 m with
    | false => rw [show divS neg l neg2 m = none by unfold divS; rw [if_neg (by rw [k1]; simp)]]; exact refdiv_no2 neg neg2 h h2 hB h1 k1
    | true =>
      by_cases k0 : m = []
      · rw [show divS neg l neg2 m = none by unfold divS; rw [if_neg (by simp [k0])]]; exact refdiv_no3 neg neg2 h h2 hB h1 k1 k0
      · rw [show divS neg l neg2 m = some (sgn neg (nval l) / sgn neg2 (nval m), sgn neg (nval l) % sgn neg2 (nval m)) by unfold divS; rw [if_pos ⟨h1, k1, k0⟩]]
        have hn2 : 0 < n2 := by
          rw [← h2.len]; exact List.length_pos_iff.2 k0
        have hm := right_true k1 h2.dig
        have hV0 : 0 < nval m := by
          rcases Nat.eq_zero_or_pos (nval m) with h0 | h0
          · exact absurd (canon_zero hm.1 h0) k0
          · exact h0
        by_cases hz : neg = false ∨ nval l % nval m = 0
        · have := refdiv_plain neg neg2 h h2 hB h1 k1 hn2 hz
          rwa [div_signs hV0 neg neg2 hz] at this
        · have hz1 : neg = true := by cases neg <;> simp_all
          subst hz1
          have hz2 : 0 < nval l % nval m := by
            rcases Nat.eq_zero_or_pos (nval l % nval m) with h0 | h0
            · exact absurd (Or.inr h0) hz
            · exact h0
          have := refdiv_up neg2 h h2 hB h1 k1 hn2 hz2
          rwa [div_signs_up hV0 neg2 hz2] at this
end Go.Proofs.YthnickjbknpmhaaGreatDoor

namespace Go.Proofs.YthnickjbknpmhaaGreatDoor
open Go.RowKit Go.Shelf


set_option maxRecDepth 100000 in
set_option maxHeartbeats 1000000 in
theorem refgcd_no1 (neg neg2 : Bool) {A A2 : Option Addr} {n n2 c c2 B : Nat} {l : List Nat} {w : World} (h : Sl w B A n c l) (hB : B ≤ w.heap.size) (h1 : rightB neg l = false) :
    Calls Tryz.prog 12 #[.agg #[.bool neg, .slice A n c], .agg #[.bool neg2, .slice A2 n2 c2]] w (RetN none w) := by
  have R1 := Lib.hid (refright_to neg (h.more hB) false h1)
  have s0 := Sm.start (w := w) (neg := neg) (A := A) (n := n) (c := c) (neg2 := neg2) (A2 := A2) (n2 := n2) (c2 := c2)
  clear h h1
  go_enter Tryz.func12, Tryz.ntmps12
  go_wp2_with (go_at_call 29; refine (R1.out _ s0.below).mono ?_; rintro e w1 ⟨rfl, hb⟩; have s1 := s0.via hb; obtain ⟨a0, a1, b0, b1, r0, r1, rf, rz⟩ := s1.facts)
  obtain ⟨q0, q1⟩ := two_set (.bool false) (.slice none 0 0) r0 r1
  refine bodyPost_ret (v := .tuple #[.agg #[.bool false, .slice none 0 0], .bool false]) ?_ rfl ⟨_, _, _, rfl, by rw [show digs (vO none).natAbs = [] from digs_zero]; exact Sl.none_, ?_⟩
  · simp [results, Tryz.f12, go_sem, q0, q1]
  · exact (s1.below.setCell (by simp; omega) _).setCell (by simp; omega) _

set_option maxRecDepth 100000 in
set_option maxHeartbeats 1000000 in
theorem refgcd_no2 (neg neg2 : Bool) {A A2 : Option Addr} {n n2 c c2 B : Nat} {l m : List Nat} {w : World} (h : Sl w B A n c l) (h2 : Sl w B A2 n2 c2 m) (hB : B ≤ w.heap.size) (h1 : rightB neg l = true) (k1 : rightB neg2 m = false) :
    Calls Tryz.prog 12 #[.agg #[.bool neg, .slice A n c], .agg #[.bool neg2, .slice A2 n2 c2]] w (RetN none w) := by
  have R1 := Lib.hid (refright_to neg (h.more hB) true h1)
  have R2 := Lib.hid (refright_to neg2 (h2.more hB) false k1)
  have s0 := Sm.start (w := w) (neg := neg) (A := A) (n := n) (c := c) (neg2 := neg2) (A2 := A2) (n2 := n2) (c2 := c2)
  clear h h1 h2 k1
  go_enter Tryz.func12, Tryz.ntmps12
  go_wp2_with (first
    | (go_at_call 29; (with_reducible refine (R1.out _ s0.below).mono ?_); rintro e w1 ⟨rfl, hb⟩; have s1 := s0.via hb; obtain ⟨a0, a1, b0, b1, r0, r1, rf, rz⟩ := s1.facts)
    | (go_at_call 29; (with_reducible refine (R2.out _ s1.below).mono ?_); rintro e w2 ⟨rfl, hb⟩; have s2 := s1.via hb; clear a0 a1 b0 b1 r0 r1 rf rz; obtain ⟨a0, a1, b0, b1, r0, r1, rf, rz⟩ := s2.facts)
    | fail "no arm")
  obtain ⟨q0, q1⟩ := two_set (.bool false) (.slice none 0 0) r0 r1
  refine bodyPost_ret (v := .tuple #[.agg #[.bool false, .slice none 0 0], .bool false]) ?_ rfl ⟨_, _, _, rfl, by rw [show digs (vO none).natAbs = [] from digs_zero]; exact Sl.none_, ?_⟩
  · simp [results, Tryz.f12, go_sem, q0, q1]
  · exact (s2.below.setCell (by simp; omega) _).setCell (by simp; omega) _

set_option maxRecDepth 100000 in
set_option maxHeartbeats 2000000 in
theorem refgcd_yes (neg neg2 : Bool) {A A2 : Option Addr} {n n2 c c2 B : Nat} {l m : List Nat} {w : World} (h : Sl w B A n c l) (h2 : Sl w B A2 n2 c2 m) (hB : B ≤ w.heap.size) (h1 : rightB neg l = true) (k1 : rightB neg2 m = true) :
    Calls Tryz.prog 12 #[.agg #[.bool neg, .slice A n c], .agg #[.bool neg2, .slice A2 n2 c2]] w (RetN (fitO ((Nat.gcd (nval l) (nval m) : Nat) : Int)) w) := by
  have R1 := Lib.hid (refright_to neg (h.more hB) true h1)
  have R2 := Lib.hid (refright_to neg2 (h2.more hB) true k1)
  have hl := right_true h1 h.dig
  have hm := right_true k1 h2.dig
  have hlb : nval l < big := (canon_fits hl.1).1 hl.2.1
  have hmb : nval m < big := (canon_fits hm.1).1 hm.2.1
  have h' := Lib.hid (h.more hB)
  have h2' := Lib.hid (h2.more hB)
  have s0 := Sm.start (w := w) (neg := neg) (A := A) (n := n) (c := c) (neg2 := neg2) (A2 := A2) (n2 := n2) (c2 := c2)
  obtain ⟨G, hG⟩ : ∃ G, Nat.gcd (nval l) (nval m) = G := ⟨_, rfl⟩
  rw [hG]
  have I0 : Hid (∃ p q, l = digs p ∧ m = digs q ∧ Nat.gcd p q = G ∧ p < big ∧ q < big) := Lib.hid ⟨nval l, nval m, digs_of hl.1, digs_of hm.1, hG, hlb, hmb⟩
  clear h h1 h2 k1 hl hm hlb hmb hG
  go_enter Tryz.func12, Tryz.ntmps12
  go_wp2_with (first
    | (go_at_call 29; (with_reducible refine (R1.out _ s0.below).mono ?_); rintro e w1 ⟨rfl, hb⟩; have s1 := s0.via hb; obtain ⟨a0, a1, b0, b1, r0, r1, rf, rz⟩ := s1.facts)
    | (go_at_call 29; (with_reducible refine (R2.out _ s1.below).mono ?_); rintro e w2 ⟨rfl, hb⟩; have s2 := s1.via hb; clear a0 a1 b0 b1 r0 r1 rf rz; obtain ⟨a0, a1, b0, b1, r0, r1, rf, rz⟩ := s2.facts)
    | fail "no arm")
  have s3 := s2
  clear a0 a1 b0 b1 r0 r1 rf rz R1 R2
  go_loopw [6, 7] (fun x y wr => ∃ A3 n3 c3 p A4 n4 c4 q, x = .slice A3 n3 c3 ∧ y = .slice A4 n4 c4 ∧ Sm w neg A n c neg2 A2 n2 c2 wr ∧ Hid (Sl wr wr.heap.size A3 n3 c3 (digs p) ∧ Sl wr wr.heap.size A4 n4 c4 (digs q) ∧ Nat.gcd p q = G ∧ p < big ∧ q < big)) (fun _ y wr => slv wr y)
  case atStart =>
    obtain ⟨p, q, rfl, rfl, i1, i2, i3⟩ := I0.out
    exact ⟨A, n, c, p, A2, n2, c2, q, rfl, rfl, s3, Lib.hid ⟨(h'.out.below s3.below).more s3.below.size, (h2'.out.below s3.below).more s3.below.size, i1, i2, i3⟩⟩
  case round =>
    obtain ⟨A3, n3, c3, p, A4, n4, c4, q, rfl, rfl, sr, hI⟩ := hrel
    obtain ⟨a0, a1, b0, b1, r0, r1, rf, rz⟩ := sr.facts
    by_cases h6 : (0 : Int) < n4
    · have hq0 : 0 < q := by have := (none_digs hI.out.2.1).2; omega
      have OV : Hid (Calls Tryz.prog 30 #[.slice A3 n3 c3, .slice A4 n4 c4] wr (RetQR (p / q) (p % q) wr)) := by
        obtain ⟨i1, i2, i3, i4, i5⟩ := hI.out
        have := divide_any i1 i2 (Nat.le_refl _) (digs_canon p) (digs_canon q) (few_digs i1 i4) (few_digs i2 i5) (by rw [nval_digs]; omega)
        rw [nval_digs, nval_digs] at this
        exact Lib.hid this
      go_wp2_with (first
        | (go_at_call 30; (with_reducible refine (OV.out).mono ?_); rintro e w3 ⟨A5, n5, c5, A6, n6, c6, rfl, hsq, hsr, hb3⟩; have sr2 := sr.via hb3)
        | fail "no arm")
      obtain ⟨i1, i2, i3, i4, i5⟩ := hI.out
      refine ⟨⟨A4, n4, c4, q, A6, n6, c6, p % q, rfl, rfl, sr2, Lib.hid ⟨(i2.below hb3).more hb3.size, hsr, by rw [gcd_step]; exact i3, i5, Nat.lt_trans (Nat.mod_lt _ hq0) i5⟩⟩, ?_⟩
      rw [slv_eq hsr, slv_eq i2, nval_digs, nval_digs]
      exact Nat.mod_lt _ hq0
    · obtain rfl : n4 = 0 := by omega
      have hq0 : q = 0 := (none_digs hI.out.2.1).1 rfl
      obtain rfl : p = G := by have := hI.out.2.2.1; rwa [hq0, Nat.gcd_zero_right] at this
      have NU := Lib.hid (signed_any A3 n3 c3 wr.heap.size _ false _ wr hI.out.1 (Nat.le_refl _) (nval_digs _))
      clear hq0 hI
      go_wp2_with (first
        | (go_at_call 23; (with_reducible refine (NU.out).mono ?_); rintro e w2 ⟨A6, n6, c6, rfl, hs6, hb6⟩; have s6 := sr.via hb6; clear a0 a1 b0 b1 r0 r1 rf rz; obtain ⟨a0, a1, b0, b1, r0, r1, rf, rz⟩ := s6.facts)
        | fail "no arm")
      obtain ⟨q0, q1⟩ := two_set (.bool (ngO (fitO (sgn false p)))) (.slice A6 n6 c6) r0 r1
      refine bodyPost_ret (v := .tuple #[.agg #[.bool (ngO (fitO (sgn false p))), .slice A6 n6 c6], .bool (okO (fitO (sgn false p)))]) ?_ rfl ⟨_, _, _, rfl, ?_, ?_⟩
      · simp [results, Tryz.f12, go_sem, q0, q1]
      · exact hs6.stored r0 r1 _ _
      · exact (s6.below.setCell (by simp; omega) _).setCell (by simp; omega) _

theorem refgcd_any (neg neg2 : Bool) {A A2 : Option Addr} {n n2 c c2 B : Nat} {l m : List Nat} {w : World} (h : Sl w B A n c l) (h2 : Sl w B A2 n2 c2 m) (hB : B ≤ w.heap.size) :
    Calls Tryz.prog 12 #[.agg #[.bool neg, .slice A n c], .agg #[.bool neg2, .slice A2 n2 c2]] w (RetN (gcdS neg l neg2 m) w) := by
  cases h1 : rightB neg l with
  | false => rw [show gcdS neg l neg2 m = none by unfold gcdS; rw [if_neg (by rw [h1]; simp)]]; exact refgcd_no1 neg neg2 h hB h1
  | true =>
    cases k1 : rightB neg2 m with
    | false => rw [show gcdS neg l neg2 m = none by unfold gcdS; rw [if_neg (by rw [k1]; simp)]]; exact refgcd_no2 neg neg2 h h2 hB h1 k1
    | true =>
      rw [show gcdS neg l neg2 m = fitO ((Nat.gcd (nval l) (nval m) : Nat) : Int) by unfold gcdS; rw [if_pos ⟨h1, k1⟩]]
      exact refgcd_yes neg neg2 h h2 hB h1 k1
end Go.Proofs.YthnickjbknpmhaaGreatDoor
