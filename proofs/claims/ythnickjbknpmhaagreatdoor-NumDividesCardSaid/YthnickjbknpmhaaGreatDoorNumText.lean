/-
  The contract of Text: the decimal numeral.
-/
import Derived.Test.YthnickjbknpmhaaGreatDoorNumSlv
import Derived.Test.YthnickjbknpmhaaGreatDoorNumFu
namespace Go.Proofs.YthnickjbknpmhaaGreatDoor
open Go.RowKit Go.Shelf

/-- The table of powers of ten reads as laid, in all later memory. -/
def PowT (B : Nat) (w : World) : Prop := Lib.TabBelow Tryz.prog B w "internal/strconv.uint64pow10" .u64 Lib.pow10Tab
theorem PowT.below {B B' : Nat} {w w' : World} (h : PowT B w) (hb : Below B' w w') (hB : B ≤ B') : PowT B w' := fun w2 h2 => h w2 ((hb.mono hB).trans h2)
/-- What Text returns. -/
def textS (neg : Bool) (l : List Nat) : List UInt8 := if rightB neg l = true then Lib.itoa (sgn neg (nval l)) else []

def pz (r : Nat) : List UInt8 := Lib.repeatL [48] (9 - (Lib.decDigits r).length)
theorem pz_len (r : Nat) : (pz r).length ≤ 9 := by unfold pz; rw [Lib.repeatL_length]; simp
theorem bapp (a b : List UInt8) : ((⟨a.toArray⟩ : ByteArray) ++ (⟨b.toArray⟩ : ByteArray)) = ⟨(a ++ b).toArray⟩ := by
  apply ByteArray.ext
  simp [ByteArray.data_append]
theorem nine_sub {k : Nat} (h : k ≤ 9) : (9 - (k : Int)) = ((9 - k : Nat) : Int) := by omega
theorem repeat_zero (k : Nat) : Lib.repeatL [48] k = List.replicate k 48 := by
  induction k with
  | zero => rfl
  | succ k ih => rw [Lib.repeatL, ih]; rfl

set_option maxRecDepth 100000 in
set_option maxHeartbeats 1000000 in
theorem text_no (neg : Bool) {A : Option Addr} {n c B : Nat} {l : List Nat} {w : World} (h : Sl w B A n c l) (hB : B ≤ w.heap.size) (h1 : rightB neg l = false) :
    Calls Tryz.prog 22 #[.agg #[.bool neg, .slice A n c]] w fun e w' => e = .returned (.string ⟨#[]⟩) ∧ Below w.heap.size w w' := by
  have R1 := Lib.hid (right_at neg (h.more hB) false h1)
  have s0 := S1.start (w := w) (neg := neg) (A := A) (n := n) (c := c)
  clear h h1
  go_enter Tryz.func22, Tryz.ntmps22
  go_wp2_with (go_at_call 24; refine (R1.out _ s0.below).mono ?_; rintro e w1 ⟨rfl, hb⟩; have s1 := s0.via hb; obtain ⟨a0, a1⟩ := s1.facts)
  go_ret
  exact ⟨rfl, s1.below⟩

/-- What holds between two rounds of Text. -/
def TxI (W : World) (v : Nat) (A : Option Addr) (n c p : Nat) (t : List UInt8) : Prop := Sl W W.heap.size A n c (digs p) ∧ p < big ∧ dd v = dd p ++ t
theorem txI_len {v : Nat} {d t : List UInt8} (hv : v < big) (h : dd v = d ++ t) : t.length ≤ 640 := by
  by_cases h0 : v = 0
  · have h1 := congrArg List.length h
    rw [h0, dd_zero, List.length_append] at h1
    simp at h1; omega
  · have h1 := dec_len 640 v (by omega) (Nat.lt_trans hv big_dec)
    rw [dd_dec v h0, h, List.length_append] at h1
    omega
theorem txI_last {v p r : Nat} {t pt : List UInt8} (hp : p ≠ 0) (hq : p / 1000000000 = 0) (hr : r = p % 1000000000) (hpt : Lib.decDigits r = pt) (h : dd v = dd p ++ t) : dd v = dd (p / 1000000000) ++ (pt ++ t) := by
  rw [hq, dd_zero, List.nil_append, ← hpt, hr, show p % 1000000000 = p by omega, dd_dec p hp]; exact h
theorem txI_more {v p r : Nat} {t pt : List UInt8} (hq : p / 1000000000 ≠ 0) (hr : r = p % 1000000000) (hpt : Lib.decDigits r = pt) (h : dd v = dd p ++ t) : dd v = dd (p / 1000000000) ++ ((Lib.repeatL [48] (9 - pt.length) ++ pt) ++ t) := by
  have h1 := pad_dec 9 (p % 1000000000) (by omega) (Nat.mod_lt _ (by omega))
  rw [← hr, hpt] at h1
  have h2 := pad_mod 9 p
  rw [show (10 : Nat) ^ 9 = 1000000000 from rfl, ← hr] at h2
  rw [repeat_zero, h1, h2, ← List.append_assoc, ← dd_split 9 p hq]; exact h

attribute [local go_sem] bapp

set_option maxRecDepth 100000 in
set_option maxHeartbeats 2000000 in
theorem text_yes (neg : Bool) {A : Option Addr} {n c B : Nat} {l : List Nat} {w : World} (h : Sl w B A n c l) (hB : B ≤ w.heap.size) (hT : PowT B w) (h1 : rightB neg l = true) :
    Calls Tryz.prog 22 #[.agg #[.bool neg, .slice A n c]] w fun e w' => e = .returned (.string ⟨(Lib.itoa (sgn neg (nval l))).toArray⟩) ∧ Below w.heap.size w w' := by
  have R1 := Lib.hid (right_at neg (h.more hB) true h1)
  have hl := right_true h1 h.dig
  have hlb : nval l < big := (canon_fits hl.1).1 hl.2.1
  have hz : Hid (nval l = 0 → neg = false) := Lib.hid fun h0 => hl.2.2 (canon_zero hl.1 h0)
  have H := Lib.hid (h.more hB)
  have HT := Lib.hid hT
  have s0 := S1.start (w := w) (neg := neg) (A := A) (n := n) (c := c)
  have hd : l = digs (nval l) := digs_of hl.1
  obtain ⟨v, hv⟩ : ∃ v, nval l = v := ⟨_, rfl⟩
  rw [hv] at hd hz hlb ⊢
  subst hd
  clear h h1 hl hT hv
  go_enter Tryz.func22, Tryz.ntmps22
  go_wp2_with (go_at_call 24; refine (R1.out _ s0.below).mono ?_; rintro e w1 ⟨rfl, hb⟩; have s1 := s0.via hb; obtain ⟨a0, a1⟩ := s1.facts)
  go_loopw [3, 4] (fun x y wr => ∃ t A3 n3 c3 p, x = .string ⟨List.toArray t⟩ ∧ y = .slice A3 n3 c3 ∧ S1 w neg A n c wr ∧ Hid (TxI wr v A3 n3 c3 p t)) (fun _ y wr => slv wr y)
  case atStart =>
    exact ⟨[], A, n, c, v, rfl, rfl, s1, Lib.hid ⟨(H.out.below s1.below).more s1.below.size, hlb, by simp⟩⟩
  case round =>
    obtain ⟨t, A3, n3, c3, p, rfl, rfl, sr, hI⟩ := hrel
    obtain ⟨a0, a1⟩ := sr.facts
    have htl := txI_len hlb hI.out.2.2
    by_cases hbr : 0 < n3
    · have hp0 : p ≠ 0 := fun e => by have := (none_digs hI.out.1).2 e; omega
      have SM := Lib.hid (small_any A3 n3 c3 wr.heap.size 1000000000 (digs p) wr hI.out.1 (Nat.le_refl _) (by have := few_digs hI.out.1 hI.out.2.1; omega) (by omega) (by omega))
      rw [nval_digs, show ((1000000000 : Nat) : Int) = 1000000000 from rfl] at SM
      have FU := Lib.hid (fun (W : World) (r : Nat) (hW : Below w.heap.size w W) (hr : r < 1000000000) => fu_any r (by omega) W (HT.out W (hW.mono hB)))
      have hn0 : (0 : Int) < n3 := by omega
      by_cases hq : p / 1000000000 = 0
      · go_wp2_with (first
          | (go_at_call 45; (with_reducible refine (SM.out).mono ?_); rintro e w3 ⟨A5, n5, c5, r, rfl, hr, hr2, hs5, hb3⟩; have sr2 := sr.via hb3; clear a0 a1; obtain ⟨a0, a1⟩ := sr2.facts; have hn5 : ¬ (0 : Int) < n5 := by (have := (none_digs hs5).2 hq; omega))
          | (go_at_call 46; (with_reducible refine (FU.out _ _ sr2.below hr2).mono ?_); rintro e w4 ⟨rfl, hb4⟩; have sr3 := sr2.via hb4; clear a0 a1; obtain ⟨a0, a1⟩ := sr3.facts; have hlen := dec_len 9 r (by omega) hr2)
          | fail "no arm")
        have hI2 := txI_last hp0 hq hr.out rfl hI.out.2.2
        refine ⟨⟨Lib.decDigits r ++ t, A5, n5, c5, p / 1000000000, rfl, rfl, sr3, Lib.hid ⟨(hs5.below hb4).more hb4.size, Nat.lt_of_le_of_lt (Nat.div_le_self _ _) hI.out.2.1, hI2⟩⟩, ?_⟩
        rw [slv_eq (hs5.below hb4), slv_eq hI.out.1, nval_digs, nval_digs]
        omega
      · have RP := Lib.hid (fun (W : World) (r : Nat) => show Calls Tryz.prog 47 #[.string ⟨#[48]⟩, .int .i64 ((9 - (Lib.decDigits r).length : Nat) : Int)] W fun e w' => e = .returned (.string ⟨(pz r).toArray⟩) ∧ Below W.heap.size W w' from Tryz.strings_Repeat ⟨#[48]⟩ (9 - (Lib.decDigits r).length) W (by omega) (by simp [ByteArray.size]; omega))
        go_wp2_with (first
          | (go_at_call 45; (with_reducible refine (SM.out).mono ?_); rintro e w3 ⟨A5, n5, c5, r, rfl, hr, hr2, hs5, hb3⟩; have sr2 := sr.via hb3; clear a0 a1; obtain ⟨a0, a1⟩ := sr2.facts; have hn5 : (0 : Int) < n5 := by (have := (none_digs hs5).1; omega))
          | (go_at_call 46; (with_reducible refine (FU.out _ _ sr2.below hr2).mono ?_); rintro e w4 ⟨rfl, hb4⟩; have sr3 := sr2.via hb4; clear a0 a1; obtain ⟨a0, a1⟩ := sr3.facts; have hlen := dec_len 9 r (by omega) hr2; have hwr := Lib.hid (nine_sub hlen))
          | (go_at_call 47; rw [hwr.out]; (with_reducible refine (RP.out _ r).mono ?_); rintro e w5 ⟨rfl, hb5⟩; have hpz := pz_len r; have sr4 := sr3.via hb5; clear a0 a1; obtain ⟨a0, a1⟩ := sr4.facts)
          | fail "no arm")
        have hI2 := txI_more hq hr.out rfl hI.out.2.2
        have hs6 := hs5.below (hb4.trans (hb5.mono hb4.size))
        refine ⟨⟨pz r ++ (Lib.decDigits r ++ t), A5, n5, c5, p / 1000000000, rfl, rfl, sr4, Lib.hid ⟨hs6.more (Nat.le_trans hb4.size hb5.size), Nat.lt_of_le_of_lt (Nat.div_le_self _ _) hI.out.2.1, by rw [hI2, List.append_assoc]; rfl⟩⟩, ?_⟩
        rw [slv_eq hs6, slv_eq hI.out.1, nval_digs, nval_digs]
        omega
    · have hp0 : p = 0 := (none_digs hI.out.1).1 (by omega)
      have htv : Hid (t = dd v) := by
        have := hI.out.2.2
        rw [hp0, dd_zero, List.nil_append] at this
        exact Lib.hid this.symm
      have hn0 : ¬ (0 : Int) < n3 := by omega
      clear hp0 hI hbr
      by_cases hv0 : v = 0
      · obtain rfl : neg = false := hz.out hv0
        obtain rfl : t = [] := by rw [htv.out, hv0, dd_zero]
        go_wp2_with fail
        go_ret
        have e0 : Lib.itoa (sgn false 0) = [48] := by rw [show sgn false 0 = 0 from rfl, Lib.itoa, if_neg (by omega)]; exact dec_zero
        exact ⟨by subst hv0; rw [e0]; rfl, sr.below⟩
      · have hne : t ≠ [] := by
          intro e
          have h1 := dval_dd v
          rw [← htv.out, e] at h1
          exact hv0 h1.symm
        have hit : Hid (∀ b : Bool, Lib.itoa (sgn b v) = if b then 45 :: t else t) := by
          intro b
          cases b
          · rw [show sgn false v = (v : Int) from rfl, Lib.itoa, if_neg (by omega), Int.toNat_natCast, dd_dec v hv0, htv.out]; rfl
          · rw [show sgn true v = -(v : Int) from rfl, Lib.itoa, if_pos (by omega), Int.natAbs_neg, Int.natAbs_natCast, dd_dec v hv0, htv.out]; rfl
        clear hv0 hz htv
        obtain ⟨t0, t1, rfl⟩ : ∃ t0 t1, t = t0 :: t1 := by
          cases t with
          | nil => exact absurd rfl hne
          | cons a b => exact ⟨a, b, rfl⟩
        have htl2 : t1.length + 1 ≤ 640 := htl
        clear htl
        cases neg
        · go_wp2_with fail
          go_ret
          exact ⟨by rw [hit.out]; rfl, sr.below⟩
        · go_wp2_with fail
          go_ret
          exact ⟨by rw [hit.out]; rfl, sr.below⟩

theorem text_any (neg : Bool) {A : Option Addr} {n c B : Nat} {l : List Nat} {w : World} (h : Sl w B A n c l) (hB : B ≤ w.heap.size) (hT : PowT B w) :
    Calls Tryz.prog 22 #[.agg #[.bool neg, .slice A n c]] w fun e w' => e = .returned (.string ⟨(textS neg l).toArray⟩) ∧ Below w.heap.size w w' := by
  cases h1 : rightB neg l with
  | false => rw [show textS neg l = [] by unfold textS; rw [h1]; rfl]; exact text_no neg h hB h1
  | true => rw [show textS neg l = Lib.itoa (sgn neg (nval l)) by unfold textS; rw [h1]; rfl]; exact text_yes neg h hB hT h1
end Go.Proofs.YthnickjbknpmhaaGreatDoor
