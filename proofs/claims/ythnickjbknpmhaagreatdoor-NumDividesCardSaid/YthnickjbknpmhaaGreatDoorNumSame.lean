/-
  The contract of the reference's Same.
-/
import Derived.Test.YthnickjbknpmhaaGreatDoorNumU
import Derived.BigQuiet
namespace Go.Proofs.YthnickjbknpmhaaGreatDoor
open Go.RowKit Go.Shelf

/-- Whether two Nums are the same. -/
def sameB (neg : Bool) (l : List Nat) (neg2 : Bool) (m : List Nat) : Bool := decide (neg = neg2 ∧ l = m)
theorem S2.drewN {w W : World} {neg neg2 : Bool} {A A2 : Option Addr} {n c n2 c2 : Nat} (h : S2 w neg A n c neg2 A2 n2 c2 W) (k : Nat) : S2 w neg A n c neg2 A2 n2 c2 (W.drewN k) := below_drewN h k
theorem take_more {l m : List Nat} {k : Nat} (h : l.take k = m.take k) (hl : k < l.length) (hm : k < m.length) (hd : dg l k = dg m k) : l.take (k + 1) = m.take (k + 1) := by
  rw [List.take_succ_eq_append_getElem hl, List.take_succ_eq_append_getElem hm, h, ← dg_get hl, ← dg_get hm, hd]

set_option maxRecDepth 100000 in
set_option maxHeartbeats 2000000 in
theorem same_any (neg neg2 : Bool) {A A2 : Option Addr} {n n2 c c2 B : Nat} {l m : List Nat} {w : World} (h : Sl w B A n c l) (h2 : Sl w B A2 n2 c2 m) (hB : B ≤ w.heap.size) :
    Calls Tryz.prog 13 #[.agg #[.bool neg, .slice A n c], .agg #[.bool neg2, .slice A2 n2 c2]] w fun e w' => e = .returned (.bool (sameB neg l neg2 m)) ∧ Below w.heap.size w w' := by
  have s0 := S2.start (w := w) (neg := neg) (A := A) (n := n) (c := c) (neg2 := neg2) (A2 := A2) (n2 := n2) (c2 := c2)
  have HL := Lib.hid h.len
  have HL2 := Lib.hid h2.len
  have HC := Lib.hid h.2
  have H := Lib.hid (h.more hB)
  have H2 := Lib.hid (h2.more hB)
  clear h h2
  obtain ⟨a0, a1, b0, b1⟩ := s0.facts
  by_cases hne : neg = neg2
  · subst hne
    have hq : (neg != neg) = false := by simp
    by_cases hn : n = n2
    · subst hn
      have hq2 : ((n : Int) != n) = false := by simp
      go_enter Tryz.func13, Tryz.ntmps13
      go_wp2_with fail
      clear a0 a1 b0 b1
      go_loopw [5] (fun x W => ∃ k : Nat, k ≤ n ∧ x = .int .i64 k ∧ S2 w neg A n c neg A2 n c2 W ∧ Hid (l.take k = m.take k)) (fun x _ => n - (intOf x).toNat)
      case atStart => exact ⟨0, by omega, rfl, s0, Lib.hid rfl⟩
      case round =>
        obtain ⟨k, hk, rfl, sr, hI⟩ := hrel
        have hnm : (n : Int) ≤ 9223372036854775807 := by have := HC.out; omega
        obtain ⟨a0, a1, b0, b1⟩ := sr.facts
        by_cases hlt : (k : Int) < n
        · obtain ⟨ad, rfl, hb, hc⟩ := (H.out.below sr.below).at_ (k := k) (by omega)
          obtain ⟨ad2, rfl, hb2, hc2⟩ := (H2.out.below sr.below).at_ (k := k) (by omega)
          by_cases hd : dg l k = dg m k
          · have hdq : ((dg l k : Int) != (dg m k : Int)) = false := by rw [hd]; simp
            go_wp2_with fail
            go_quiet (fail)
            go_wp2_with fail
            have hI2 := take_more hI.out (by have := HL.out; omega) (by have := HL2.out; omega) hd
            go_roundw
            case rel => exact ⟨k + 1, by omega, rfl, sr.drewN nq, Lib.hid hI2⟩
            case measure => simp [intOf]; omega
          · have hdq : ((dg l k : Int) != (dg m k : Int)) = true := by simp; omega
            have hdi : ¬ (dg l k : Int) = (dg m k : Int) := by omega
            have hsm : Hid (sameB neg l neg m = false) := Lib.hid (by
              unfold sameB
              refine decide_eq_false ?_
              rintro ⟨_, rfl⟩
              exact hd rfl)
            go_wp2_with fail
            go_quiet (fail)
            go_wp2_with fail
            go_ret
            exact ⟨by rw [hsm.out]; rfl, below_drewN sr.below nq⟩
        · have hsm : Hid (sameB neg l neg m = true) := Lib.hid (by
            have h1 := hI.out
            have h3 := HL.out
            have h4 := HL2.out
            rw [List.take_of_length_le (by omega), List.take_of_length_le (by omega)] at h1
            unfold sameB
            exact decide_eq_true ⟨rfl, h1⟩)
          go_wp2_with fail
          go_ret
          exact ⟨by rw [hsm.out]; rfl, sr.below⟩
    · have hq2 : ((n : Int) != n2) = true := by simp; omega
      have hsm : Hid (sameB neg l neg m = false) := Lib.hid (by
        unfold sameB
        refine decide_eq_false ?_
        rintro ⟨_, rfl⟩
        exact hn (by rw [← HL.out, HL2.out]))
      go_enter Tryz.func13, Tryz.ntmps13
      go_wp2_with fail
      go_ret
      exact ⟨by rw [hsm.out]; rfl, s0.below⟩
  · have hq : (neg != neg2) = true := by simp [hne]
    have hsm : Hid (sameB neg l neg2 m = false) := Lib.hid (by
      unfold sameB
      refine decide_eq_false ?_
      rintro ⟨h, _⟩
      exact hne h)
    go_enter Tryz.func13, Tryz.ntmps13
    go_wp2_with fail
    go_ret
    exact ⟨by rw [hsm.out]; rfl, s0.below⟩
end Go.Proofs.YthnickjbknpmhaaGreatDoor
