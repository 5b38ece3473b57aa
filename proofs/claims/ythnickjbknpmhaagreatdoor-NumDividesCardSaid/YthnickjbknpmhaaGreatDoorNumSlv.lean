/-
  The value that a slice of digits reads as; digits of numbers that fit are few.
-/
import Derived.Test.YthnickjbknpmhaaGreatDoorNumV
namespace Go.Proofs.YthnickjbknpmhaaGreatDoor
open Go.RowKit Go.Shelf

/-- The digits of a number that fits are few. -/
theorem few_digs {W : World} {B p n c : Nat} {A : Option Addr} (h : Sl W B A n c (digs p)) (hp : p < big) : n ≤ 64 := by
  have h1 := (digs_fits p).2 hp
  rw [h.len] at h1; exact h1
theorem none_digs {W : World} {B p n c : Nat} {A : Option Addr} (h : Sl W B A n c (digs p)) : n = 0 ↔ p = 0 := by
  rw [← digs_nil (v := p), ← h.len]
  exact List.length_eq_zero_iff
/-- The value that a slice of digits reads as. -/
def cellN (W : World) (p : Addr) : Nat := match W.cell? p with
  | some (.int _ d) => d.toNat
  | _ => 0
def slv (W : World) (v : Value) : Nat := match v with
  | .slice (some ad) n _ => nval ((List.range n).map fun j => cellN W (ad.add j))
  | _ => 0
theorem slv_eq {W : World} {B n c : Nat} {A : Option Addr} {l : List Nat} (h : Sl W B A n c l) : slv W (.slice A n c) = nval l := by
  have hl := h.len
  cases A with
  | none =>
    have h0 : n = 0 := by
      rcases Nat.eq_zero_or_pos n with h0 | h0
      · exact h0
      · obtain ⟨ad, e, _⟩ := h.at_ h0; cases e
    rw [h0] at hl
    rw [List.eq_nil_of_length_eq_zero hl]; rfl
  | some ad =>
    have e : (List.range n).map (fun j => cellN W (ad.add j)) = l := by
      refine List.ext_getElem (by simp [hl]) fun j h1 h2 => ?_
      obtain ⟨ad', e, _, hc⟩ := h.at_ (k := j) (by simpa using h1)
      cases e
      simp only [List.getElem_map, List.getElem_range, cellN, hc]
      rw [dg_get h2]; rfl
    show nval ((List.range n).map fun j => cellN W (ad.add j)) = nval l
    rw [e]
end Go.Proofs.YthnickjbknpmhaaGreatDoor
