/-
  A region that draws its order, inside a round of a range over a function: it may be walked as outside of one, if it holds no defer.
-/
import Derived.Test.YthnickjbknpmhaaGreatDoorNumG
namespace Go.Proofs.YthnickjbknpmhaaGreatDoor
open Go.RowKit Go.Shelf

section
variable {F : Fence} {n : Nat} {P : Program} {md : Region.Mode} {ops : Array Oper} {Q : Exit → Act → World → Prop} {l : Nat}

theorem oper_round {o : Oper} {a : Act} {w : World} {K : Act → World → Prop} (hd : ∀ c, o.op ≠ .defer c) (h : o.wpIn F n P a w K Q) : o.wpIn (F.inRound l) n P a w K Q := by
  refine ⟨h.1, ?_⟩
  have h2 := h.2
  rw [Oper.semAt_eq _ _ _ hd] at h2 ⊢
  exact h2

theorem any_round (hd : ∀ (i : Nat) (o : Oper) (c : Call), ops[i]? = some o → o.op ≠ .defer c) : ∀ (fuel : Nat) (listed : Array Bool) (a : Act) (w : World), wpAnyIn F n P md ops Q fuel listed a w → wpAnyIn (F.inRound l) n P md ops Q fuel listed a w := by
  intro fuel
  induction fuel with
  | zero => intro listed a w h; exact h
  | succ fuel ih =>
    intro listed a w h
    refine ⟨h.1, fun i hi => ?_⟩
    have h2 := wpOpIn_mono (fun a' w' => ih _ a' w') (h.2 i hi)
    unfold wpOpIn at h2 ⊢
    split
    · rename_i ho; simpa [ho] using h2
    · rename_i o ho
      simp only [ho] at h2
      split
      · rename_i hw
        simp only [hw, if_true] at h2
        exact oper_round (fun c => hd i o c ho) h2
      · rename_i hw
        simp only [hw] at h2
        exact h2

def noDefer (ops : Array Oper) : Bool := ops.toList.all fun o => match o.op with | .defer _ => false | _ => true
theorem region_round {id : Nat} {a : Act} {w : World} (hm : P.follows .mixedOrders = true) (hd : noDefer ops = true)
    (h : wpAnyIn F n P .any ops Q ops.size (Array.replicate ops.size false) a w.drew) : (Code.region id ops true).wpIn (F.inRound l) n P Q a w := by
  refine wpIn_region_any hm (any_round (fun i o c ho e => ?_) _ _ _ _ h)
  have hm2 : o ∈ ops.toList := by
    have := Array.mem_of_getElem? ho
    simpa using this
  unfold noDefer at hd
  have := List.all_eq_true.1 hd o hm2
  rw [e] at this
  cases this
end
end Go.Proofs.YthnickjbknpmhaaGreatDoor
