/-
  NumDivides is proved: whatever the input, the law returns true and each argument reads as it did, where the listed variables read as listed; and the card, which ties them to the program's text.
-/
import Derived.Test.YthnickjbknpmhaaGreatDoorNumOpenZ
import Derived.Test.YthnickjbknpmhaaGreatDoorNumDivides
import Derived.Test.YthnickjbknpmhaaGreatDoorCards
import Derived.Test.YthnickjbknpmhaaGreatDoorTie
import Derived.SevenTiedAt
namespace Go.Proofs.YthnickjbknpmhaaGreatDoor
open Go.ChangeShapes Go.WideShapes Go.ChangeAt Go.RowKit

set_option maxRecDepth 100000 in
theorem numDivides_lifted (os : Os) (started : os.Started) (H : Type) (enc : TypeId × Value → H) :
    ReturnsInHanded {} Tryz.checked os 3 .any (fun w args => (Rows.numDividesSpec.pre enc Tryz.prog Tryz.f3 [] false w args ∧ laidMetH Tryz.prog laidL w) ∧ sizedMet enc Tryz.prog Tryz.f3 (OpenSpec.ofChange Rows.numDividesSpec) false w args)
      (Rows.numDividesSpec.post enc Tryz.prog Tryz.f3 false true false false) := by
  refine returnsInHanded_of_change_and (C := Tryz.checked) (X := fun w _ => laidMetH Tryz.prog laidL w) (fun _ _ _ hh h => h.of_heap hh) Tryz.own started (by kernel_rfl) Tryz.func3
    (ChangeSpec.witness_shaped (enc := enc) (C := Tryz.checked) (os := os) (X := fun w _ => laidMetH Tryz.prog laidL w) false (World.doorLaid Tryz.prog 400 os) #[.agg #[.slice none 0 0, .slice none 0 0], .int .u8 0, .agg #[.bool false, .slice none 0 0, .bool false, .slice none 0 0]] 8 rfl (World.shaped_of_RefB (by kernel_rfl) (by kernel_rfl)) (by kernel_rfl) (by kernel_rfl) (by kernel_rfl) (door_met os _)) ?_
  intro W base args ds gs before hval0 hW _ _ hL _
  have hval : ∀ (j : Nat) t v, Tryz.f3.params[j]? = some t → args[j]? = some v → Value.okWide Tryz.prog W .any base t v := hval0
  have hW' := hW
  obtain ⟨p, q, hA0, hV, rfl, hfz, hnd⟩ := hW
  have hA : DataW.TrodAll enc Tryz.prog W 0 (fun _ => true) true Tryz.f3.params.toList args.toList ds p := hA0
  rw [Tryz.params3] at hA hval
  obtain ⟨v0, v1, v2, d0, d1, d2, p0, p1, p2, rfl, rfl, rfl, h0, h1, h2⟩ := trodAll_three hA
  obtain ⟨A1, A2, k1, k2, x1, x2, z1, z2, rfl, m1, m2, r1, r2⟩ := open_lists2 (hval 0 23 v0 rfl rfl) h0
  obtain ⟨n, rfl, rfl, rfl, wn⟩ := open_int Tryz.underlying5 (hval 1 5 v1 rfl rfl) h1
  have bn := bounds_u8 wn
  obtain ⟨g1, g2, X1, X2, n1, n2, c1, c2, l, m, rfl, s1, s2⟩ := open_nums2 (hval 2 27 v2 rfl rfl) h2
  refine (numDivides_walk A1 A2 k1 k2 x1 x2 z1 z2 n bn.1 (by omega) g1 g2 X1 X2 n1 n2 c1 c2 l m W (Nat.le_refl _) (num_laid hL).1 (num_laid hL).2 r1 r2 m1 m2 s1 s2).mono fun e W' ⟨he, hb⟩ => ?_
  subst he
  exact ⟨_, rfl, post_of_law rfl Tryz.laidOut (by decide +kernel) 4 (by kernel_rfl) Tryz.underlying4 (fun d hd => by match d, hd with | [_, _, _], _ => rfl) hW' hb⟩

theorem numDivides_holds : Rows.NumDividesSaid :=
  OpenClaim.holds_of_wide 3 Tryz.f3 rfl rfl rfl rfl rfl rfl rfl ⟨rfl, rfl, rfl, rfl, rfl⟩ rfl rfl rfl rfl rfl (by kernel_rfl) Tryz.func3 (by kernel_rfl)
    (of_decide_eq_true (by kernel_rfl)) (by unfold Func.isWrapper; rw [if_neg (of_decide_eq_false (by kernel_rfl))]; exact ⟨rfl, rfl⟩)
    (fun os started H enc _ => numDivides_lifted os started H enc)

theorem numDivides_card : Rows.NumDividesCardSaid :=
  Claim7.holds_tied_plain_at .later [] [.data, .data, .data, .sentinel, .sentinel] true (true, "95cf5ee75a0bc9202f9d3ecabf1d15ae5b6cdac741b8179951e80d165abab739") true
    numDivides_holds (fun _ h => by cases h) (by kernel_rfl) (fun _ h => by cases h) numDivides_row_tie rfl ⟨rfl, rfl⟩ (by kernel_rfl) rfl
    (fun f fn hf hfn => by
      obtain rfl : f = 3 := Option.some.inj ((show Tryz.prog.funcNamed "collet/colletlaw01.NumDivides" = some 3 by kernel_rfl).symm.trans hf) |>.symm
      obtain rfl : fn = Tryz.f3 := (Option.some.inj (Tryz.func3.symm.trans hfn)).symm
      exact ⟨by kernel_rfl, fun j t ht => by
        rw [Tryz.params3] at ht
        have hm : t ∈ [23, 5, 27] := by simpa using Array.mem_of_getElem? ht
        have hall : ([23, 5, 27].all fun u => !Tryz.prog.wantsStandIn u) = true := by kernel_rfl
        exact (show Tryz.prog.wantsStandIn t = false by simpa using List.all_eq_true.1 hall t hm)⟩)
    (by kernel_rfl)
#print axioms numDivides_card
end Go.Proofs.YthnickjbknpmhaaGreatDoor
