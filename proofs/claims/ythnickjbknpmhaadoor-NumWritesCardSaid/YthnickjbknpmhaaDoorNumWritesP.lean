/-
  NumWrites is proved: whatever the input, the law returns true and each argument reads as it did, where the listed variables read as listed; and the card, which ties them to the program's text.
-/
import Derived.Test.YthnickjbknpmhaaDoorNumOpen
import Derived.Test.YthnickjbknpmhaaDoorNumWr
import Derived.Test.YthnickjbknpmhaaDoorNumOpenN
import Derived.ChangeMaps5
import Derived.Test.YthnickjbknpmhaaDoorCards
import Derived.Test.YthnickjbknpmhaaDoorTie
import Derived.SevenTiedAt
namespace Go.Proofs.YthnickjbknpmhaaDoor
open Go.ChangeShapes Go.WideShapes Go.ChangeAt Go.RowKit

set_option maxRecDepth 100000 in
theorem numWrites_lifted (os : Os) (started : os.Started) (H : Type) (enc : TypeId × Value → H) :
    ReturnsInHanded {} Tryd.checked os 3 .any (fun w args => (Rows.numWritesSpec.pre enc Tryd.prog Tryd.f3 [] false w args ∧ laidMetH Tryd.prog laidL w) ∧ sizedMet enc Tryd.prog Tryd.f3 (OpenSpec.ofChange Rows.numWritesSpec) false w args)
      (Rows.numWritesSpec.post enc Tryd.prog Tryd.f3 false true false false) := by
  refine returnsInHanded_of_change_and (C := Tryd.checked) (X := fun w _ => laidMetH Tryd.prog laidL w) (fun _ _ _ hh h => h.of_heap hh) Tryd.own started (by kernel_rfl) Tryd.func3
    (ChangeSpec.witness_shaped (enc := enc) (C := Tryd.checked) (os := os) (X := fun w _ => laidMetH Tryd.prog laidL w) false (World.doorLaid Tryd.prog 400 os) #[.slice none 0 0, .agg #[.bool false, .slice none 0 0], .string ⟨#[]⟩] 8 rfl (World.shaped_of_RefB (by kernel_rfl) (by kernel_rfl)) (by kernel_rfl) (by kernel_rfl) (by kernel_rfl) (door_met os _)) ?_
  intro W base args ds gs before hval0 hW _ _ hL _
  have hval : ∀ (j : Nat) t v, Tryd.f3.params[j]? = some t → args[j]? = some v → Value.okWide Tryd.prog W .any base t v := hval0
  have hW' := hW
  obtain ⟨p, q, hA0, hV, rfl, hfz, hnd⟩ := hW
  have hA : DataW.TrodAll enc Tryd.prog W 0 (fun _ => true) true Tryd.f3.params.toList args.toList ds p := hA0
  rw [Tryd.params3] at hA hval
  obtain ⟨v0, v1, v2, d0, d1, d2, p0, p1, p2, rfl, rfl, rfl, h0, h1, h2⟩ := trodAll_three hA
  obtain ⟨A1, k1, x1, rfl⟩ := okWide_slice Tryd.underlying22 (hval 0 22 v0 rfl rfl)
  obtain ⟨fuel, hf⟩ := h0
  obtain ⟨A1', k1', x1', z1, e1, m1, r1⟩ := open_list (u := .slice A1 k1 x1) hf rfl
  cases e1
  obtain ⟨neg, A, n, c, l, rfl, hs⟩ := open_num (hval 1 25 v1 rfl rfl) h1
  obtain ⟨s, rfl, rfl, rfl, hsl⟩ := Go.ChangeMaps.open_string Tryd.underlying9 (hval 2 9 v2 rfl rfl) h2
  obtain ⟨t, rfl⟩ : ∃ t : List UInt8, s = ⟨t.toArray⟩ := ⟨s.data.toList, rfl⟩
  have hsl2 : t.length ≤ 9223372036854775807 := hsl
  refine (numWrites_walk A1 k1 x1 z1 neg A n c l t W (Nat.le_refl _) (num_laid hL).1 (num_laid hL).2 r1 m1 hs hsl2).mono fun e W' ⟨he, hb⟩ => ?_
  subst he
  exact ⟨_, rfl, post_of_law rfl Tryd.laidOut (by decide +kernel) 4 (by kernel_rfl) Tryd.underlying4 (fun d hd => by match d, hd with | [_, _, _], _ => rfl) hW' hb⟩

theorem numWrites_holds : Rows.NumWritesSaid :=
  OpenClaim.holds_of_wide 3 Tryd.f3 rfl rfl rfl rfl rfl rfl rfl ⟨rfl, rfl, rfl, rfl, rfl⟩ rfl rfl rfl rfl rfl (by kernel_rfl) Tryd.func3 (by kernel_rfl)
    (of_decide_eq_true (by kernel_rfl)) (by unfold Func.isWrapper; rw [if_neg (of_decide_eq_false (by kernel_rfl))]; exact ⟨rfl, rfl⟩)
    (fun os started H enc _ => numWrites_lifted os started H enc)

theorem numWrites_card : Rows.NumWritesCardSaid :=
  Claim7.holds_tied_plain_at .later [] [.data, .data, .data, .sentinel, .sentinel] true (true, "ac53fb1f47a5f234d86689ff396958632d902caa527cc1423494bbc78d1c3bcd") true
    numWrites_holds (fun _ h => by cases h) (by kernel_rfl) (fun _ h => by cases h) numWrites_row_tie rfl ⟨rfl, rfl⟩ (by kernel_rfl) rfl
    (fun f fn hf hfn => by
      obtain rfl : f = 3 := Option.some.inj ((show Tryd.prog.funcNamed "collet/colletlaw01.NumWrites" = some 3 by kernel_rfl).symm.trans hf) |>.symm
      obtain rfl : fn = Tryd.f3 := (Option.some.inj (Tryd.func3.symm.trans hfn)).symm
      exact ⟨by kernel_rfl, fun j t ht => by
        rw [Tryd.params3] at ht
        have hm : t ∈ [22, 25, 9] := by simpa using Array.mem_of_getElem? ht
        have hall : ([22, 25, 9].all fun u => !Tryd.prog.wantsStandIn u) = true := by kernel_rfl
        exact (show Tryd.prog.wantsStandIn t = false by simpa using List.all_eq_true.1 hall t hm)⟩)
    (by kernel_rfl)
#print axioms numWrites_card
end Go.Proofs.YthnickjbknpmhaaDoor
