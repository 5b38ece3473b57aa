/-
  HeatForms is proved: for every case, change, heat, temperature and number of ticks the law returns true, and each argument reads as it did. No condition.
-/
import Derived.Test.YtdiidinbgnjjmaaLift3
import Derived.Test.YtdiidinbgnjjmaaL6
namespace Go.Proofs.Ytdiidinbgnjjmaa
open Go.ChangeShapes Go.WideShapes Go.ChangeAt Go.RowKit

set_option maxRecDepth 100000 in
theorem heatForms_lifted (os : Os) (started : os.Started) (H : Type) (enc : TypeId × Value → H) :
    ReturnsInHanded {} Try.checked os 3 .any (Rows.heatFormsSpec.pre6 enc Try.prog Try.f3 Rows.heatFormsRow.domain false) (Rows.heatFormsSpec.post enc Try.prog Try.f3 false true false false) := by
  refine returnsInHanded_of_change (C := Try.checked) Try.own started (by kernel_rfl) Try.func3
    (ChangeSpec.witness6 (enc := enc) (C := Try.checked) false ⟨#[], #[.agg #[.slice none 0 0, .int .i64 0, .int .i64 0], .agg #[.int .i64 0, .int .i64 0], .agg #[.int .i64 0, .int .i64 0, .int .i64 0, .int .i64 0, .int .i64 0], .agg #[.int .i64 0, .int .i64 0], .int .i64 0], []⟩ 8 (by kernel_rfl) (by kernel_rfl) (by kernel_rfl) (by kernel_rfl)) ?_
  intro W base args ds gs before hval0 hW hcnd _
  have hval : ∀ (j : Nat) t v, Try.f3.params[j]? = some t → args[j]? = some v → Value.okWide Try.prog W .any base t v := hval0
  have hW' := hW
  obtain ⟨p, q, hA0, hV, rfl, hfz, hnd⟩ := hW
  have hA : DataW.TrodAll enc Try.prog W 0 (fun _ => true) true Try.f3.params.toList args.toList ds p := hA0
  rw [Try.params3] at hA hval
  obtain ⟨v0, vs0, d0, ds0, p0, q0, hargs, rfl, rfl, h0, r0⟩ := trodAll_cons hA
  obtain ⟨v1, vs1, d1, ds1, p1, q1, rfl, rfl, rfl, h1, r1⟩ := trodAll_cons r0
  obtain ⟨v2, vs2, d2, ds2, p2, q2, rfl, rfl, rfl, h2, r2⟩ := trodAll_cons r1
  obtain ⟨v3, vs3, d3, ds3, p3, q3, rfl, rfl, rfl, h3, r3⟩ := trodAll_cons r2
  obtain ⟨v4, vs4, d4, ds4, p4, q4, rfl, rfl, rfl, h4, r4⟩ := trodAll_cons r3
  obtain ⟨rfl, rfl, rfl⟩ := trodAll_nil r4
  obtain ⟨args⟩ := args
  obtain rfl : args = [v0, v1, v2, v3, v4] := hargs
  obtain ⟨A, n, c, zs, lo0, more0, rfl, hn, hm, hr⟩ := open_case (hval 0 24 v0 rfl rfl) h0
  obtain ⟨qa, qb, rfl⟩ := open_pair (hval 1 25 v1 rfl rfl) h1
  obtain ⟨rr, rf, rt, rg, rp, rfl⟩ := open_heat (hval 2 27 v2 rfl rfl) h2
  obtain ⟨wx, wy, rfl⟩ := open_warm (hval 3 29 v3 rfl rfl) h3
  obtain ⟨ticks, rfl, rfl, rfl, _⟩ := open_int Try.underlying3 (hval 4 3 v4 rfl rfl) h4
  refine (heatForms_walk A n c zs lo0 more0 qa qb rr rf rt rg rp wx wy ticks W hr hn hm).mono fun e W' ⟨he, hb⟩ => ?_
  subst he
  exact ⟨_, rfl, post_of_law rfl Try.laidOut (by decide +kernel) 4 (by kernel_rfl) Try.underlying4 (fun d hd => by match d, hd with | [_, _, _, _, _], _ => rfl) hW' hb⟩

theorem heatForms_holds : Rows.HeatFormsSaid :=
  OpenClaim.holds_of_wide 3 Try.f3 rfl rfl rfl rfl rfl rfl rfl ⟨rfl, rfl, rfl, rfl, rfl⟩ rfl rfl rfl rfl rfl (by kernel_rfl) Try.func3 (by kernel_rfl)
    (of_decide_eq_true (by kernel_rfl)) (by unfold Func.isWrapper; rw [if_neg (of_decide_eq_false (by kernel_rfl))]; exact ⟨rfl, rfl⟩)
    (fun os started H enc _ => heatForms_lifted os started H enc)
#print axioms heatForms_holds
end Go.Proofs.Ytdiidinbgnjjmaa
