/-
  HeatTrue is proved: for every case, every place of the temperature and every list of changes the law returns true, and each argument reads as it did. No condition.
-/
import Derived.Test.YtdiidinbgnjjmaaLift2
import Derived.Test.YtdiidinbgnjjmaaL3
namespace Go.Proofs.Ytdiidinbgnjjmaa
open Go.ChangeShapes Go.WideShapes Go.ChangeAt Go.RowKit

set_option maxRecDepth 100000 in
theorem heatTrue_lifted (os : Os) (started : os.Started) (H : Type) (enc : TypeId × Value → H) :
    ReturnsInHanded {} Try.checked os 4 .any (Rows.heatTrueSpec.pre6 enc Try.prog Try.f4 Rows.heatTrueRow.domain false) (Rows.heatTrueSpec.post enc Try.prog Try.f4 false true false false) := by
  refine returnsInHanded_of_change (C := Try.checked) Try.own started (by kernel_rfl) Try.func4
    (ChangeSpec.witness6 (enc := enc) (C := Try.checked) false ⟨#[], #[.agg #[.slice none 0 0, .int .i64 0, .int .i64 0], .int .u8 0, .slice none 0 0], []⟩ 8 (by kernel_rfl) (by kernel_rfl) (by kernel_rfl) (by kernel_rfl)) ?_
  intro W base args ds gs before hval0 hW hcnd _
  have hval : ∀ (j : Nat) t v, Try.f4.params[j]? = some t → args[j]? = some v → Value.okWide Try.prog W .any base t v := hval0
  have hW' := hW
  obtain ⟨p, q, hA0, hV, rfl, hfz, hnd⟩ := hW
  have hA : DataW.TrodAll enc Try.prog W 0 (fun _ => true) true Try.f4.params.toList args.toList ds p := hA0
  rw [Try.params4] at hA hval
  obtain ⟨v0, v1, v2, d0, d1, d2, p0, p1, p2, rfl, rfl, rfl, h0, h1, h2⟩ := trodAll_three hA
  obtain ⟨A, n, c, zs, lo0, more0, rfl, hn, hm, hr⟩ := open_case (hval 0 24 v0 rfl rfl) h0
  obtain ⟨tk, rfl, rfl, rfl, wtk⟩ := open_int Try.underlying5 (hval 1 5 v1 rfl rfl) h1
  have tk0 : 0 ≤ tk ∧ tk < 256 := by simp [Lit.wf, IntKind.min, IntKind.max, IntKind.signed, IntKind.bits] at wtk; omega
  obtain ⟨L, m, c2, bs, rfl, hm1, hm2, hl, hbs⟩ := open_bytes (hval 2 44 v2 rfl rfl) h2
  refine (heatTrue_walk A n c zs lo0 more0 tk L m c2 bs W hr hn hm tk0.1 tk0.2 hl hbs (by omega)).mono fun e W' ⟨he, hb⟩ => ?_
  subst he
  exact ⟨_, rfl, post_of_law rfl Try.laidOut (by decide +kernel) 4 (by kernel_rfl) Try.underlying4 (fun d hd => by match d, hd with | [_, _, _], _ => rfl) hW' hb⟩

theorem heatTrue_holds : Rows.HeatTrueSaid :=
  OpenClaim.holds_of_wide 4 Try.f4 rfl rfl rfl rfl rfl rfl rfl ⟨rfl, rfl, rfl, rfl, rfl⟩ rfl rfl rfl rfl rfl (by kernel_rfl) Try.func4 (by kernel_rfl)
    (of_decide_eq_true (by kernel_rfl)) (by unfold Func.isWrapper; rw [if_neg (of_decide_eq_false (by kernel_rfl))]; exact ⟨rfl, rfl⟩)
    (fun os started H enc _ => heatTrue_lifted os started H enc)
#print axioms heatTrue_holds
end Go.Proofs.Ytdiidinbgnjjmaa
