/-
  Merged: NumLift.
-/
import Derived.Test.YtjcegdldgjphiaaGreatDoorGpAQ
import Derived.Test.YtjcegdldgjphiaaGreatDoorGpAM
import Derived.LaidMore
import Derived.OpenShut
import Derived.Stop.Joined
import Derived.Stop.LaidErr
import Derived.LaidLaws
import Derived.Lib.LaidTab
set_option linter.unusedSimpArgs false
set_option linter.unusedVariables false
namespace Go.Proofs.YtjcegdldgjphiaaGreatDoor
open Go.ChangeShapes Go.WideShapes Go.ChangeAt Go.RowKit
def laidL : List (String × DataW Unit) := [("math/bits.deBruijn32tab", Rows.laid_math_bits_deBruijn32tab), ("math/bits.deBruijn64tab", Rows.laid_math_bits_deBruijn64tab), ("internal/strconv.uint64pow10", Rows.laid_internal_strconv_uint64pow10), ("strconv.ErrRange", Rows.laid_strconv_ErrRange), ("strconv.ErrSyntax", Rows.laid_strconv_ErrSyntax)]
theorem gPow : Tryz.prog.globalNamed "internal/strconv.uint64pow10" = some 1 := by kernel_rfl
theorem gSyn : Tryz.prog.globalNamed "strconv.ErrSyntax" = some 3 := by kernel_rfl
theorem tPow:(Tryz.prog.globals[1]?).map (·.type)=some 182:=by kernel_rfl
theorem tSyn:(Tryz.prog.globals[3]?).map (·.type)=some 105:=by kernel_rfl
theorem zpN : "*" ++ "errors.errorString" = "*errors.errorString" := by decide
theorem zvS (u : TypeId) (h : Tryz.prog.typeName? 3 u = some "*errors.errorString") : u = 199 :=
 typeName_ptr_named (nm := "errors.errorString") (by rw [zpN]; kernel_rfl) (by kernel_rfl) (by decide) u (by rw [zpN]; exact h)
theorem zlO {W:World} (h:laidMetH Tryz.prog laidL W):PowT W.heap.size W∧SynT W.heap.size W:=by
 rw [MakeChecks.laidMetH_plain _ _ _ (by kernel_rfl)] at h
 refine ⟨Lib.tabBelow_of_tabIs (Lib.tabIs_of_head (k:=.u64) (n:=20) (e:=72) (zs:=Lib.pow10Tab) gPow tPow (by kernel_rfl) (by kernel_rfl) (by kernel_rfl) (by kernel_rfl) h.tail.tail),?_⟩
 obtain ⟨a1,s1,hv1,hc1,hs1,hz1⟩:=laid_sentinel h.tail.tail.tail.tail gSyn tSyn Tryz.underlying105 zvS Tryz.underlying199 Tryz.underlying201 rfl rfl Tryz.underlying9 (by kernel_rfl) (by kernel_rfl)
 have hc:=World.var?_cell gSyn hv1 0
 have hc2:W.cell? ⟨3,0,none⟩=some (.iface 199 (.pointer (some a1))):=by simpa using hc
 have h0:3<W.heap.size:=by
  rcases Nat.lt_or_ge 3 W.heap.size with h0 | h0
  ·exact h0
  ·simp [World.cell?,Array.getElem?_eq_none h0] at hc2
 intro w' hb
 exact ⟨.iface 199 (.pointer (some a1)),(hb.cell (p:=⟨3,0,none⟩) h0).trans hc2,.inr ⟨_,_,rfl⟩⟩
theorem zqT (os:Os) (args:Array Value):laidMetH Tryz.prog laidL ((World.doorLaid Tryz.prog 400 os).forCall (fun _ _=>0) ⟨#[],args,[]⟩).memory:=
 laidMetH_of_parts3 (fuel:=8) (laidMet_of_run' 8 (by kernel_rfl) (by kernel_rfl)) (by kernel_rfl) (by kernel_rfl)
end Go.Proofs.YtjcegdldgjphiaaGreatDoor
