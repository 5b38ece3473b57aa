/-
  Merged: SymZ.
-/
import Derived.Test.YteimplkdcjapdaaGreatDoorPuD
import Derived.Laws.IdiomStrings
import Derived.Laws.BytesArg
set_option linter.unusedSimpArgs false
set_option linter.unusedVariables false
namespace Go.Proofs.YteimplkdcjapdaaGreatDoor
open Go.RowKit
def cB (x:UInt8):List Pred:=[pV (.int .u8 (x.toNat:Int))]
section
variable {K:Kit} {P:Program} {F:Fact}
theorem zp9 (hb:K.bad .u8=false) (x:UInt8):FineAll K (cB x):=⟨zb (by simp [Kit.ck,ckf,hb]),trivial⟩
end
end Go.Proofs.YteimplkdcjapdaaGreatDoor
