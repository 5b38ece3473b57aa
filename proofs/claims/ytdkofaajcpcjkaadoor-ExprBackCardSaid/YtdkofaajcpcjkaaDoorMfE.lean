/-
  Merged: SymZ.
-/
import Derived.Test.YtdkofaajcpcjkaaDoorMfD
import Derived.Laws.IdiomStrings
import Derived.Laws.BytesArg
set_option linter.unusedSimpArgs false
set_option linter.unusedVariables false
namespace Go.Proofs.YtdkofaajcpcjkaaDoor
open Go.RowKit
section
variable {K:Kit} {P:Program} {F:Fact}
end
end Go.Proofs.YtdkofaajcpcjkaaDoor
