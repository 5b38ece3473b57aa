/-
  DERIVED. GIVEN WITH THE SEED: THE CARDS: each row of YtdkofaajcpcjkaaDoorRows.lean that lists a variable, with what it lists TIED to the program's text (the seventh form; the later family's looks); each row that meets fmt, with fmt's text TOLD by the authors' own Lean function (tested against real Go, not proved from fmt's source: count such statements apart). THE CARD IS WHAT COUNTS. Prove the row's statement (the work); the ties are given (YtdkofaajcpcjkaaDoorTie.lean); close each card by the builder's one call (the guide's Derived/Test/ToyasCard.lean, 'card_holds'). Laid BY PROGRAM, IN A SANDBOX (cutbox-door.mjs). By AI agents, Wed Nov 11 2026. No macro, syntax, notation, axiom, sorry.
-/
import Derived.Test.YtdkofaajcpcjkaaDoorRows
import GoSem.ClaimSeven
namespace Go.Proofs.YtdkofaajcpcjkaaDoor
namespace Rows

/-- THE TIED CARD OF 'colletlaw17.ExprEvals'. -/
def exprEvalsCard : Claim7 := { stood := { row := exprEvalsRow, standIns := [], harness := (true, "9c2d4fc3f30ffdcff26bcf724da57c2b036ba0a8542ea02fe6bad0cca4242e6c"), looks := true }, kinds := [], alts := [], laidByText := true, laidKinds := [.data, .data, .data, .sentinel, .sentinel, .widerDeep], laidTests := true, laidLooks := .later }
def ExprEvalsCardSaid : Prop := Claim7.holds Tryd.pinned (.plain (OpenSpec.ofChange exprEvalsSpec)) exprEvalsCard

/-- THE TIED CARD OF 'colletlaw17.ExprBack'. -/
def exprBackCard : Claim7 := { stood := { row := exprBackRow, standIns := [], harness := (true, "9c2d4fc3f30ffdcff26bcf724da57c2b036ba0a8542ea02fe6bad0cca4242e6c"), looks := true }, kinds := [], alts := [], laidByText := true, laidKinds := [.data, .data, .data, .sentinel, .sentinel, .widerDeep], laidTests := true, laidLooks := .later }
def ExprBackCardSaid : Prop := Claim7.holds Tryd.pinned (.plain (OpenSpec.ofChange exprBackSpec)) exprBackCard

/-- THE TIED CARD OF 'colletlaw17.ExprMeans'. -/
def exprMeansCard : Claim7 := { stood := { row := exprMeansRow, standIns := [], harness := (true, "9c2d4fc3f30ffdcff26bcf724da57c2b036ba0a8542ea02fe6bad0cca4242e6c"), looks := true }, kinds := [], alts := [], laidByText := true, laidKinds := [.data, .data, .data, .sentinel, .sentinel, .widerDeep], laidTests := true, laidLooks := .later }
def ExprMeansCardSaid : Prop := Claim7.holds Tryd.pinned (.plain (OpenSpec.ofChange exprMeansSpec)) exprMeansCard

/-- THE TIED CARD OF 'colletlaw17.ExprNeeds'. -/
def exprNeedsCard : Claim7 := { stood := { row := exprNeedsRow, standIns := [], harness := (true, "9c2d4fc3f30ffdcff26bcf724da57c2b036ba0a8542ea02fe6bad0cca4242e6c"), looks := true }, kinds := [], alts := [], laidByText := true, laidKinds := [.data, .data, .data, .sentinel, .sentinel, .widerDeep], laidTests := true, laidLooks := .later }
def ExprNeedsCardSaid : Prop := Claim7.holds Tryd.pinned (.plain (OpenSpec.ofChange exprNeedsSpec)) exprNeedsCard

/-- THE TIED CARD OF 'colletlaw17.ExprPuts'. -/
def exprPutsCard : Claim7 := { stood := { row := exprPutsRow, standIns := [], harness := (true, "9c2d4fc3f30ffdcff26bcf724da57c2b036ba0a8542ea02fe6bad0cca4242e6c"), looks := true }, kinds := [], alts := [], laidByText := true, laidKinds := [.data, .data, .data, .sentinel, .sentinel, .widerDeep], laidTests := true, laidLooks := .later }
def ExprPutsCardSaid : Prop := Claim7.holds Tryd.pinned (.plain (OpenSpec.ofChange exprPutsSpec)) exprPutsCard

/-- THE SECOND FORM's CARD OF 'colletlaw17.ExprEvals'. -/
def exprEvalsUptoCard : Claim7 := { stood := { row := exprEvalsUptoRow, standIns := [], harness := (true, "9c2d4fc3f30ffdcff26bcf724da57c2b036ba0a8542ea02fe6bad0cca4242e6c"), looks := true }, kinds := [], alts := [], laidByText := true, laidKinds := [.data, .data, .data, .sentinel, .sentinel, .widerDeep], laidTests := true, laidLooks := .later }
def ExprEvalsUptoCardSaid : Prop := Claim7.holds Tryd.pinned (.plain (OpenSpec.upto exprEvalsSpec)) exprEvalsUptoCard

/-- THE SECOND FORM's CARD OF 'colletlaw17.ExprBack'. -/
def exprBackUptoCard : Claim7 := { stood := { row := exprBackUptoRow, standIns := [], harness := (true, "9c2d4fc3f30ffdcff26bcf724da57c2b036ba0a8542ea02fe6bad0cca4242e6c"), looks := true }, kinds := [], alts := [], laidByText := true, laidKinds := [.data, .data, .data, .sentinel, .sentinel, .widerDeep], laidTests := true, laidLooks := .later }
def ExprBackUptoCardSaid : Prop := Claim7.holds Tryd.pinned (.plain (OpenSpec.upto exprBackSpec)) exprBackUptoCard

/-- THE SECOND FORM's CARD OF 'colletlaw17.ExprMeans'. -/
def exprMeansUptoCard : Claim7 := { stood := { row := exprMeansUptoRow, standIns := [], harness := (true, "9c2d4fc3f30ffdcff26bcf724da57c2b036ba0a8542ea02fe6bad0cca4242e6c"), looks := true }, kinds := [], alts := [], laidByText := true, laidKinds := [.data, .data, .data, .sentinel, .sentinel, .widerDeep], laidTests := true, laidLooks := .later }
def ExprMeansUptoCardSaid : Prop := Claim7.holds Tryd.pinned (.plain (OpenSpec.upto exprMeansSpec)) exprMeansUptoCard

/-- THE SECOND FORM's CARD OF 'colletlaw17.ExprNeeds'. -/
def exprNeedsUptoCard : Claim7 := { stood := { row := exprNeedsUptoRow, standIns := [], harness := (true, "9c2d4fc3f30ffdcff26bcf724da57c2b036ba0a8542ea02fe6bad0cca4242e6c"), looks := true }, kinds := [], alts := [], laidByText := true, laidKinds := [.data, .data, .data, .sentinel, .sentinel, .widerDeep], laidTests := true, laidLooks := .later }
def ExprNeedsUptoCardSaid : Prop := Claim7.holds Tryd.pinned (.plain (OpenSpec.upto exprNeedsSpec)) exprNeedsUptoCard

/-- THE SECOND FORM's CARD OF 'colletlaw17.ExprPuts'. -/
def exprPutsUptoCard : Claim7 := { stood := { row := exprPutsUptoRow, standIns := [], harness := (true, "9c2d4fc3f30ffdcff26bcf724da57c2b036ba0a8542ea02fe6bad0cca4242e6c"), looks := true }, kinds := [], alts := [], laidByText := true, laidKinds := [.data, .data, .data, .sentinel, .sentinel, .widerDeep], laidTests := true, laidLooks := .later }
def ExprPutsUptoCardSaid : Prop := Claim7.holds Tryd.pinned (.plain (OpenSpec.upto exprPutsSpec)) exprPutsUptoCard
end Rows
end Go.Proofs.YtdkofaajcpcjkaaDoor
