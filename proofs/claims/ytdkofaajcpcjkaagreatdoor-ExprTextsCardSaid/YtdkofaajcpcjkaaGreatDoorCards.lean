/-
  DERIVED. GIVEN WITH THE SEED: THE CARDS: each row of YtdkofaajcpcjkaaGreatDoorRows.lean that lists a variable, with what it lists TIED to the program's text (the seventh form; the later family's looks); each row that meets fmt, with fmt's text TOLD by the authors' own Lean function (tested against real Go, not proved from fmt's source: count such statements apart). THE CARD IS WHAT COUNTS. Prove the row's statement (the work); the ties are given (YtdkofaajcpcjkaaGreatDoorTie.lean); close each card by the builder's one call (the guide's Derived/Test/ToyasCard.lean, 'card_holds'). Laid BY PROGRAM, IN A SANDBOX (cutbox-door.mjs). By AI agents, Wed Nov 11 2026. No macro, syntax, notation, axiom, sorry.
-/
import Derived.Test.YtdkofaajcpcjkaaGreatDoorRows
import GoSem.ClaimSeven
namespace Go.Proofs.YtdkofaajcpcjkaaGreatDoor
namespace Rows

/-- THE TIED CARD OF 'colletlaw17.ExprTexts'. -/
def exprTextsCard : Claim7 := { stood := { row := exprTextsRow, standIns := [], harness := (true, "915c4ac7f8067a78fadbb6caf1f5ab3d49fb0f1a26c19a81ffea94befa56b1d1"), looks := true }, kinds := [], alts := [], laidByText := true, laidKinds := [.data, .data, .data, .sentinel, .sentinel, .widerDeep], laidTests := true, laidLooks := .later }
def ExprTextsCardSaid : Prop := Claim7.holds Tryz.pinned (.plain (OpenSpec.ofChange exprTextsSpec)) exprTextsCard

/-- THE SECOND FORM's CARD OF 'colletlaw17.ExprTexts'. -/
def exprTextsUptoCard : Claim7 := { stood := { row := exprTextsUptoRow, standIns := [], harness := (true, "915c4ac7f8067a78fadbb6caf1f5ab3d49fb0f1a26c19a81ffea94befa56b1d1"), looks := true }, kinds := [], alts := [], laidByText := true, laidKinds := [.data, .data, .data, .sentinel, .sentinel, .widerDeep], laidTests := true, laidLooks := .later }
def ExprTextsUptoCardSaid : Prop := Claim7.holds Tryz.pinned (.plain (OpenSpec.upto exprTextsSpec)) exprTextsUptoCard
end Rows
end Go.Proofs.YtdkofaajcpcjkaaGreatDoor
