/-
  DERIVED. GIVEN WITH THE SEED: THE CARDS: each row of YtjcegdldgjphiaaGreatDoorRows.lean that lists a variable, with what it lists TIED to the program's text (the seventh form; the later family's looks); each row that meets fmt, with fmt's text TOLD by the authors' own Lean function (tested against real Go, not proved from fmt's source: count such statements apart). THE CARD IS WHAT COUNTS. Prove the row's statement (the work); the ties are given (YtjcegdldgjphiaaGreatDoorTie.lean); close each card by the builder's one call (the guide's Derived/Test/ToyasCard.lean, 'card_holds'). Laid BY PROGRAM, IN A SANDBOX (cutbox-door.mjs). By AI agents, Wed Nov 11 2026. No macro, syntax, notation, axiom, sorry.
-/
import Derived.Test.YtjcegdldgjphiaaGreatDoorRows
import GoSem.ClaimSeven
namespace Go.Proofs.YtjcegdldgjphiaaGreatDoor
namespace Rows

/-- THE TIED CARD OF 'colletlaw04.WireWrites'. -/
def wireWritesCard : Claim7 := { stood := { row := wireWritesRow, standIns := [], harness := (true, "f6d13d20111d2d1024e69384a6477e3c0998475b261181dffc81234b037bb8e9"), looks := true }, kinds := [], alts := [], laidByText := true, laidKinds := [.data, .data, .data, .sentinel, .sentinel], laidTests := true, laidLooks := .later }
def WireWritesCardSaid : Prop := Claim7.holds Tryz.pinned (.plain (OpenSpec.ofChange wireWritesSpec)) wireWritesCard

/-- THE TIED CARD OF 'colletlaw04.WireReads'. -/
def wireReadsCard : Claim7 := { stood := { row := wireReadsRow, standIns := [], harness := (true, "f6d13d20111d2d1024e69384a6477e3c0998475b261181dffc81234b037bb8e9"), looks := true }, kinds := [], alts := [], laidByText := true, laidKinds := [.data, .data, .data, .sentinel, .sentinel], laidTests := true, laidLooks := .later }
def WireReadsCardSaid : Prop := Claim7.holds Tryz.pinned (.plain (OpenSpec.ofChange wireReadsSpec)) wireReadsCard

/-- THE TIED CARD OF 'colletlaw04.WireBack'. -/
def wireBackCard : Claim7 := { stood := { row := wireBackRow, standIns := [], harness := (true, "f6d13d20111d2d1024e69384a6477e3c0998475b261181dffc81234b037bb8e9"), looks := true }, kinds := [], alts := [], laidByText := true, laidKinds := [.data, .data, .data, .sentinel, .sentinel], laidTests := true, laidLooks := .later }
def WireBackCardSaid : Prop := Claim7.holds Tryz.pinned (.plain (OpenSpec.ofChange wireBackSpec)) wireBackCard

/-- THE TIED CARD OF 'colletlaw04.WireOnce'. -/
def wireOnceCard : Claim7 := { stood := { row := wireOnceRow, standIns := [], harness := (true, "f6d13d20111d2d1024e69384a6477e3c0998475b261181dffc81234b037bb8e9"), looks := true }, kinds := [], alts := [], laidByText := true, laidKinds := [.data, .data, .data, .sentinel, .sentinel], laidTests := true, laidLooks := .later }
def WireOnceCardSaid : Prop := Claim7.holds Tryz.pinned (.plain (OpenSpec.ofChange wireOnceSpec)) wireOnceCard

/-- THE TIED CARD OF 'colletlaw04.WireCut'. -/
def wireCutCard : Claim7 := { stood := { row := wireCutRow, standIns := [], harness := (true, "f6d13d20111d2d1024e69384a6477e3c0998475b261181dffc81234b037bb8e9"), looks := true }, kinds := [], alts := [], laidByText := true, laidKinds := [.data, .data, .data, .sentinel, .sentinel], laidTests := true, laidLooks := .later }
def WireCutCardSaid : Prop := Claim7.holds Tryz.pinned (.plain (OpenSpec.ofChange wireCutSpec)) wireCutCard

/-- THE TIED CARD OF 'colletlaw04.WireNothing'. -/
def wireNothingCard : Claim7 := { stood := { row := wireNothingRow, standIns := [], harness := (true, "f6d13d20111d2d1024e69384a6477e3c0998475b261181dffc81234b037bb8e9"), looks := true }, kinds := [], alts := [], laidByText := true, laidKinds := [.data, .data, .data, .sentinel, .sentinel], laidTests := true, laidLooks := .later }
def WireNothingCardSaid : Prop := Claim7.holds Tryz.pinned (.plain (OpenSpec.ofChange wireNothingSpec)) wireNothingCard

/-- THE SECOND FORM's CARD OF 'colletlaw04.WireWrites'. -/
def wireWritesUptoCard : Claim7 := { stood := { row := wireWritesUptoRow, standIns := [], harness := (true, "f6d13d20111d2d1024e69384a6477e3c0998475b261181dffc81234b037bb8e9"), looks := true }, kinds := [], alts := [], laidByText := true, laidKinds := [.data, .data, .data, .sentinel, .sentinel], laidTests := true, laidLooks := .later }
def WireWritesUptoCardSaid : Prop := Claim7.holds Tryz.pinned (.plain (OpenSpec.upto wireWritesSpec)) wireWritesUptoCard

/-- THE SECOND FORM's CARD OF 'colletlaw04.WireReads'. -/
def wireReadsUptoCard : Claim7 := { stood := { row := wireReadsUptoRow, standIns := [], harness := (true, "f6d13d20111d2d1024e69384a6477e3c0998475b261181dffc81234b037bb8e9"), looks := true }, kinds := [], alts := [], laidByText := true, laidKinds := [.data, .data, .data, .sentinel, .sentinel], laidTests := true, laidLooks := .later }
def WireReadsUptoCardSaid : Prop := Claim7.holds Tryz.pinned (.plain (OpenSpec.upto wireReadsSpec)) wireReadsUptoCard

/-- THE SECOND FORM's CARD OF 'colletlaw04.WireBack'. -/
def wireBackUptoCard : Claim7 := { stood := { row := wireBackUptoRow, standIns := [], harness := (true, "f6d13d20111d2d1024e69384a6477e3c0998475b261181dffc81234b037bb8e9"), looks := true }, kinds := [], alts := [], laidByText := true, laidKinds := [.data, .data, .data, .sentinel, .sentinel], laidTests := true, laidLooks := .later }
def WireBackUptoCardSaid : Prop := Claim7.holds Tryz.pinned (.plain (OpenSpec.upto wireBackSpec)) wireBackUptoCard

/-- THE SECOND FORM's CARD OF 'colletlaw04.WireOnce'. -/
def wireOnceUptoCard : Claim7 := { stood := { row := wireOnceUptoRow, standIns := [], harness := (true, "f6d13d20111d2d1024e69384a6477e3c0998475b261181dffc81234b037bb8e9"), looks := true }, kinds := [], alts := [], laidByText := true, laidKinds := [.data, .data, .data, .sentinel, .sentinel], laidTests := true, laidLooks := .later }
def WireOnceUptoCardSaid : Prop := Claim7.holds Tryz.pinned (.plain (OpenSpec.upto wireOnceSpec)) wireOnceUptoCard

/-- THE SECOND FORM's CARD OF 'colletlaw04.WireCut'. -/
def wireCutUptoCard : Claim7 := { stood := { row := wireCutUptoRow, standIns := [], harness := (true, "f6d13d20111d2d1024e69384a6477e3c0998475b261181dffc81234b037bb8e9"), looks := true }, kinds := [], alts := [], laidByText := true, laidKinds := [.data, .data, .data, .sentinel, .sentinel], laidTests := true, laidLooks := .later }
def WireCutUptoCardSaid : Prop := Claim7.holds Tryz.pinned (.plain (OpenSpec.upto wireCutSpec)) wireCutUptoCard

/-- THE SECOND FORM's CARD OF 'colletlaw04.WireNothing'. -/
def wireNothingUptoCard : Claim7 := { stood := { row := wireNothingUptoRow, standIns := [], harness := (true, "f6d13d20111d2d1024e69384a6477e3c0998475b261181dffc81234b037bb8e9"), looks := true }, kinds := [], alts := [], laidByText := true, laidKinds := [.data, .data, .data, .sentinel, .sentinel], laidTests := true, laidLooks := .later }
def WireNothingUptoCardSaid : Prop := Claim7.holds Tryz.pinned (.plain (OpenSpec.upto wireNothingSpec)) wireNothingUptoCard
end Rows
end Go.Proofs.YtjcegdldgjphiaaGreatDoor
