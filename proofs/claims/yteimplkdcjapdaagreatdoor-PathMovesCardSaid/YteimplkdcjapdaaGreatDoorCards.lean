/-
  DERIVED. GIVEN WITH THE SEED: THE CARDS: each row of YteimplkdcjapdaaGreatDoorRows.lean that lists a variable, with what it lists TIED to the program's text (the seventh form; the later family's looks); each row that meets fmt, with fmt's text TOLD by the authors' own Lean function (tested against real Go, not proved from fmt's source: count such statements apart). THE CARD IS WHAT COUNTS. Prove the row's statement (the work); the ties are given (YteimplkdcjapdaaGreatDoorTie.lean); close each card by the builder's one call (the guide's Derived/Test/ToyasCard.lean, 'card_holds'). Laid BY PROGRAM, IN A SANDBOX (cutbox-door.mjs). By AI agents, Wed Nov 11 2026. No macro, syntax, notation, axiom, sorry.
-/
import Derived.Test.YteimplkdcjapdaaGreatDoorRows
import GoSem.ClaimSeven
namespace Go.Proofs.YteimplkdcjapdaaGreatDoor
namespace Rows

/-- THE TIED CARD OF 'colletlaw19.PathRuns'. -/
def pathRunsCard : Claim7 := { stood := { row := pathRunsRow, standIns := [], harness := (true, "bdde3ee7c16ac2e2d347a7fd1139b984e19b6995000633845a4e5032c05821ce"), looks := true }, kinds := [], alts := [], laidByText := true, laidKinds := [.data, .widerDeep, .pinned], laidTests := true, laidLooks := .later }
def PathRunsCardSaid : Prop := Claim7.holds Tryz.pinned (.plain (OpenSpec.ofChange pathRunsSpec)) pathRunsCard

/-- THE TIED CARD OF 'colletlaw19.PathMoves'. -/
def pathMovesCard : Claim7 := { stood := { row := pathMovesRow, standIns := [], harness := (true, "bdde3ee7c16ac2e2d347a7fd1139b984e19b6995000633845a4e5032c05821ce"), looks := true }, kinds := [], alts := [], laidByText := true, laidKinds := [.data, .widerDeep, .pinned], laidTests := true, laidLooks := .later }
def PathMovesCardSaid : Prop := Claim7.holds Tryz.pinned (.plain (OpenSpec.ofChange pathMovesSpec)) pathMovesCard

/-- THE TIED CARD OF 'colletlaw19.PathCalls'. -/
def pathCallsCard : Claim7 := { stood := { row := pathCallsRow, standIns := [], harness := (true, "bdde3ee7c16ac2e2d347a7fd1139b984e19b6995000633845a4e5032c05821ce"), looks := true }, kinds := [], alts := [], laidByText := true, laidKinds := [.data, .widerDeep, .pinned], laidTests := true, laidLooks := .later }
def PathCallsCardSaid : Prop := Claim7.holds Tryz.pinned (.plain (OpenSpec.ofChange pathCallsSpec)) pathCallsCard

/-- THE TIED CARD OF 'colletlaw19.PathShifts'. -/
def pathShiftsCard : Claim7 := { stood := { row := pathShiftsRow, standIns := [], harness := (true, "bdde3ee7c16ac2e2d347a7fd1139b984e19b6995000633845a4e5032c05821ce"), looks := true }, kinds := [], alts := [], laidByText := true, laidKinds := [.data, .widerDeep, .pinned], laidTests := true, laidLooks := .later }
def PathShiftsCardSaid : Prop := Claim7.holds Tryz.pinned (.plain (OpenSpec.ofChange pathShiftsSpec)) pathShiftsCard

/-- THE TIED CARD OF 'colletlaw19.PathBeside'. -/
def pathBesideCard : Claim7 := { stood := { row := pathBesideRow, standIns := [], harness := (true, "bdde3ee7c16ac2e2d347a7fd1139b984e19b6995000633845a4e5032c05821ce"), looks := true }, kinds := [], alts := [], laidByText := true, laidKinds := [.data, .widerDeep, .pinned], laidTests := true, laidLooks := .later }
def PathBesideCardSaid : Prop := Claim7.holds Tryz.pinned (.plain (OpenSpec.ofChange pathBesideSpec)) pathBesideCard

/-- THE TIED CARD OF 'colletlaw19.PathConnects'. -/
def pathConnectsCard : Claim7 := { stood := { row := pathConnectsRow, standIns := [], harness := (true, "bdde3ee7c16ac2e2d347a7fd1139b984e19b6995000633845a4e5032c05821ce"), looks := true }, kinds := [], alts := [], laidByText := true, laidKinds := [.data, .widerDeep, .pinned], laidTests := true, laidLooks := .later }
def PathConnectsCardSaid : Prop := Claim7.holds Tryz.pinned (.plain (OpenSpec.ofChange pathConnectsSpec)) pathConnectsCard

/-- THE SECOND FORM's CARD OF 'colletlaw19.PathRuns'. -/
def pathRunsUptoCard : Claim7 := { stood := { row := pathRunsUptoRow, standIns := [], harness := (true, "bdde3ee7c16ac2e2d347a7fd1139b984e19b6995000633845a4e5032c05821ce"), looks := true }, kinds := [], alts := [], laidByText := true, laidKinds := [.data, .widerDeep, .pinned], laidTests := true, laidLooks := .later }
def PathRunsUptoCardSaid : Prop := Claim7.holds Tryz.pinned (.plain (OpenSpec.upto pathRunsSpec)) pathRunsUptoCard

/-- THE SECOND FORM's CARD OF 'colletlaw19.PathMoves'. -/
def pathMovesUptoCard : Claim7 := { stood := { row := pathMovesUptoRow, standIns := [], harness := (true, "bdde3ee7c16ac2e2d347a7fd1139b984e19b6995000633845a4e5032c05821ce"), looks := true }, kinds := [], alts := [], laidByText := true, laidKinds := [.data, .widerDeep, .pinned], laidTests := true, laidLooks := .later }
def PathMovesUptoCardSaid : Prop := Claim7.holds Tryz.pinned (.plain (OpenSpec.upto pathMovesSpec)) pathMovesUptoCard

/-- THE SECOND FORM's CARD OF 'colletlaw19.PathCalls'. -/
def pathCallsUptoCard : Claim7 := { stood := { row := pathCallsUptoRow, standIns := [], harness := (true, "bdde3ee7c16ac2e2d347a7fd1139b984e19b6995000633845a4e5032c05821ce"), looks := true }, kinds := [], alts := [], laidByText := true, laidKinds := [.data, .widerDeep, .pinned], laidTests := true, laidLooks := .later }
def PathCallsUptoCardSaid : Prop := Claim7.holds Tryz.pinned (.plain (OpenSpec.upto pathCallsSpec)) pathCallsUptoCard

/-- THE SECOND FORM's CARD OF 'colletlaw19.PathShifts'. -/
def pathShiftsUptoCard : Claim7 := { stood := { row := pathShiftsUptoRow, standIns := [], harness := (true, "bdde3ee7c16ac2e2d347a7fd1139b984e19b6995000633845a4e5032c05821ce"), looks := true }, kinds := [], alts := [], laidByText := true, laidKinds := [.data, .widerDeep, .pinned], laidTests := true, laidLooks := .later }
def PathShiftsUptoCardSaid : Prop := Claim7.holds Tryz.pinned (.plain (OpenSpec.upto pathShiftsSpec)) pathShiftsUptoCard

/-- THE SECOND FORM's CARD OF 'colletlaw19.PathBeside'. -/
def pathBesideUptoCard : Claim7 := { stood := { row := pathBesideUptoRow, standIns := [], harness := (true, "bdde3ee7c16ac2e2d347a7fd1139b984e19b6995000633845a4e5032c05821ce"), looks := true }, kinds := [], alts := [], laidByText := true, laidKinds := [.data, .widerDeep, .pinned], laidTests := true, laidLooks := .later }
def PathBesideUptoCardSaid : Prop := Claim7.holds Tryz.pinned (.plain (OpenSpec.upto pathBesideSpec)) pathBesideUptoCard

/-- THE SECOND FORM's CARD OF 'colletlaw19.PathConnects'. -/
def pathConnectsUptoCard : Claim7 := { stood := { row := pathConnectsUptoRow, standIns := [], harness := (true, "bdde3ee7c16ac2e2d347a7fd1139b984e19b6995000633845a4e5032c05821ce"), looks := true }, kinds := [], alts := [], laidByText := true, laidKinds := [.data, .widerDeep, .pinned], laidTests := true, laidLooks := .later }
def PathConnectsUptoCardSaid : Prop := Claim7.holds Tryz.pinned (.plain (OpenSpec.upto pathConnectsSpec)) pathConnectsUptoCard
end Rows
end Go.Proofs.YteimplkdcjapdaaGreatDoor
