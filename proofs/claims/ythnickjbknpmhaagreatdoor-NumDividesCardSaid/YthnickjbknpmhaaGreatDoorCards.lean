/-
  DERIVED. GIVEN WITH THE SEED: THE CARDS: each row of YthnickjbknpmhaaGreatDoorRows.lean that lists a variable, with what it lists TIED to the program's text (the seventh form; the later family's looks); each row that meets fmt, with fmt's text TOLD by the authors' own Lean function (tested against real Go, not proved from fmt's source: count such statements apart). THE CARD IS WHAT COUNTS. Prove the row's statement (the work); the ties are given (YthnickjbknpmhaaGreatDoorTie.lean); close each card by the builder's one call (the guide's Derived/Test/ToyasCard.lean, 'card_holds'). Laid BY PROGRAM, IN A SANDBOX (cutbox-door.mjs). By AI agents, Wed Nov 11 2026. No macro, syntax, notation, axiom, sorry.
-/
import Derived.Test.YthnickjbknpmhaaGreatDoorRows
import GoSem.ClaimSeven
namespace Go.Proofs.YthnickjbknpmhaaGreatDoor
namespace Rows

/-- THE TIED CARD OF 'colletlaw01.NumDivides'. -/
def numDividesCard : Claim7 := { stood := { row := numDividesRow, standIns := [], harness := (true, "95cf5ee75a0bc9202f9d3ecabf1d15ae5b6cdac741b8179951e80d165abab739"), looks := true }, kinds := [], alts := [], laidByText := true, laidKinds := [.data, .data, .data, .sentinel, .sentinel], laidTests := true, laidLooks := .later }
def NumDividesCardSaid : Prop := Claim7.holds Tryz.pinned (.plain (OpenSpec.ofChange numDividesSpec)) numDividesCard

/-- THE TIED CARD OF 'colletlaw01.NumAdds'. -/
def numAddsCard : Claim7 := { stood := { row := numAddsRow, standIns := [], harness := (true, "95cf5ee75a0bc9202f9d3ecabf1d15ae5b6cdac741b8179951e80d165abab739"), looks := true }, kinds := [], alts := [], laidByText := true, laidKinds := [.data, .data, .data, .sentinel, .sentinel], laidTests := true, laidLooks := .later }
def NumAddsCardSaid : Prop := Claim7.holds Tryz.pinned (.plain (OpenSpec.ofChange numAddsSpec)) numAddsCard

/-- THE SECOND FORM's CARD OF 'colletlaw01.NumDivides'. -/
def numDividesUptoCard : Claim7 := { stood := { row := numDividesUptoRow, standIns := [], harness := (true, "95cf5ee75a0bc9202f9d3ecabf1d15ae5b6cdac741b8179951e80d165abab739"), looks := true }, kinds := [], alts := [], laidByText := true, laidKinds := [.data, .data, .data, .sentinel, .sentinel], laidTests := true, laidLooks := .later }
def NumDividesUptoCardSaid : Prop := Claim7.holds Tryz.pinned (.plain (OpenSpec.upto numDividesSpec)) numDividesUptoCard

/-- THE SECOND FORM's CARD OF 'colletlaw01.NumAdds'. -/
def numAddsUptoCard : Claim7 := { stood := { row := numAddsUptoRow, standIns := [], harness := (true, "95cf5ee75a0bc9202f9d3ecabf1d15ae5b6cdac741b8179951e80d165abab739"), looks := true }, kinds := [], alts := [], laidByText := true, laidKinds := [.data, .data, .data, .sentinel, .sentinel], laidTests := true, laidLooks := .later }
def NumAddsUptoCardSaid : Prop := Claim7.holds Tryz.pinned (.plain (OpenSpec.upto numAddsSpec)) numAddsUptoCard
end Rows
end Go.Proofs.YthnickjbknpmhaaGreatDoor
