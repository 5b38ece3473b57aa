/-
  No cell of these rows narrows 'for every input' (looked for: loops, veiled, ifaces, maps, wideKeys, modest, calm, conditions, laid).
  DERIVED. THE GIVEN ROWS OF THIS SEAT. 6 by the template 'for every input the law returns true; each argument reads behind the call as it read before'; 0 by the template 'total and deterministic' (their statements: YtdiidinbgnjjmaaTotals.lean).
  GIVEN WITH THE SEED: the statements are not yours to turn. If you find one false, say at which input.
  Laid BY PROGRAM, IN A SANDBOX (cutbox-rows.mjs): the forced cells as the released guide's own fill.sh prints them over the translation 4669d356b7b1a4cb… (all of the seat's roots in one cut). By AI agents, Wed Nov 11 2026. No macro, syntax, notation, axiom, sorry.
-/
import Derived.Test.YtdiidinbgnjjmaaChecked
import GoSem.Claim
import GoSem.ClaimJoined
import GoSem.ClaimMapViews
import Derived.JoinedTies
import Derived.KernelRfl
namespace Go.Proofs.Ytdiidinbgnjjmaa
/- THE CELL 'sum', in the pinned program and in every row, IS THE sha256 OF THE DUMP (.gsa) THAT YtdiidinbgnjjmaaProg.lean LOADS. Nothing in Lean hashes anything: it is a label: what it is worth is what the hold of that sum in a sandbox is worth. -/
noncomputable def Try.pinned : Pinned := { name := "ytdiidinbgnjjmaa", sum := "4669d356b7b1a4cb57b630428fa75af6d02160624e7e675dbaae9221f9eeff19", checked := Try.checked }
namespace Rows
def none {H : Type} : Left H := { results := [], args := [] }

/-- 'colletlaw22.HeatForms': WHATEVER THE INPUT: true; the input reads as it did. -/
def heatFormsSpec : ChangeSpec := { name := "heatForms", fn := fun _ => fun
  | [d1, d2, d3, d4, d5] => { results := [.lit (.bool true)], args := [d1, d2, d3, d4, d5] }
  | _ => none }
def heatFormsRow : OpenClaim := { program := "ytdiidinbgnjjmaa", sum := "4669d356b7b1a4cb57b630428fa75af6d02160624e7e675dbaae9221f9eeff19", func := "collet/colletlaw22.HeatForms", spec := "heatForms", unfollowed := true, recurses := true, apart := false }
def HeatFormsSaid : Prop := heatFormsRow.holds Try.pinned (OpenSpec.ofChange heatFormsSpec)

/-- ITS FALSE NEIGHBOUR: 'it returns false'. Refute it at one input. -/
def heatFormsWrong : ChangeSpec := { name := "heatForms", fn := fun _ => fun
  | [d1, d2, d3, d4, d5] => { results := [.lit (.bool false)], args := [d1, d2, d3, d4, d5] }
  | _ => none }
def HeatFormsWrongFalsely : Prop := heatFormsRow.holds Try.pinned (OpenSpec.ofChange heatFormsWrong)

/-- 'colletlaw22.HeatTrue': WHATEVER THE INPUT: true; the input reads as it did. -/
def heatTrueSpec : ChangeSpec := { name := "heatTrue", fn := fun _ => fun
  | [d1, d2, d3] => { results := [.lit (.bool true)], args := [d1, d2, d3] }
  | _ => none }
def heatTrueRow : OpenClaim := { program := "ytdiidinbgnjjmaa", sum := "4669d356b7b1a4cb57b630428fa75af6d02160624e7e675dbaae9221f9eeff19", func := "collet/colletlaw22.HeatTrue", spec := "heatTrue", unfollowed := true, recurses := true, apart := false }
def HeatTrueSaid : Prop := heatTrueRow.holds Try.pinned (OpenSpec.ofChange heatTrueSpec)

/-- ITS FALSE NEIGHBOUR: 'it returns false'. Refute it at one input. -/
def heatTrueWrong : ChangeSpec := { name := "heatTrue", fn := fun _ => fun
  | [d1, d2, d3] => { results := [.lit (.bool false)], args := [d1, d2, d3] }
  | _ => none }
def HeatTrueWrongFalsely : Prop := heatTrueRow.holds Try.pinned (OpenSpec.ofChange heatTrueWrong)

/-- 'colletlaw22.HeatTight': WHATEVER THE INPUT: true; the input reads as it did. -/
def heatTightSpec : ChangeSpec := { name := "heatTight", fn := fun _ => fun
  | [d1, d2, d3] => { results := [.lit (.bool true)], args := [d1, d2, d3] }
  | _ => none }
def heatTightRow : OpenClaim := { program := "ytdiidinbgnjjmaa", sum := "4669d356b7b1a4cb57b630428fa75af6d02160624e7e675dbaae9221f9eeff19", func := "collet/colletlaw22.HeatTight", spec := "heatTight", unfollowed := true, recurses := true, apart := false }
def HeatTightSaid : Prop := heatTightRow.holds Try.pinned (OpenSpec.ofChange heatTightSpec)

/-- ITS FALSE NEIGHBOUR: 'it returns false'. Refute it at one input. -/
def heatTightWrong : ChangeSpec := { name := "heatTight", fn := fun _ => fun
  | [d1, d2, d3] => { results := [.lit (.bool false)], args := [d1, d2, d3] }
  | _ => none }
def HeatTightWrongFalsely : Prop := heatTightRow.holds Try.pinned (OpenSpec.ofChange heatTightWrong)

/-- 'colletlaw22.HeatSteps': WHATEVER THE INPUT: true; the input reads as it did. -/
def heatStepsSpec : ChangeSpec := { name := "heatSteps", fn := fun _ => fun
  | [d1, d2, d3, d4, d5, d6] => { results := [.lit (.bool true)], args := [d1, d2, d3, d4, d5, d6] }
  | _ => none }
def heatStepsRow : OpenClaim := { program := "ytdiidinbgnjjmaa", sum := "4669d356b7b1a4cb57b630428fa75af6d02160624e7e675dbaae9221f9eeff19", func := "collet/colletlaw22.HeatSteps", spec := "heatSteps", unfollowed := true, recurses := true, apart := false }
def HeatStepsSaid : Prop := heatStepsRow.holds Try.pinned (OpenSpec.ofChange heatStepsSpec)

/-- ITS FALSE NEIGHBOUR: 'it returns false'. Refute it at one input. -/
def heatStepsWrong : ChangeSpec := { name := "heatSteps", fn := fun _ => fun
  | [d1, d2, d3, d4, d5, d6] => { results := [.lit (.bool false)], args := [d1, d2, d3, d4, d5, d6] }
  | _ => none }
def HeatStepsWrongFalsely : Prop := heatStepsRow.holds Try.pinned (OpenSpec.ofChange heatStepsWrong)

/-- 'colletlaw22.HeatGrows': WHATEVER THE INPUT: true; the input reads as it did. -/
def heatGrowsSpec : ChangeSpec := { name := "heatGrows", fn := fun _ => fun
  | [d1, d2, d3] => { results := [.lit (.bool true)], args := [d1, d2, d3] }
  | _ => none }
def heatGrowsRow : OpenClaim := { program := "ytdiidinbgnjjmaa", sum := "4669d356b7b1a4cb57b630428fa75af6d02160624e7e675dbaae9221f9eeff19", func := "collet/colletlaw22.HeatGrows", spec := "heatGrows", unfollowed := true, recurses := true, apart := false }
def HeatGrowsSaid : Prop := heatGrowsRow.holds Try.pinned (OpenSpec.ofChange heatGrowsSpec)

/-- ITS FALSE NEIGHBOUR: 'it returns false'. Refute it at one input. -/
def heatGrowsWrong : ChangeSpec := { name := "heatGrows", fn := fun _ => fun
  | [d1, d2, d3] => { results := [.lit (.bool false)], args := [d1, d2, d3] }
  | _ => none }
def HeatGrowsWrongFalsely : Prop := heatGrowsRow.holds Try.pinned (OpenSpec.ofChange heatGrowsWrong)

/-- 'colletlaw22.HeatMeets': WHATEVER THE INPUT: true; the input reads as it did. -/
def heatMeetsSpec : ChangeSpec := { name := "heatMeets", fn := fun _ => fun
  | [d1, d2, d3] => { results := [.lit (.bool true)], args := [d1, d2, d3] }
  | _ => none }
def heatMeetsRow : OpenClaim := { program := "ytdiidinbgnjjmaa", sum := "4669d356b7b1a4cb57b630428fa75af6d02160624e7e675dbaae9221f9eeff19", func := "collet/colletlaw22.HeatMeets", spec := "heatMeets", unfollowed := true, recurses := true, apart := false }
def HeatMeetsSaid : Prop := heatMeetsRow.holds Try.pinned (OpenSpec.ofChange heatMeetsSpec)

/-- ITS FALSE NEIGHBOUR: 'it returns false'. Refute it at one input. -/
def heatMeetsWrong : ChangeSpec := { name := "heatMeets", fn := fun _ => fun
  | [d1, d2, d3] => { results := [.lit (.bool false)], args := [d1, d2, d3] }
  | _ => none }
def HeatMeetsWrongFalsely : Prop := heatMeetsRow.holds Try.pinned (OpenSpec.ofChange heatMeetsWrong)

/- THE SECOND FORM. 'bulk': how many values and letters a reading holds, each counted each time it is reached (what is shared counts as often as it is met; a slice's spare places count too). A statement '..UptoSaid' is the law's where the arguments, and the package variables that the reading takes, are together of bulk at most 1048576: NARROWER than '..Said'. Prove '..Said' where nothing that the law and all that it calls make is longer than what came in: it says more and counts as full. Else prove '..UptoSaid'. A law counts once. -/
mutual
def uptoBulk {H : Type} : DataW H → Nat
  | .lit (.string bytes) => bytes.length + 1
  | .lit _ => 1
  | .nil => 1
  | .ptr d => uptoBulk d + 1
  | .slice elems spare => uptoBulkAll elems + uptoBulkAll spare + 1
  | .agg parts => uptoBulkAll parts + 1
  | .iface _ d => uptoBulk d + 1
  | .map entries => uptoBulkEntries entries + 1
  | .held _ => 1
def uptoBulkAll {H : Type} : List (DataW H) → Nat
  | [] => 0
  | d :: r => uptoBulk d + uptoBulkAll r
def uptoBulkEntries {H : Type} : List (Lit × DataW H) → Nat
  | [] => 0
  | x :: r => uptoBulkEntry x + uptoBulkEntries r
def uptoBulkEntry {H : Type} : Lit × DataW H → Nat
  | (.string bytes, d) => bytes.length + uptoBulk d + 1
  | (_, d) => uptoBulk d + 1
 end
def uptoSmall : (H : Type) → List (DataW H) → Bool := fun _ ds => decide (uptoBulkAll ds ≤ 1048576)
def OpenSpec.upto (s : _root_.Go.ChangeSpec) : _root_.Go.OpenSpec := { _root_.Go.OpenSpec.ofChange s with cond := some uptoSmall }

/-- 'colletlaw22.HeatForms', WHERE WHAT IT READS IS OF BULK AT MOST 1048576: true; the input reads as it did. -/
def heatFormsUptoRow : OpenClaim := { program := "ytdiidinbgnjjmaa", sum := "4669d356b7b1a4cb57b630428fa75af6d02160624e7e675dbaae9221f9eeff19", func := "collet/colletlaw22.HeatForms", spec := "heatForms", unfollowed := true, recurses := true, apart := false, narrowed := true }
def HeatFormsUptoSaid : Prop := heatFormsUptoRow.holds Try.pinned (OpenSpec.upto heatFormsSpec)

/-- 'colletlaw22.HeatTrue', WHERE WHAT IT READS IS OF BULK AT MOST 1048576: true; the input reads as it did. -/
def heatTrueUptoRow : OpenClaim := { program := "ytdiidinbgnjjmaa", sum := "4669d356b7b1a4cb57b630428fa75af6d02160624e7e675dbaae9221f9eeff19", func := "collet/colletlaw22.HeatTrue", spec := "heatTrue", unfollowed := true, recurses := true, apart := false, narrowed := true }
def HeatTrueUptoSaid : Prop := heatTrueUptoRow.holds Try.pinned (OpenSpec.upto heatTrueSpec)

/-- 'colletlaw22.HeatTight', WHERE WHAT IT READS IS OF BULK AT MOST 1048576: true; the input reads as it did. -/
def heatTightUptoRow : OpenClaim := { program := "ytdiidinbgnjjmaa", sum := "4669d356b7b1a4cb57b630428fa75af6d02160624e7e675dbaae9221f9eeff19", func := "collet/colletlaw22.HeatTight", spec := "heatTight", unfollowed := true, recurses := true, apart := false, narrowed := true }
def HeatTightUptoSaid : Prop := heatTightUptoRow.holds Try.pinned (OpenSpec.upto heatTightSpec)

/-- 'colletlaw22.HeatSteps', WHERE WHAT IT READS IS OF BULK AT MOST 1048576: true; the input reads as it did. -/
def heatStepsUptoRow : OpenClaim := { program := "ytdiidinbgnjjmaa", sum := "4669d356b7b1a4cb57b630428fa75af6d02160624e7e675dbaae9221f9eeff19", func := "collet/colletlaw22.HeatSteps", spec := "heatSteps", unfollowed := true, recurses := true, apart := false, narrowed := true }
def HeatStepsUptoSaid : Prop := heatStepsUptoRow.holds Try.pinned (OpenSpec.upto heatStepsSpec)

/-- 'colletlaw22.HeatGrows', WHERE WHAT IT READS IS OF BULK AT MOST 1048576: true; the input reads as it did. -/
def heatGrowsUptoRow : OpenClaim := { program := "ytdiidinbgnjjmaa", sum := "4669d356b7b1a4cb57b630428fa75af6d02160624e7e675dbaae9221f9eeff19", func := "collet/colletlaw22.HeatGrows", spec := "heatGrows", unfollowed := true, recurses := true, apart := false, narrowed := true }
def HeatGrowsUptoSaid : Prop := heatGrowsUptoRow.holds Try.pinned (OpenSpec.upto heatGrowsSpec)

/-- 'colletlaw22.HeatMeets', WHERE WHAT IT READS IS OF BULK AT MOST 1048576: true; the input reads as it did. -/
def heatMeetsUptoRow : OpenClaim := { program := "ytdiidinbgnjjmaa", sum := "4669d356b7b1a4cb57b630428fa75af6d02160624e7e675dbaae9221f9eeff19", func := "collet/colletlaw22.HeatMeets", spec := "heatMeets", unfollowed := true, recurses := true, apart := false, narrowed := true }
def HeatMeetsUptoSaid : Prop := heatMeetsUptoRow.holds Try.pinned (OpenSpec.upto heatMeetsSpec)

end Rows
end Go.Proofs.Ytdiidinbgnjjmaa
