/-
  NARROWER THAN 'FOR EVERY INPUT', by the rows' own cells (each row's printed sentence says how): PathRuns: laid · PathMoves: laid · PathCalls: laid · PathShifts: laid · PathBeside: laid · PathConnects: laid.
  DERIVED. THE GIVEN ROWS OF THIS SEAT. 6 by the template 'for every input the law returns true; each argument reads behind the call as it read before'; 0 by the template 'total and deterministic' (their statements: YteimplkdcjapdaaGreatDoorTotals.lean).
  GIVEN WITH THE SEED: the statements are not yours to turn. If you find one false, say at which input.
  Laid BY PROGRAM, IN A SANDBOX (cutbox-rows.mjs): the forced cells as the released guide's own fill.sh prints them over the translation 23da7a25648b27f9… (all of the seat's roots in one cut). By AI agents, Wed Nov 11 2026. No macro, syntax, notation, axiom, sorry.
-/
import Derived.Test.YteimplkdcjapdaaGreatDoorChecked
import GoSem.PinnedTables
import GoSem.Claim
import GoSem.ClaimJoined
import GoSem.ClaimMapViews
import Derived.JoinedTies
import Derived.KernelRfl
namespace Go.Proofs.YteimplkdcjapdaaGreatDoor
/- THE CELL 'sum', in the pinned program and in every row, IS THE sha256 OF THE DUMP (.gsa) THAT YteimplkdcjapdaaGreatDoorProg.lean LOADS. Nothing in Lean hashes anything: it is a label: what it is worth is what the hold of that sum in a sandbox is worth. -/
noncomputable def Tryz.pinned : Pinned := { name := "yteimplkdcjapdaagreatdoor", sum := "23da7a25648b27f9a6bc598b37f8fd347582a891f3c48153bc4becbd048df306", checked := Tryz.checked }
namespace Rows
def none {H : Type} : Left H := { results := [], args := [] }

/- WHAT THE LISTED PACKAGE-LEVEL VARIABLES READ AS WHEN THE CALL BEGINS. Each datum BY PROGRAM (the guide's laid-datum.mjs) off the statement by which the dump's own 'gosem.cut.vars' lays the variable. In a bare row this is a premise. The card (YteimplkdcjapdaaGreatDoorCards.lean) ties it to the program's text. -/
def laid_unicode_utf8_acceptRanges {H : Type} : DataW H := .agg [.agg [.lit (.int .u8 128), .lit (.int .u8 191)], .agg [.lit (.int .u8 160), .lit (.int .u8 191)], .agg [.lit (.int .u8 128), .lit (.int .u8 159)], .agg [.lit (.int .u8 144), .lit (.int .u8 191)], .agg [.lit (.int .u8 128), .lit (.int .u8 143)], .agg [.lit (.int .u8 0), .lit (.int .u8 0)], .agg [.lit (.int .u8 0), .lit (.int .u8 0)], .agg [.lit (.int .u8 0), .lit (.int .u8 0)], .agg [.lit (.int .u8 0), .lit (.int .u8 0)], .agg [.lit (.int .u8 0), .lit (.int .u8 0)], .agg [.lit (.int .u8 0), .lit (.int .u8 0)], .agg [.lit (.int .u8 0), .lit (.int .u8 0)], .agg [.lit (.int .u8 0), .lit (.int .u8 0)], .agg [.lit (.int .u8 0), .lit (.int .u8 0)], .agg [.lit (.int .u8 0), .lit (.int .u8 0)], .agg [.lit (.int .u8 0), .lit (.int .u8 0)]]
def laid_collet_program_forms {H : Type} : DataW H := .agg [.agg [.lit (.int .i64 1), .lit (.int .i64 0), .lit (.string [114, 97, 112, 105, 100, 44, 44, 44]), .lit (.int .i64 0)], .agg [.lit (.int .i64 2), .lit (.int .i64 0), .lit (.string [108, 105, 110, 101, 44, 44, 44, 44, 102, 101, 101, 100, 44]), .lit (.int .i64 0)], .agg [.lit (.int .i64 3), .lit (.int .i64 0), .lit (.string [97, 114, 99, 44, 44, 44, 44, 116, 111, 44, 44, 44, 44, 102, 101, 101, 100, 44]), .lit (.int .i64 0)], .agg [.lit (.int .i64 4), .lit (.int .i64 0), .lit (.string [99, 111, 109, 112, 44, 111, 102, 102]), .lit (.int .i64 0)], .agg [.lit (.int .i64 4), .lit (.int .i64 1), .lit (.string [99, 111, 109, 112, 44, 108, 101, 102, 116, 44]), .lit (.int .i64 0)], .agg [.lit (.int .i64 4), .lit (.int .i64 2), .lit (.string [99, 111, 109, 112, 44, 114, 105, 103, 104, 116, 44]), .lit (.int .i64 0)], .agg [.lit (.int .i64 5), .lit (.int .i64 0), .lit (.string [99, 97, 108, 108, 44, 61]), .lit (.int .i64 4)]]
/-- One of Go's own tables, pinned by name: the form's constant. -/
def laid_unicode_utf8_first : DataW Unit := Go.Pinned.utf8First

/-- 'colletlaw19.PathRuns': WHATEVER THE INPUT: true; the input reads as it did. -/
def pathRunsSpec : ChangeSpec := { name := "pathRuns", fn := fun _ => fun
  | [d1, d2, d3, d4] => { results := [.lit (.bool true)], args := [d1, d2, d3, d4] }
  | _ => none }
def pathRunsRow : OpenClaim := { program := "yteimplkdcjapdaagreatdoor", sum := "23da7a25648b27f9a6bc598b37f8fd347582a891f3c48153bc4becbd048df306", func := "collet/colletlaw19.PathRuns", spec := "pathRuns", inPlace := ["internal/bytealg.CountString", "internal/bytealg.IndexByteString", "internal/bytealg.IndexString"], unfollowed := true, recurses := true, named := ["collet/program.forms", "unicode/utf8.first", "unicode/utf8.acceptRanges", "internal/bytealg.MaxLen"], apart := false, laid := [("unicode/utf8.acceptRanges", laid_unicode_utf8_acceptRanges), ("collet/program.forms", laid_collet_program_forms), ("unicode/utf8.first", laid_unicode_utf8_first)] }
def PathRunsSaid : Prop := pathRunsRow.holds Tryz.pinned (OpenSpec.ofChange pathRunsSpec)

/-- ITS FALSE NEIGHBOUR: 'it returns false'. Refute it at one input. -/
def pathRunsWrong : ChangeSpec := { name := "pathRuns", fn := fun _ => fun
  | [d1, d2, d3, d4] => { results := [.lit (.bool false)], args := [d1, d2, d3, d4] }
  | _ => none }
def PathRunsWrongFalsely : Prop := pathRunsRow.holds Tryz.pinned (OpenSpec.ofChange pathRunsWrong)

/-- 'colletlaw19.PathMoves': WHATEVER THE INPUT: true; the input reads as it did. -/
def pathMovesSpec : ChangeSpec := { name := "pathMoves", fn := fun _ => fun
  | [d1, d2, d3, d4] => { results := [.lit (.bool true)], args := [d1, d2, d3, d4] }
  | _ => none }
def pathMovesRow : OpenClaim := { program := "yteimplkdcjapdaagreatdoor", sum := "23da7a25648b27f9a6bc598b37f8fd347582a891f3c48153bc4becbd048df306", func := "collet/colletlaw19.PathMoves", spec := "pathMoves", inPlace := ["internal/bytealg.CountString", "internal/bytealg.IndexByteString", "internal/bytealg.IndexString"], unfollowed := true, recurses := true, named := ["collet/program.forms", "unicode/utf8.first", "unicode/utf8.acceptRanges", "internal/bytealg.MaxLen"], apart := false, laid := [("unicode/utf8.acceptRanges", laid_unicode_utf8_acceptRanges), ("collet/program.forms", laid_collet_program_forms), ("unicode/utf8.first", laid_unicode_utf8_first)] }
def PathMovesSaid : Prop := pathMovesRow.holds Tryz.pinned (OpenSpec.ofChange pathMovesSpec)

/-- ITS FALSE NEIGHBOUR: 'it returns false'. Refute it at one input. -/
def pathMovesWrong : ChangeSpec := { name := "pathMoves", fn := fun _ => fun
  | [d1, d2, d3, d4] => { results := [.lit (.bool false)], args := [d1, d2, d3, d4] }
  | _ => none }
def PathMovesWrongFalsely : Prop := pathMovesRow.holds Tryz.pinned (OpenSpec.ofChange pathMovesWrong)

/-- 'colletlaw19.PathCalls': WHATEVER THE INPUT: true; the input reads as it did. -/
def pathCallsSpec : ChangeSpec := { name := "pathCalls", fn := fun _ => fun
  | [d1, d2] => { results := [.lit (.bool true)], args := [d1, d2] }
  | _ => none }
def pathCallsRow : OpenClaim := { program := "yteimplkdcjapdaagreatdoor", sum := "23da7a25648b27f9a6bc598b37f8fd347582a891f3c48153bc4becbd048df306", func := "collet/colletlaw19.PathCalls", spec := "pathCalls", inPlace := ["internal/bytealg.CountString", "internal/bytealg.IndexByteString", "internal/bytealg.IndexString"], unfollowed := true, recurses := true, named := ["collet/program.forms", "unicode/utf8.first", "unicode/utf8.acceptRanges", "internal/bytealg.MaxLen"], apart := false, laid := [("unicode/utf8.acceptRanges", laid_unicode_utf8_acceptRanges), ("collet/program.forms", laid_collet_program_forms), ("unicode/utf8.first", laid_unicode_utf8_first)] }
def PathCallsSaid : Prop := pathCallsRow.holds Tryz.pinned (OpenSpec.ofChange pathCallsSpec)

/-- ITS FALSE NEIGHBOUR: 'it returns false'. Refute it at one input. -/
def pathCallsWrong : ChangeSpec := { name := "pathCalls", fn := fun _ => fun
  | [d1, d2] => { results := [.lit (.bool false)], args := [d1, d2] }
  | _ => none }
def PathCallsWrongFalsely : Prop := pathCallsRow.holds Tryz.pinned (OpenSpec.ofChange pathCallsWrong)

/-- 'colletlaw19.PathShifts': WHATEVER THE INPUT: true; the input reads as it did. -/
def pathShiftsSpec : ChangeSpec := { name := "pathShifts", fn := fun _ => fun
  | [d1, d2, d3] => { results := [.lit (.bool true)], args := [d1, d2, d3] }
  | _ => none }
def pathShiftsRow : OpenClaim := { program := "yteimplkdcjapdaagreatdoor", sum := "23da7a25648b27f9a6bc598b37f8fd347582a891f3c48153bc4becbd048df306", func := "collet/colletlaw19.PathShifts", spec := "pathShifts", inPlace := ["internal/bytealg.CountString", "internal/bytealg.IndexByteString", "internal/bytealg.IndexString"], unfollowed := true, recurses := true, named := ["collet/program.forms", "unicode/utf8.first", "unicode/utf8.acceptRanges", "internal/bytealg.MaxLen"], apart := false, laid := [("unicode/utf8.acceptRanges", laid_unicode_utf8_acceptRanges), ("collet/program.forms", laid_collet_program_forms), ("unicode/utf8.first", laid_unicode_utf8_first)] }
def PathShiftsSaid : Prop := pathShiftsRow.holds Tryz.pinned (OpenSpec.ofChange pathShiftsSpec)

/-- ITS FALSE NEIGHBOUR: 'it returns false'. Refute it at one input. -/
def pathShiftsWrong : ChangeSpec := { name := "pathShifts", fn := fun _ => fun
  | [d1, d2, d3] => { results := [.lit (.bool false)], args := [d1, d2, d3] }
  | _ => none }
def PathShiftsWrongFalsely : Prop := pathShiftsRow.holds Tryz.pinned (OpenSpec.ofChange pathShiftsWrong)

/-- 'colletlaw19.PathBeside': WHATEVER THE INPUT: true; the input reads as it did. -/
def pathBesideSpec : ChangeSpec := { name := "pathBeside", fn := fun _ => fun
  | [d1, d2, d3, d4] => { results := [.lit (.bool true)], args := [d1, d2, d3, d4] }
  | _ => none }
def pathBesideRow : OpenClaim := { program := "yteimplkdcjapdaagreatdoor", sum := "23da7a25648b27f9a6bc598b37f8fd347582a891f3c48153bc4becbd048df306", func := "collet/colletlaw19.PathBeside", spec := "pathBeside", inPlace := ["internal/bytealg.CountString", "internal/bytealg.IndexByteString", "internal/bytealg.IndexString"], unfollowed := true, recurses := true, named := ["collet/program.forms", "unicode/utf8.first", "unicode/utf8.acceptRanges", "internal/bytealg.MaxLen"], apart := false, laid := [("unicode/utf8.acceptRanges", laid_unicode_utf8_acceptRanges), ("collet/program.forms", laid_collet_program_forms), ("unicode/utf8.first", laid_unicode_utf8_first)] }
def PathBesideSaid : Prop := pathBesideRow.holds Tryz.pinned (OpenSpec.ofChange pathBesideSpec)

/-- ITS FALSE NEIGHBOUR: 'it returns false'. Refute it at one input. -/
def pathBesideWrong : ChangeSpec := { name := "pathBeside", fn := fun _ => fun
  | [d1, d2, d3, d4] => { results := [.lit (.bool false)], args := [d1, d2, d3, d4] }
  | _ => none }
def PathBesideWrongFalsely : Prop := pathBesideRow.holds Tryz.pinned (OpenSpec.ofChange pathBesideWrong)

/-- 'colletlaw19.PathConnects': WHATEVER THE INPUT: true; the input reads as it did. -/
def pathConnectsSpec : ChangeSpec := { name := "pathConnects", fn := fun _ => fun
  | [d1, d2] => { results := [.lit (.bool true)], args := [d1, d2] }
  | _ => none }
def pathConnectsRow : OpenClaim := { program := "yteimplkdcjapdaagreatdoor", sum := "23da7a25648b27f9a6bc598b37f8fd347582a891f3c48153bc4becbd048df306", func := "collet/colletlaw19.PathConnects", spec := "pathConnects", inPlace := ["internal/bytealg.CountString", "internal/bytealg.IndexByteString", "internal/bytealg.IndexString"], unfollowed := true, recurses := true, named := ["collet/program.forms", "unicode/utf8.first", "unicode/utf8.acceptRanges", "internal/bytealg.MaxLen"], apart := false, laid := [("unicode/utf8.acceptRanges", laid_unicode_utf8_acceptRanges), ("collet/program.forms", laid_collet_program_forms), ("unicode/utf8.first", laid_unicode_utf8_first)] }
def PathConnectsSaid : Prop := pathConnectsRow.holds Tryz.pinned (OpenSpec.ofChange pathConnectsSpec)

/-- ITS FALSE NEIGHBOUR: 'it returns false'. Refute it at one input. -/
def pathConnectsWrong : ChangeSpec := { name := "pathConnects", fn := fun _ => fun
  | [d1, d2] => { results := [.lit (.bool false)], args := [d1, d2] }
  | _ => none }
def PathConnectsWrongFalsely : Prop := pathConnectsRow.holds Tryz.pinned (OpenSpec.ofChange pathConnectsWrong)

/- THE SECOND FORM. 'bulk': how many values and letters a reading holds, each counted each time it is reached (what is shared counts as often as it is met; a slice's spare places count too). A statement '..UptoSaid' is the law's where the arguments, and the package variables that the reading takes, are together of bulk at most 1048576: NARROWER than '..Said'. Prove '..Said' where nothing that the law and all that it calls make is longer than what came in: it says more and counts as full. Else prove '..UptoSaid'. A law counts once. -/
mutual
def uptoBulk {H : Type} : DataW H → Nat
  | .lit (.string bytes) => bytes.length + 1
  | .lit _ => 1
  | .nil => 1
  | .ptr d => uptoBulk d + 1
  | .slice elems spare => uptoBulkAll elems + uptoBulkAll spare + 1
  | .agg parts => uptoBulkAll parts + 1
  | .iface _ d => uptoBulk d + 1
  | .map entries => uptoBulkEntries entries + 1
  | .held _ => 1
def uptoBulkAll {H : Type} : List (DataW H) → Nat
  | [] => 0
  | d :: r => uptoBulk d + uptoBulkAll r
def uptoBulkEntries {H : Type} : List (Lit × DataW H) → Nat
  | [] => 0
  | x :: r => uptoBulkEntry x + uptoBulkEntries r
def uptoBulkEntry {H : Type} : Lit × DataW H → Nat
  | (.string bytes, d) => bytes.length + uptoBulk d + 1
  | (_, d) => uptoBulk d + 1
 end
def uptoSmall : (H : Type) → List (DataW H) → Bool := fun _ ds => decide (uptoBulkAll ds ≤ 1048576)
def OpenSpec.upto (s : _root_.Go.ChangeSpec) : _root_.Go.OpenSpec := { _root_.Go.OpenSpec.ofChange s with cond := some uptoSmall }

/-- 'colletlaw19.PathRuns', WHERE WHAT IT READS IS OF BULK AT MOST 1048576: true; the input reads as it did. -/
def pathRunsUptoRow : OpenClaim := { program := "yteimplkdcjapdaagreatdoor", sum := "23da7a25648b27f9a6bc598b37f8fd347582a891f3c48153bc4becbd048df306", func := "collet/colletlaw19.PathRuns", spec := "pathRuns", inPlace := ["internal/bytealg.CountString", "internal/bytealg.IndexByteString", "internal/bytealg.IndexString"], unfollowed := true, recurses := true, named := ["collet/program.forms", "unicode/utf8.first", "unicode/utf8.acceptRanges", "internal/bytealg.MaxLen"], apart := false, laid := [("unicode/utf8.acceptRanges", laid_unicode_utf8_acceptRanges), ("collet/program.forms", laid_collet_program_forms), ("unicode/utf8.first", laid_unicode_utf8_first)], narrowed := true }
def PathRunsUptoSaid : Prop := pathRunsUptoRow.holds Tryz.pinned (OpenSpec.upto pathRunsSpec)

/-- 'colletlaw19.PathMoves', WHERE WHAT IT READS IS OF BULK AT MOST 1048576: true; the input reads as it did. -/
def pathMovesUptoRow : OpenClaim := { program := "yteimplkdcjapdaagreatdoor", sum := "23da7a25648b27f9a6bc598b37f8fd347582a891f3c48153bc4becbd048df306", func := "collet/colletlaw19.PathMoves", spec := "pathMoves", inPlace := ["internal/bytealg.CountString", "internal/bytealg.IndexByteString", "internal/bytealg.IndexString"], unfollowed := true, recurses := true, named := ["collet/program.forms", "unicode/utf8.first", "unicode/utf8.acceptRanges", "internal/bytealg.MaxLen"], apart := false, laid := [("unicode/utf8.acceptRanges", laid_unicode_utf8_acceptRanges), ("collet/program.forms", laid_collet_program_forms), ("unicode/utf8.first", laid_unicode_utf8_first)], narrowed := true }
def PathMovesUptoSaid : Prop := pathMovesUptoRow.holds Tryz.pinned (OpenSpec.upto pathMovesSpec)

/-- 'colletlaw19.PathCalls', WHERE WHAT IT READS IS OF BULK AT MOST 1048576: true; the input reads as it did. -/
def pathCallsUptoRow : OpenClaim := { program := "yteimplkdcjapdaagreatdoor", sum := "23da7a25648b27f9a6bc598b37f8fd347582a891f3c48153bc4becbd048df306", func := "collet/colletlaw19.PathCalls", spec := "pathCalls", inPlace := ["internal/bytealg.CountString", "internal/bytealg.IndexByteString", "internal/bytealg.IndexString"], unfollowed := true, recurses := true, named := ["collet/program.forms", "unicode/utf8.first", "unicode/utf8.acceptRanges", "internal/bytealg.MaxLen"], apart := false, laid := [("unicode/utf8.acceptRanges", laid_unicode_utf8_acceptRanges), ("collet/program.forms", laid_collet_program_forms), ("unicode/utf8.first", laid_unicode_utf8_first)], narrowed := true }
def PathCallsUptoSaid : Prop := pathCallsUptoRow.holds Tryz.pinned (OpenSpec.upto pathCallsSpec)

/-- 'colletlaw19.PathShifts', WHERE WHAT IT READS IS OF BULK AT MOST 1048576: true; the input reads as it did. -/
def pathShiftsUptoRow : OpenClaim := { program := "yteimplkdcjapdaagreatdoor", sum := "23da7a25648b27f9a6bc598b37f8fd347582a891f3c48153bc4becbd048df306", func := "collet/colletlaw19.PathShifts", spec := "pathShifts", inPlace := ["internal/bytealg.CountString", "internal/bytealg.IndexByteString", "internal/bytealg.IndexString"], unfollowed := true, recurses := true, named := ["collet/program.forms", "unicode/utf8.first", "unicode/utf8.acceptRanges", "internal/bytealg.MaxLen"], apart := false, laid := [("unicode/utf8.acceptRanges", laid_unicode_utf8_acceptRanges), ("collet/program.forms", laid_collet_program_forms), ("unicode/utf8.first", laid_unicode_utf8_first)], narrowed := true }
def PathShiftsUptoSaid : Prop := pathShiftsUptoRow.holds Tryz.pinned (OpenSpec.upto pathShiftsSpec)

/-- 'colletlaw19.PathBeside', WHERE WHAT IT READS IS OF BULK AT MOST 1048576: true; the input reads as it did. -/
def pathBesideUptoRow : OpenClaim := { program := "yteimplkdcjapdaagreatdoor", sum := "23da7a25648b27f9a6bc598b37f8fd347582a891f3c48153bc4becbd048df306", func := "collet/colletlaw19.PathBeside", spec := "pathBeside", inPlace := ["internal/bytealg.CountString", "internal/bytealg.IndexByteString", "internal/bytealg.IndexString"], unfollowed := true, recurses := true, named := ["collet/program.forms", "unicode/utf8.first", "unicode/utf8.acceptRanges", "internal/bytealg.MaxLen"], apart := false, laid := [("unicode/utf8.acceptRanges", laid_unicode_utf8_acceptRanges), ("collet/program.forms", laid_collet_program_forms), ("unicode/utf8.first", laid_unicode_utf8_first)], narrowed := true }
def PathBesideUptoSaid : Prop := pathBesideUptoRow.holds Tryz.pinned (OpenSpec.upto pathBesideSpec)

/-- 'colletlaw19.PathConnects', WHERE WHAT IT READS IS OF BULK AT MOST 1048576: true; the input reads as it did. -/
def pathConnectsUptoRow : OpenClaim := { program := "yteimplkdcjapdaagreatdoor", sum := "23da7a25648b27f9a6bc598b37f8fd347582a891f3c48153bc4becbd048df306", func := "collet/colletlaw19.PathConnects", spec := "pathConnects", inPlace := ["internal/bytealg.CountString", "internal/bytealg.IndexByteString", "internal/bytealg.IndexString"], unfollowed := true, recurses := true, named := ["collet/program.forms", "unicode/utf8.first", "unicode/utf8.acceptRanges", "internal/bytealg.MaxLen"], apart := false, laid := [("unicode/utf8.acceptRanges", laid_unicode_utf8_acceptRanges), ("collet/program.forms", laid_collet_program_forms), ("unicode/utf8.first", laid_unicode_utf8_first)], narrowed := true }
def PathConnectsUptoSaid : Prop := pathConnectsUptoRow.holds Tryz.pinned (OpenSpec.upto pathConnectsSpec)

end Rows
end Go.Proofs.YteimplkdcjapdaaGreatDoor
