/-
  NARROWER THAN 'FOR EVERY INPUT', by the rows' own cells (each row's printed sentence says how): StagingDrops: laid · StagingOpens: laid · StagingFrees: laid · StagingSurvives: laid.
  DERIVED. THE GIVEN ROWS OF THIS SEAT. 4 by the template 'for every input the law returns true; each argument reads behind the call as it read before'; 0 by the template 'total and deterministic' (their statements: YtioafciifiggaaaGreatDoorTotals.lean).
  GIVEN WITH THE SEED: the statements are not yours to turn. If you find one false, say at which input.
  Laid BY PROGRAM, IN A SANDBOX (cutbox-rows.mjs): the forced cells as the released guide's own fill.sh prints them over the translation b39909f13a462922… (all of the seat's roots in one cut). By AI agents, Wed Nov 11 2026. No macro, syntax, notation, axiom, sorry.
-/
import Derived.Test.YtioafciifiggaaaGreatDoorChecked
import GoSem.PinnedTables
import GoSem.Claim
import GoSem.ClaimJoined
import GoSem.ClaimMapViews
import Derived.JoinedTies
import Derived.KernelRfl
namespace Go.Proofs.YtioafciifiggaaaGreatDoor
/- THE CELL 'sum', in the pinned program and in every row, IS THE sha256 OF THE DUMP (.gsa) THAT YtioafciifiggaaaGreatDoorProg.lean LOADS. Nothing in Lean hashes anything: it is a label: what it is worth is what the hold of that sum in a sandbox is worth. -/
noncomputable def Tryz.pinned : Pinned := { name := "ytioafciifiggaaagreatdoor", sum := "b39909f13a4629229ea20291307c61ccfbf3d709f85e84cee121d15d83273a59", checked := Tryz.checked }
namespace Rows
def none {H : Type} : Left H := { results := [], args := [] }

/- WHAT THE LISTED PACKAGE-LEVEL VARIABLES READ AS WHEN THE CALL BEGINS. Each datum BY PROGRAM (the guide's laid-datum.mjs) off the statement by which the dump's own 'gosem.cut.vars' lays the variable. In a bare row this is a premise. The card (YtioafciifiggaaaGreatDoorCards.lean) ties it to the program's text. -/
def laid_unicode_utf8_acceptRanges {H : Type} : DataW H := .agg [.agg [.lit (.int .u8 128), .lit (.int .u8 191)], .agg [.lit (.int .u8 160), .lit (.int .u8 191)], .agg [.lit (.int .u8 128), .lit (.int .u8 159)], .agg [.lit (.int .u8 144), .lit (.int .u8 191)], .agg [.lit (.int .u8 128), .lit (.int .u8 143)], .agg [.lit (.int .u8 0), .lit (.int .u8 0)], .agg [.lit (.int .u8 0), .lit (.int .u8 0)], .agg [.lit (.int .u8 0), .lit (.int .u8 0)], .agg [.lit (.int .u8 0), .lit (.int .u8 0)], .agg [.lit (.int .u8 0), .lit (.int .u8 0)], .agg [.lit (.int .u8 0), .lit (.int .u8 0)], .agg [.lit (.int .u8 0), .lit (.int .u8 0)], .agg [.lit (.int .u8 0), .lit (.int .u8 0)], .agg [.lit (.int .u8 0), .lit (.int .u8 0)], .agg [.lit (.int .u8 0), .lit (.int .u8 0)], .agg [.lit (.int .u8 0), .lit (.int .u8 0)]]
/-- One of Go's own tables, pinned by name: the form's constant. -/
def laid_unicode_utf8_first : DataW Unit := Go.Pinned.utf8First

/-- 'standbylaw34.StagingDrops': WHATEVER THE INPUT: true; the input reads as it did. -/
def stagingDropsSpec : ChangeSpec := { name := "stagingDrops", fn := fun _ => fun
  | [d1, d2, d3] => { results := [.lit (.bool true)], args := [d1, d2, d3] }
  | _ => none }
def stagingDropsRow : OpenClaim := { program := "ytioafciifiggaaagreatdoor", sum := "b39909f13a4629229ea20291307c61ccfbf3d709f85e84cee121d15d83273a59", func := "standby/standbylaw34.StagingDrops", spec := "stagingDrops", inPlace := ["slices.overlaps[standby/api.Staged]"], unfollowed := true, recurses := true, named := ["unicode/utf8.first", "unicode/utf8.acceptRanges"], apart := false, laid := [("unicode/utf8.acceptRanges", laid_unicode_utf8_acceptRanges), ("unicode/utf8.first", laid_unicode_utf8_first)] }
def StagingDropsSaid : Prop := stagingDropsRow.holds Tryz.pinned (OpenSpec.ofChange stagingDropsSpec)

/-- ITS FALSE NEIGHBOUR: 'it returns false'. Refute it at one input. -/
def stagingDropsWrong : ChangeSpec := { name := "stagingDrops", fn := fun _ => fun
  | [d1, d2, d3] => { results := [.lit (.bool false)], args := [d1, d2, d3] }
  | _ => none }
def StagingDropsWrongFalsely : Prop := stagingDropsRow.holds Tryz.pinned (OpenSpec.ofChange stagingDropsWrong)

/-- 'standbylaw34.StagingOpens': WHATEVER THE INPUT: true; the input reads as it did. -/
def stagingOpensSpec : ChangeSpec := { name := "stagingOpens", fn := fun _ => fun
  | [d1, d2] => { results := [.lit (.bool true)], args := [d1, d2] }
  | _ => none }
def stagingOpensRow : OpenClaim := { program := "ytioafciifiggaaagreatdoor", sum := "b39909f13a4629229ea20291307c61ccfbf3d709f85e84cee121d15d83273a59", func := "standby/standbylaw34.StagingOpens", spec := "stagingOpens", inPlace := ["slices.overlaps[standby/api.Staged]"], unfollowed := true, recurses := true, named := ["unicode/utf8.first", "unicode/utf8.acceptRanges"], apart := false, laid := [("unicode/utf8.acceptRanges", laid_unicode_utf8_acceptRanges), ("unicode/utf8.first", laid_unicode_utf8_first)] }
def StagingOpensSaid : Prop := stagingOpensRow.holds Tryz.pinned (OpenSpec.ofChange stagingOpensSpec)

/-- ITS FALSE NEIGHBOUR: 'it returns false'. Refute it at one input. -/
def stagingOpensWrong : ChangeSpec := { name := "stagingOpens", fn := fun _ => fun
  | [d1, d2] => { results := [.lit (.bool false)], args := [d1, d2] }
  | _ => none }
def StagingOpensWrongFalsely : Prop := stagingOpensRow.holds Tryz.pinned (OpenSpec.ofChange stagingOpensWrong)

/-- 'standbylaw34.StagingFrees': WHATEVER THE INPUT: true; the input reads as it did. -/
def stagingFreesSpec : ChangeSpec := { name := "stagingFrees", fn := fun _ => fun
  | [d] => { results := [.lit (.bool true)], args := [d] }
  | _ => none }
def stagingFreesRow : OpenClaim := { program := "ytioafciifiggaaagreatdoor", sum := "b39909f13a4629229ea20291307c61ccfbf3d709f85e84cee121d15d83273a59", func := "standby/standbylaw34.StagingFrees", spec := "stagingFrees", inPlace := ["slices.overlaps[standby/api.Staged]"], unfollowed := true, recurses := true, named := ["unicode/utf8.first", "unicode/utf8.acceptRanges"], apart := false, laid := [("unicode/utf8.acceptRanges", laid_unicode_utf8_acceptRanges), ("unicode/utf8.first", laid_unicode_utf8_first)] }
def StagingFreesSaid : Prop := stagingFreesRow.holds Tryz.pinned (OpenSpec.ofChange stagingFreesSpec)

/-- ITS FALSE NEIGHBOUR: 'it returns false'. Refute it at one input. -/
def stagingFreesWrong : ChangeSpec := { name := "stagingFrees", fn := fun _ => fun
  | [d] => { results := [.lit (.bool false)], args := [d] }
  | _ => none }
def StagingFreesWrongFalsely : Prop := stagingFreesRow.holds Tryz.pinned (OpenSpec.ofChange stagingFreesWrong)

/-- 'standbylaw34.StagingSurvives': WHATEVER THE INPUT: true; the input reads as it did. -/
def stagingSurvivesSpec : ChangeSpec := { name := "stagingSurvives", fn := fun _ => fun
  | [d1, d2, d3] => { results := [.lit (.bool true)], args := [d1, d2, d3] }
  | _ => none }
def stagingSurvivesRow : OpenClaim := { program := "ytioafciifiggaaagreatdoor", sum := "b39909f13a4629229ea20291307c61ccfbf3d709f85e84cee121d15d83273a59", func := "standby/standbylaw34.StagingSurvives", spec := "stagingSurvives", inPlace := ["slices.overlaps[standby/api.Staged]"], unfollowed := true, recurses := true, named := ["unicode/utf8.first", "unicode/utf8.acceptRanges"], apart := false, laid := [("unicode/utf8.acceptRanges", laid_unicode_utf8_acceptRanges), ("unicode/utf8.first", laid_unicode_utf8_first)] }
def StagingSurvivesSaid : Prop := stagingSurvivesRow.holds Tryz.pinned (OpenSpec.ofChange stagingSurvivesSpec)

/-- ITS FALSE NEIGHBOUR: 'it returns false'. Refute it at one input. -/
def stagingSurvivesWrong : ChangeSpec := { name := "stagingSurvives", fn := fun _ => fun
  | [d1, d2, d3] => { results := [.lit (.bool false)], args := [d1, d2, d3] }
  | _ => none }
def StagingSurvivesWrongFalsely : Prop := stagingSurvivesRow.holds Tryz.pinned (OpenSpec.ofChange stagingSurvivesWrong)

/- THE SECOND FORM. 'bulk': how many values and letters a reading holds, each counted each time it is reached (what is shared counts as often as it is met; a slice's spare places count too). A statement '..UptoSaid' is the law's where the arguments, and the package variables that the reading takes, are together of bulk at most 1048576: NARROWER than '..Said'. Prove '..Said' where nothing that the law and all that it calls make is longer than what came in: it says more and counts as full. Else prove '..UptoSaid'. A law counts once. -/
mutual
def uptoBulk {H : Type} : DataW H → Nat
  | .lit (.string bytes) => bytes.length + 1
  | .lit _ => 1
  | .nil => 1
  | .ptr d => uptoBulk d + 1
  | .slice elems spare => uptoBulkAll elems + uptoBulkAll spare + 1
  | .agg parts => uptoBulkAll parts + 1
  | .iface _ d => uptoBulk d + 1
  | .map entries => uptoBulkEntries entries + 1
  | .held _ => 1
def uptoBulkAll {H : Type} : List (DataW H) → Nat
  | [] => 0
  | d :: r => uptoBulk d + uptoBulkAll r
def uptoBulkEntries {H : Type} : List (Lit × DataW H) → Nat
  | [] => 0
  | x :: r => uptoBulkEntry x + uptoBulkEntries r
def uptoBulkEntry {H : Type} : Lit × DataW H → Nat
  | (.string bytes, d) => bytes.length + uptoBulk d + 1
  | (_, d) => uptoBulk d + 1
 end
def uptoSmall : (H : Type) → List (DataW H) → Bool := fun _ ds => decide (uptoBulkAll ds ≤ 1048576)
def OpenSpec.upto (s : _root_.Go.ChangeSpec) : _root_.Go.OpenSpec := { _root_.Go.OpenSpec.ofChange s with cond := some uptoSmall }

/-- 'standbylaw34.StagingDrops', WHERE WHAT IT READS IS OF BULK AT MOST 1048576: true; the input reads as it did. -/
def stagingDropsUptoRow : OpenClaim := { program := "ytioafciifiggaaagreatdoor", sum := "b39909f13a4629229ea20291307c61ccfbf3d709f85e84cee121d15d83273a59", func := "standby/standbylaw34.StagingDrops", spec := "stagingDrops", inPlace := ["slices.overlaps[standby/api.Staged]"], unfollowed := true, recurses := true, named := ["unicode/utf8.first", "unicode/utf8.acceptRanges"], apart := false, laid := [("unicode/utf8.acceptRanges", laid_unicode_utf8_acceptRanges), ("unicode/utf8.first", laid_unicode_utf8_first)], narrowed := true }
def StagingDropsUptoSaid : Prop := stagingDropsUptoRow.holds Tryz.pinned (OpenSpec.upto stagingDropsSpec)

/-- 'standbylaw34.StagingOpens', WHERE WHAT IT READS IS OF BULK AT MOST 1048576: true; the input reads as it did. -/
def stagingOpensUptoRow : OpenClaim := { program := "ytioafciifiggaaagreatdoor", sum := "b39909f13a4629229ea20291307c61ccfbf3d709f85e84cee121d15d83273a59", func := "standby/standbylaw34.StagingOpens", spec := "stagingOpens", inPlace := ["slices.overlaps[standby/api.Staged]"], unfollowed := true, recurses := true, named := ["unicode/utf8.first", "unicode/utf8.acceptRanges"], apart := false, laid := [("unicode/utf8.acceptRanges", laid_unicode_utf8_acceptRanges), ("unicode/utf8.first", laid_unicode_utf8_first)], narrowed := true }
def StagingOpensUptoSaid : Prop := stagingOpensUptoRow.holds Tryz.pinned (OpenSpec.upto stagingOpensSpec)

/-- 'standbylaw34.StagingFrees', WHERE WHAT IT READS IS OF BULK AT MOST 1048576: true; the input reads as it did. -/
def stagingFreesUptoRow : OpenClaim := { program := "ytioafciifiggaaagreatdoor", sum := "b39909f13a4629229ea20291307c61ccfbf3d709f85e84cee121d15d83273a59", func := "standby/standbylaw34.StagingFrees", spec := "stagingFrees", inPlace := ["slices.overlaps[standby/api.Staged]"], unfollowed := true, recurses := true, named := ["unicode/utf8.first", "unicode/utf8.acceptRanges"], apart := false, laid := [("unicode/utf8.acceptRanges", laid_unicode_utf8_acceptRanges), ("unicode/utf8.first", laid_unicode_utf8_first)], narrowed := true }
def StagingFreesUptoSaid : Prop := stagingFreesUptoRow.holds Tryz.pinned (OpenSpec.upto stagingFreesSpec)

/-- 'standbylaw34.StagingSurvives', WHERE WHAT IT READS IS OF BULK AT MOST 1048576: true; the input reads as it did. -/
def stagingSurvivesUptoRow : OpenClaim := { program := "ytioafciifiggaaagreatdoor", sum := "b39909f13a4629229ea20291307c61ccfbf3d709f85e84cee121d15d83273a59", func := "standby/standbylaw34.StagingSurvives", spec := "stagingSurvives", inPlace := ["slices.overlaps[standby/api.Staged]"], unfollowed := true, recurses := true, named := ["unicode/utf8.first", "unicode/utf8.acceptRanges"], apart := false, laid := [("unicode/utf8.acceptRanges", laid_unicode_utf8_acceptRanges), ("unicode/utf8.first", laid_unicode_utf8_first)], narrowed := true }
def StagingSurvivesUptoSaid : Prop := stagingSurvivesUptoRow.holds Tryz.pinned (OpenSpec.upto stagingSurvivesSpec)

end Rows
end Go.Proofs.YtioafciifiggaaaGreatDoor
