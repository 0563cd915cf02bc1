/-
  NARROWER THAN 'FOR EVERY INPUT', by the rows' own cells (each row's printed sentence says how): ApplyFormats: laid · ApplyApplies: laid · ApplyReads: laid · ApplySteps: laid · ApplyAdvances: laid · ApplyRecovers: laid · ApplyRaises: laid.
  DERIVED. THE GIVEN ROWS OF THIS SEAT. 7 by the template 'for every input the law returns true; each argument reads behind the call as it read before'; 0 by the template 'total and deterministic' (their statements: YtkghiceeegindaaGreatDoorTotals.lean).
  GIVEN WITH THE SEED: the statements are not yours to turn. If you find one false, say at which input.
  Laid BY PROGRAM, IN A SANDBOX (cutbox-rows.mjs): the forced cells as the released guide's own fill.sh prints them over the translation 4110df1ae630c613… (all of the seat's roots in one cut). By AI agents, Wed Nov 11 2026. No macro, syntax, notation, axiom, sorry.
-/
import Derived.Test.YtkghiceeegindaaGreatDoorChecked
import GoSem.PinnedTables
import GoSem.Claim
import GoSem.ClaimJoined
import GoSem.ClaimMapViews
import Derived.JoinedTies
import Derived.KernelRfl
namespace Go.Proofs.YtkghiceeegindaaGreatDoor
/- THE CELL 'sum', in the pinned program and in every row, IS THE sha256 OF THE DUMP (.gsa) THAT YtkghiceeegindaaGreatDoorProg.lean LOADS. Nothing in Lean hashes anything: it is a label: what it is worth is what the hold of that sum in a sandbox is worth. -/
noncomputable def Tryz.pinned : Pinned := { name := "ytkghiceeegindaagreatdoor", sum := "4110df1ae630c613315aca4bbccb224d72338b55c9fe543b7a075bd8a82e2824", checked := Tryz.checked }
namespace Rows
def none {H : Type} : Left H := { results := [], args := [] }

/- WHAT THE LISTED PACKAGE-LEVEL VARIABLES READ AS WHEN THE CALL BEGINS. Each datum BY PROGRAM (the guide's laid-datum.mjs) off the statement by which the dump's own 'gosem.cut.vars' lays the variable. In a bare row this is a premise. The card (YtkghiceeegindaaGreatDoorCards.lean) ties it to the program's text. -/
def laid_unicode_utf8_acceptRanges {H : Type} : DataW H := .agg [.agg [.lit (.int .u8 128), .lit (.int .u8 191)], .agg [.lit (.int .u8 160), .lit (.int .u8 191)], .agg [.lit (.int .u8 128), .lit (.int .u8 159)], .agg [.lit (.int .u8 144), .lit (.int .u8 191)], .agg [.lit (.int .u8 128), .lit (.int .u8 143)], .agg [.lit (.int .u8 0), .lit (.int .u8 0)], .agg [.lit (.int .u8 0), .lit (.int .u8 0)], .agg [.lit (.int .u8 0), .lit (.int .u8 0)], .agg [.lit (.int .u8 0), .lit (.int .u8 0)], .agg [.lit (.int .u8 0), .lit (.int .u8 0)], .agg [.lit (.int .u8 0), .lit (.int .u8 0)], .agg [.lit (.int .u8 0), .lit (.int .u8 0)], .agg [.lit (.int .u8 0), .lit (.int .u8 0)], .agg [.lit (.int .u8 0), .lit (.int .u8 0)], .agg [.lit (.int .u8 0), .lit (.int .u8 0)], .agg [.lit (.int .u8 0), .lit (.int .u8 0)]]
/-- One of Go's own tables, pinned by name: the form's constant. -/
def laid_unicode_utf8_first : DataW Unit := Go.Pinned.utf8First

/-- 'standbylaw35.ApplyFormats': WHATEVER THE INPUT: true; the input reads as it did. -/
def applyFormatsSpec : ChangeSpec := { name := "applyFormats", fn := fun _ => fun
  | [d1, d2] => { results := [.lit (.bool true)], args := [d1, d2] }
  | _ => none }
def applyFormatsRow : OpenClaim := { program := "ytkghiceeegindaagreatdoor", sum := "4110df1ae630c613315aca4bbccb224d72338b55c9fe543b7a075bd8a82e2824", func := "standby/standbylaw35.ApplyFormats", spec := "applyFormats", unfollowed := true, recurses := true, named := ["unicode/utf8.first", "unicode/utf8.acceptRanges"], plainKeys := false, apart := false, laid := [("unicode/utf8.acceptRanges", laid_unicode_utf8_acceptRanges), ("unicode/utf8.first", laid_unicode_utf8_first)] }
def ApplyFormatsSaid : Prop := applyFormatsRow.holds Tryz.pinned (OpenSpec.ofChange applyFormatsSpec)

/-- ITS FALSE NEIGHBOUR: 'it returns false'. Refute it at one input. -/
def applyFormatsWrong : ChangeSpec := { name := "applyFormats", fn := fun _ => fun
  | [d1, d2] => { results := [.lit (.bool false)], args := [d1, d2] }
  | _ => none }
def ApplyFormatsWrongFalsely : Prop := applyFormatsRow.holds Tryz.pinned (OpenSpec.ofChange applyFormatsWrong)

/-- 'standbylaw35.ApplyApplies': WHATEVER THE INPUT: true; the input reads as it did. -/
def applyAppliesSpec : ChangeSpec := { name := "applyApplies", fn := fun _ => fun
  | [d1, d2, d3] => { results := [.lit (.bool true)], args := [d1, d2, d3] }
  | _ => none }
def applyAppliesRow : OpenClaim := { program := "ytkghiceeegindaagreatdoor", sum := "4110df1ae630c613315aca4bbccb224d72338b55c9fe543b7a075bd8a82e2824", func := "standby/standbylaw35.ApplyApplies", spec := "applyApplies", unfollowed := true, recurses := true, named := ["unicode/utf8.first", "unicode/utf8.acceptRanges"], plainKeys := false, apart := false, laid := [("unicode/utf8.acceptRanges", laid_unicode_utf8_acceptRanges), ("unicode/utf8.first", laid_unicode_utf8_first)] }
def ApplyAppliesSaid : Prop := applyAppliesRow.holds Tryz.pinned (OpenSpec.ofChange applyAppliesSpec)

/-- ITS FALSE NEIGHBOUR: 'it returns false'. Refute it at one input. -/
def applyAppliesWrong : ChangeSpec := { name := "applyApplies", fn := fun _ => fun
  | [d1, d2, d3] => { results := [.lit (.bool false)], args := [d1, d2, d3] }
  | _ => none }
def ApplyAppliesWrongFalsely : Prop := applyAppliesRow.holds Tryz.pinned (OpenSpec.ofChange applyAppliesWrong)

/-- 'standbylaw35.ApplyReads': WHATEVER THE INPUT: true; the input reads as it did. -/
def applyReadsSpec : ChangeSpec := { name := "applyReads", fn := fun _ => fun
  | [d1, d2] => { results := [.lit (.bool true)], args := [d1, d2] }
  | _ => none }
def applyReadsRow : OpenClaim := { program := "ytkghiceeegindaagreatdoor", sum := "4110df1ae630c613315aca4bbccb224d72338b55c9fe543b7a075bd8a82e2824", func := "standby/standbylaw35.ApplyReads", spec := "applyReads", unfollowed := true, recurses := true, named := ["unicode/utf8.first", "unicode/utf8.acceptRanges"], plainKeys := false, apart := false, laid := [("unicode/utf8.acceptRanges", laid_unicode_utf8_acceptRanges), ("unicode/utf8.first", laid_unicode_utf8_first)] }
def ApplyReadsSaid : Prop := applyReadsRow.holds Tryz.pinned (OpenSpec.ofChange applyReadsSpec)

/-- ITS FALSE NEIGHBOUR: 'it returns false'. Refute it at one input. -/
def applyReadsWrong : ChangeSpec := { name := "applyReads", fn := fun _ => fun
  | [d1, d2] => { results := [.lit (.bool false)], args := [d1, d2] }
  | _ => none }
def ApplyReadsWrongFalsely : Prop := applyReadsRow.holds Tryz.pinned (OpenSpec.ofChange applyReadsWrong)

/-- 'standbylaw35.ApplySteps': WHATEVER THE INPUT: true; the input reads as it did. -/
def applyStepsSpec : ChangeSpec := { name := "applySteps", fn := fun _ => fun
  | [d1, d2, d3] => { results := [.lit (.bool true)], args := [d1, d2, d3] }
  | _ => none }
def applyStepsRow : OpenClaim := { program := "ytkghiceeegindaagreatdoor", sum := "4110df1ae630c613315aca4bbccb224d72338b55c9fe543b7a075bd8a82e2824", func := "standby/standbylaw35.ApplySteps", spec := "applySteps", unfollowed := true, recurses := true, named := ["unicode/utf8.first", "unicode/utf8.acceptRanges"], plainKeys := false, apart := false, laid := [("unicode/utf8.acceptRanges", laid_unicode_utf8_acceptRanges), ("unicode/utf8.first", laid_unicode_utf8_first)] }
def ApplyStepsSaid : Prop := applyStepsRow.holds Tryz.pinned (OpenSpec.ofChange applyStepsSpec)

/-- ITS FALSE NEIGHBOUR: 'it returns false'. Refute it at one input. -/
def applyStepsWrong : ChangeSpec := { name := "applySteps", fn := fun _ => fun
  | [d1, d2, d3] => { results := [.lit (.bool false)], args := [d1, d2, d3] }
  | _ => none }
def ApplyStepsWrongFalsely : Prop := applyStepsRow.holds Tryz.pinned (OpenSpec.ofChange applyStepsWrong)

/-- 'standbylaw35.ApplyAdvances': WHATEVER THE INPUT: true; the input reads as it did. -/
def applyAdvancesSpec : ChangeSpec := { name := "applyAdvances", fn := fun _ => fun
  | [d] => { results := [.lit (.bool true)], args := [d] }
  | _ => none }
def applyAdvancesRow : OpenClaim := { program := "ytkghiceeegindaagreatdoor", sum := "4110df1ae630c613315aca4bbccb224d72338b55c9fe543b7a075bd8a82e2824", func := "standby/standbylaw35.ApplyAdvances", spec := "applyAdvances", unfollowed := true, recurses := true, named := ["unicode/utf8.first", "unicode/utf8.acceptRanges"], plainKeys := false, apart := false, laid := [("unicode/utf8.acceptRanges", laid_unicode_utf8_acceptRanges), ("unicode/utf8.first", laid_unicode_utf8_first)] }
def ApplyAdvancesSaid : Prop := applyAdvancesRow.holds Tryz.pinned (OpenSpec.ofChange applyAdvancesSpec)

/-- ITS FALSE NEIGHBOUR: 'it returns false'. Refute it at one input. -/
def applyAdvancesWrong : ChangeSpec := { name := "applyAdvances", fn := fun _ => fun
  | [d] => { results := [.lit (.bool false)], args := [d] }
  | _ => none }
def ApplyAdvancesWrongFalsely : Prop := applyAdvancesRow.holds Tryz.pinned (OpenSpec.ofChange applyAdvancesWrong)

/-- 'standbylaw35.ApplyRecovers': WHATEVER THE INPUT: true; the input reads as it did. -/
def applyRecoversSpec : ChangeSpec := { name := "applyRecovers", fn := fun _ => fun
  | [d1, d2] => { results := [.lit (.bool true)], args := [d1, d2] }
  | _ => none }
def applyRecoversRow : OpenClaim := { program := "ytkghiceeegindaagreatdoor", sum := "4110df1ae630c613315aca4bbccb224d72338b55c9fe543b7a075bd8a82e2824", func := "standby/standbylaw35.ApplyRecovers", spec := "applyRecovers", unfollowed := true, recurses := true, named := ["unicode/utf8.first", "unicode/utf8.acceptRanges"], plainKeys := false, apart := false, laid := [("unicode/utf8.acceptRanges", laid_unicode_utf8_acceptRanges), ("unicode/utf8.first", laid_unicode_utf8_first)] }
def ApplyRecoversSaid : Prop := applyRecoversRow.holds Tryz.pinned (OpenSpec.ofChange applyRecoversSpec)

/-- ITS FALSE NEIGHBOUR: 'it returns false'. Refute it at one input. -/
def applyRecoversWrong : ChangeSpec := { name := "applyRecovers", fn := fun _ => fun
  | [d1, d2] => { results := [.lit (.bool false)], args := [d1, d2] }
  | _ => none }
def ApplyRecoversWrongFalsely : Prop := applyRecoversRow.holds Tryz.pinned (OpenSpec.ofChange applyRecoversWrong)

/-- 'standbylaw35.ApplyRaises': WHATEVER THE INPUT: true; the input reads as it did. -/
def applyRaisesSpec : ChangeSpec := { name := "applyRaises", fn := fun _ => fun
  | [d1, d2, d3] => { results := [.lit (.bool true)], args := [d1, d2, d3] }
  | _ => none }
def applyRaisesRow : OpenClaim := { program := "ytkghiceeegindaagreatdoor", sum := "4110df1ae630c613315aca4bbccb224d72338b55c9fe543b7a075bd8a82e2824", func := "standby/standbylaw35.ApplyRaises", spec := "applyRaises", unfollowed := true, recurses := true, named := ["unicode/utf8.first", "unicode/utf8.acceptRanges"], plainKeys := false, apart := false, laid := [("unicode/utf8.acceptRanges", laid_unicode_utf8_acceptRanges), ("unicode/utf8.first", laid_unicode_utf8_first)] }
def ApplyRaisesSaid : Prop := applyRaisesRow.holds Tryz.pinned (OpenSpec.ofChange applyRaisesSpec)

/-- ITS FALSE NEIGHBOUR: 'it returns false'. Refute it at one input. -/
def applyRaisesWrong : ChangeSpec := { name := "applyRaises", fn := fun _ => fun
  | [d1, d2, d3] => { results := [.lit (.bool false)], args := [d1, d2, d3] }
  | _ => none }
def ApplyRaisesWrongFalsely : Prop := applyRaisesRow.holds Tryz.pinned (OpenSpec.ofChange applyRaisesWrong)

/- THE SECOND FORM. 'bulk': how many values and letters a reading holds, each counted each time it is reached (what is shared counts as often as it is met; a slice's spare places count too). A statement '..UptoSaid' is the law's where the arguments, and the package variables that the reading takes, are together of bulk at most 1048576: NARROWER than '..Said'. Prove '..Said' where nothing that the law and all that it calls make is longer than what came in: it says more and counts as full. Else prove '..UptoSaid'. A law counts once. -/
mutual
def uptoBulk {H : Type} : DataW H → Nat
  | .lit (.string bytes) => bytes.length + 1
  | .lit _ => 1
  | .nil => 1
  | .ptr d => uptoBulk d + 1
  | .slice elems spare => uptoBulkAll elems + uptoBulkAll spare + 1
  | .agg parts => uptoBulkAll parts + 1
  | .iface _ d => uptoBulk d + 1
  | .map entries => uptoBulkEntries entries + 1
  | .held _ => 1
def uptoBulkAll {H : Type} : List (DataW H) → Nat
  | [] => 0
  | d :: r => uptoBulk d + uptoBulkAll r
def uptoBulkEntries {H : Type} : List (Lit × DataW H) → Nat
  | [] => 0
  | x :: r => uptoBulkEntry x + uptoBulkEntries r
def uptoBulkEntry {H : Type} : Lit × DataW H → Nat
  | (.string bytes, d) => bytes.length + uptoBulk d + 1
  | (_, d) => uptoBulk d + 1
 end
def uptoSmall : (H : Type) → List (DataW H) → Bool := fun _ ds => decide (uptoBulkAll ds ≤ 1048576)
def OpenSpec.upto (s : _root_.Go.ChangeSpec) : _root_.Go.OpenSpec := { _root_.Go.OpenSpec.ofChange s with cond := some uptoSmall }

/-- 'standbylaw35.ApplyFormats', WHERE WHAT IT READS IS OF BULK AT MOST 1048576: true; the input reads as it did. -/
def applyFormatsUptoRow : OpenClaim := { program := "ytkghiceeegindaagreatdoor", sum := "4110df1ae630c613315aca4bbccb224d72338b55c9fe543b7a075bd8a82e2824", func := "standby/standbylaw35.ApplyFormats", spec := "applyFormats", unfollowed := true, recurses := true, named := ["unicode/utf8.first", "unicode/utf8.acceptRanges"], plainKeys := false, apart := false, laid := [("unicode/utf8.acceptRanges", laid_unicode_utf8_acceptRanges), ("unicode/utf8.first", laid_unicode_utf8_first)], narrowed := true }
def ApplyFormatsUptoSaid : Prop := applyFormatsUptoRow.holds Tryz.pinned (OpenSpec.upto applyFormatsSpec)

/-- 'standbylaw35.ApplyApplies', WHERE WHAT IT READS IS OF BULK AT MOST 1048576: true; the input reads as it did. -/
def applyAppliesUptoRow : OpenClaim := { program := "ytkghiceeegindaagreatdoor", sum := "4110df1ae630c613315aca4bbccb224d72338b55c9fe543b7a075bd8a82e2824", func := "standby/standbylaw35.ApplyApplies", spec := "applyApplies", unfollowed := true, recurses := true, named := ["unicode/utf8.first", "unicode/utf8.acceptRanges"], plainKeys := false, apart := false, laid := [("unicode/utf8.acceptRanges", laid_unicode_utf8_acceptRanges), ("unicode/utf8.first", laid_unicode_utf8_first)], narrowed := true }
def ApplyAppliesUptoSaid : Prop := applyAppliesUptoRow.holds Tryz.pinned (OpenSpec.upto applyAppliesSpec)

/-- 'standbylaw35.ApplyReads', WHERE WHAT IT READS IS OF BULK AT MOST 1048576: true; the input reads as it did. -/
def applyReadsUptoRow : OpenClaim := { program := "ytkghiceeegindaagreatdoor", sum := "4110df1ae630c613315aca4bbccb224d72338b55c9fe543b7a075bd8a82e2824", func := "standby/standbylaw35.ApplyReads", spec := "applyReads", unfollowed := true, recurses := true, named := ["unicode/utf8.first", "unicode/utf8.acceptRanges"], plainKeys := false, apart := false, laid := [("unicode/utf8.acceptRanges", laid_unicode_utf8_acceptRanges), ("unicode/utf8.first", laid_unicode_utf8_first)], narrowed := true }
def ApplyReadsUptoSaid : Prop := applyReadsUptoRow.holds Tryz.pinned (OpenSpec.upto applyReadsSpec)

/-- 'standbylaw35.ApplySteps', WHERE WHAT IT READS IS OF BULK AT MOST 1048576: true; the input reads as it did. -/
def applyStepsUptoRow : OpenClaim := { program := "ytkghiceeegindaagreatdoor", sum := "4110df1ae630c613315aca4bbccb224d72338b55c9fe543b7a075bd8a82e2824", func := "standby/standbylaw35.ApplySteps", spec := "applySteps", unfollowed := true, recurses := true, named := ["unicode/utf8.first", "unicode/utf8.acceptRanges"], plainKeys := false, apart := false, laid := [("unicode/utf8.acceptRanges", laid_unicode_utf8_acceptRanges), ("unicode/utf8.first", laid_unicode_utf8_first)], narrowed := true }
def ApplyStepsUptoSaid : Prop := applyStepsUptoRow.holds Tryz.pinned (OpenSpec.upto applyStepsSpec)

/-- 'standbylaw35.ApplyAdvances', WHERE WHAT IT READS IS OF BULK AT MOST 1048576: true; the input reads as it did. -/
def applyAdvancesUptoRow : OpenClaim := { program := "ytkghiceeegindaagreatdoor", sum := "4110df1ae630c613315aca4bbccb224d72338b55c9fe543b7a075bd8a82e2824", func := "standby/standbylaw35.ApplyAdvances", spec := "applyAdvances", unfollowed := true, recurses := true, named := ["unicode/utf8.first", "unicode/utf8.acceptRanges"], plainKeys := false, apart := false, laid := [("unicode/utf8.acceptRanges", laid_unicode_utf8_acceptRanges), ("unicode/utf8.first", laid_unicode_utf8_first)], narrowed := true }
def ApplyAdvancesUptoSaid : Prop := applyAdvancesUptoRow.holds Tryz.pinned (OpenSpec.upto applyAdvancesSpec)

/-- 'standbylaw35.ApplyRecovers', WHERE WHAT IT READS IS OF BULK AT MOST 1048576: true; the input reads as it did. -/
def applyRecoversUptoRow : OpenClaim := { program := "ytkghiceeegindaagreatdoor", sum := "4110df1ae630c613315aca4bbccb224d72338b55c9fe543b7a075bd8a82e2824", func := "standby/standbylaw35.ApplyRecovers", spec := "applyRecovers", unfollowed := true, recurses := true, named := ["unicode/utf8.first", "unicode/utf8.acceptRanges"], plainKeys := false, apart := false, laid := [("unicode/utf8.acceptRanges", laid_unicode_utf8_acceptRanges), ("unicode/utf8.first", laid_unicode_utf8_first)], narrowed := true }
def ApplyRecoversUptoSaid : Prop := applyRecoversUptoRow.holds Tryz.pinned (OpenSpec.upto applyRecoversSpec)

/-- 'standbylaw35.ApplyRaises', WHERE WHAT IT READS IS OF BULK AT MOST 1048576: true; the input reads as it did. -/
def applyRaisesUptoRow : OpenClaim := { program := "ytkghiceeegindaagreatdoor", sum := "4110df1ae630c613315aca4bbccb224d72338b55c9fe543b7a075bd8a82e2824", func := "standby/standbylaw35.ApplyRaises", spec := "applyRaises", unfollowed := true, recurses := true, named := ["unicode/utf8.first", "unicode/utf8.acceptRanges"], plainKeys := false, apart := false, laid := [("unicode/utf8.acceptRanges", laid_unicode_utf8_acceptRanges), ("unicode/utf8.first", laid_unicode_utf8_first)], narrowed := true }
def ApplyRaisesUptoSaid : Prop := applyRaisesUptoRow.holds Tryz.pinned (OpenSpec.upto applyRaisesSpec)

end Rows
end Go.Proofs.YtkghiceeegindaaGreatDoor
