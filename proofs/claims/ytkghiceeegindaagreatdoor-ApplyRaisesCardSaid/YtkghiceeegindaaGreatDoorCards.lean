/-
  DERIVED. GIVEN WITH THE SEED: THE CARDS: each row of YtkghiceeegindaaGreatDoorRows.lean that lists a variable, with what it lists TIED to the program's text (the seventh form; the later family's looks); each row that meets fmt, with fmt's text TOLD by the authors' own Lean function (tested against real Go, not proved from fmt's source: count such statements apart). THE CARD IS WHAT COUNTS. Prove the row's statement (the work); the ties are given (YtkghiceeegindaaGreatDoorTie.lean); close each card by the builder's one call (the guide's Derived/Test/ToyasCard.lean, 'card_holds'). Laid BY PROGRAM, IN A SANDBOX (cutbox-door.mjs). By AI agents, Wed Nov 11 2026. No macro, syntax, notation, axiom, sorry.
-/
import Derived.Test.YtkghiceeegindaaGreatDoorRows
import GoSem.ClaimSeven
namespace Go.Proofs.YtkghiceeegindaaGreatDoor
namespace Rows

/-- THE TIED CARD OF 'standbylaw35.ApplyFormats'. -/
def applyFormatsCard : Claim7 := { stood := { row := applyFormatsRow, standIns := [], harness := (true, "83f7b47a34839266745347236ff028302a8ea2620eacfc9b1b3dbf19592a106e"), looks := false }, kinds := [], alts := [], laidByText := true, laidKinds := [.data, .pinned], laidTests := true, laidLooks := .later }
def ApplyFormatsCardSaid : Prop := Claim7.holds Tryz.pinned (.plain (OpenSpec.ofChange applyFormatsSpec)) applyFormatsCard

/-- THE TIED CARD OF 'standbylaw35.ApplyApplies'. -/
def applyAppliesCard : Claim7 := { stood := { row := applyAppliesRow, standIns := [], harness := (true, "83f7b47a34839266745347236ff028302a8ea2620eacfc9b1b3dbf19592a106e"), looks := false }, kinds := [], alts := [], laidByText := true, laidKinds := [.data, .pinned], laidTests := true, laidLooks := .later }
def ApplyAppliesCardSaid : Prop := Claim7.holds Tryz.pinned (.plain (OpenSpec.ofChange applyAppliesSpec)) applyAppliesCard

/-- THE TIED CARD OF 'standbylaw35.ApplyReads'. -/
def applyReadsCard : Claim7 := { stood := { row := applyReadsRow, standIns := [], harness := (true, "83f7b47a34839266745347236ff028302a8ea2620eacfc9b1b3dbf19592a106e"), looks := false }, kinds := [], alts := [], laidByText := true, laidKinds := [.data, .pinned], laidTests := true, laidLooks := .later }
def ApplyReadsCardSaid : Prop := Claim7.holds Tryz.pinned (.plain (OpenSpec.ofChange applyReadsSpec)) applyReadsCard

/-- THE TIED CARD OF 'standbylaw35.ApplySteps'. -/
def applyStepsCard : Claim7 := { stood := { row := applyStepsRow, standIns := [], harness := (true, "83f7b47a34839266745347236ff028302a8ea2620eacfc9b1b3dbf19592a106e"), looks := false }, kinds := [], alts := [], laidByText := true, laidKinds := [.data, .pinned], laidTests := true, laidLooks := .later }
def ApplyStepsCardSaid : Prop := Claim7.holds Tryz.pinned (.plain (OpenSpec.ofChange applyStepsSpec)) applyStepsCard

/-- THE TIED CARD OF 'standbylaw35.ApplyAdvances'. -/
def applyAdvancesCard : Claim7 := { stood := { row := applyAdvancesRow, standIns := [], harness := (true, "83f7b47a34839266745347236ff028302a8ea2620eacfc9b1b3dbf19592a106e"), looks := false }, kinds := [], alts := [], laidByText := true, laidKinds := [.data, .pinned], laidTests := true, laidLooks := .later }
def ApplyAdvancesCardSaid : Prop := Claim7.holds Tryz.pinned (.plain (OpenSpec.ofChange applyAdvancesSpec)) applyAdvancesCard

/-- THE TIED CARD OF 'standbylaw35.ApplyRecovers'. -/
def applyRecoversCard : Claim7 := { stood := { row := applyRecoversRow, standIns := [], harness := (true, "83f7b47a34839266745347236ff028302a8ea2620eacfc9b1b3dbf19592a106e"), looks := false }, kinds := [], alts := [], laidByText := true, laidKinds := [.data, .pinned], laidTests := true, laidLooks := .later }
def ApplyRecoversCardSaid : Prop := Claim7.holds Tryz.pinned (.plain (OpenSpec.ofChange applyRecoversSpec)) applyRecoversCard

/-- THE TIED CARD OF 'standbylaw35.ApplyRaises'. -/
def applyRaisesCard : Claim7 := { stood := { row := applyRaisesRow, standIns := [], harness := (true, "83f7b47a34839266745347236ff028302a8ea2620eacfc9b1b3dbf19592a106e"), looks := false }, kinds := [], alts := [], laidByText := true, laidKinds := [.data, .pinned], laidTests := true, laidLooks := .later }
def ApplyRaisesCardSaid : Prop := Claim7.holds Tryz.pinned (.plain (OpenSpec.ofChange applyRaisesSpec)) applyRaisesCard

/-- THE SECOND FORM's CARD OF 'standbylaw35.ApplyFormats'. -/
def applyFormatsUptoCard : Claim7 := { stood := { row := applyFormatsUptoRow, standIns := [], harness := (true, "83f7b47a34839266745347236ff028302a8ea2620eacfc9b1b3dbf19592a106e"), looks := false }, kinds := [], alts := [], laidByText := true, laidKinds := [.data, .pinned], laidTests := true, laidLooks := .later }
def ApplyFormatsUptoCardSaid : Prop := Claim7.holds Tryz.pinned (.plain (OpenSpec.upto applyFormatsSpec)) applyFormatsUptoCard

/-- THE SECOND FORM's CARD OF 'standbylaw35.ApplyApplies'. -/
def applyAppliesUptoCard : Claim7 := { stood := { row := applyAppliesUptoRow, standIns := [], harness := (true, "83f7b47a34839266745347236ff028302a8ea2620eacfc9b1b3dbf19592a106e"), looks := false }, kinds := [], alts := [], laidByText := true, laidKinds := [.data, .pinned], laidTests := true, laidLooks := .later }
def ApplyAppliesUptoCardSaid : Prop := Claim7.holds Tryz.pinned (.plain (OpenSpec.upto applyAppliesSpec)) applyAppliesUptoCard

/-- THE SECOND FORM's CARD OF 'standbylaw35.ApplyReads'. -/
def applyReadsUptoCard : Claim7 := { stood := { row := applyReadsUptoRow, standIns := [], harness := (true, "83f7b47a34839266745347236ff028302a8ea2620eacfc9b1b3dbf19592a106e"), looks := false }, kinds := [], alts := [], laidByText := true, laidKinds := [.data, .pinned], laidTests := true, laidLooks := .later }
def ApplyReadsUptoCardSaid : Prop := Claim7.holds Tryz.pinned (.plain (OpenSpec.upto applyReadsSpec)) applyReadsUptoCard

/-- THE SECOND FORM's CARD OF 'standbylaw35.ApplySteps'. -/
def applyStepsUptoCard : Claim7 := { stood := { row := applyStepsUptoRow, standIns := [], harness := (true, "83f7b47a34839266745347236ff028302a8ea2620eacfc9b1b3dbf19592a106e"), looks := false }, kinds := [], alts := [], laidByText := true, laidKinds := [.data, .pinned], laidTests := true, laidLooks := .later }
def ApplyStepsUptoCardSaid : Prop := Claim7.holds Tryz.pinned (.plain (OpenSpec.upto applyStepsSpec)) applyStepsUptoCard

/-- THE SECOND FORM's CARD OF 'standbylaw35.ApplyAdvances'. -/
def applyAdvancesUptoCard : Claim7 := { stood := { row := applyAdvancesUptoRow, standIns := [], harness := (true, "83f7b47a34839266745347236ff028302a8ea2620eacfc9b1b3dbf19592a106e"), looks := false }, kinds := [], alts := [], laidByText := true, laidKinds := [.data, .pinned], laidTests := true, laidLooks := .later }
def ApplyAdvancesUptoCardSaid : Prop := Claim7.holds Tryz.pinned (.plain (OpenSpec.upto applyAdvancesSpec)) applyAdvancesUptoCard

/-- THE SECOND FORM's CARD OF 'standbylaw35.ApplyRecovers'. -/
def applyRecoversUptoCard : Claim7 := { stood := { row := applyRecoversUptoRow, standIns := [], harness := (true, "83f7b47a34839266745347236ff028302a8ea2620eacfc9b1b3dbf19592a106e"), looks := false }, kinds := [], alts := [], laidByText := true, laidKinds := [.data, .pinned], laidTests := true, laidLooks := .later }
def ApplyRecoversUptoCardSaid : Prop := Claim7.holds Tryz.pinned (.plain (OpenSpec.upto applyRecoversSpec)) applyRecoversUptoCard

/-- THE SECOND FORM's CARD OF 'standbylaw35.ApplyRaises'. -/
def applyRaisesUptoCard : Claim7 := { stood := { row := applyRaisesUptoRow, standIns := [], harness := (true, "83f7b47a34839266745347236ff028302a8ea2620eacfc9b1b3dbf19592a106e"), looks := false }, kinds := [], alts := [], laidByText := true, laidKinds := [.data, .pinned], laidTests := true, laidLooks := .later }
def ApplyRaisesUptoCardSaid : Prop := Claim7.holds Tryz.pinned (.plain (OpenSpec.upto applyRaisesSpec)) applyRaisesUptoCard
end Rows
end Go.Proofs.YtkghiceeegindaaGreatDoor
