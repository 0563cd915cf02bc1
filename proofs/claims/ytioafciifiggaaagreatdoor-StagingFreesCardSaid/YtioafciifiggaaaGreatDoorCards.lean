/-
  DERIVED. GIVEN WITH THE SEED: THE CARDS: each row of YtioafciifiggaaaGreatDoorRows.lean that lists a variable, with what it lists TIED to the program's text (the seventh form; the later family's looks); each row that meets fmt, with fmt's text TOLD by the authors' own Lean function (tested against real Go, not proved from fmt's source: count such statements apart). THE CARD IS WHAT COUNTS. Prove the row's statement (the work); the ties are given (YtioafciifiggaaaGreatDoorTie.lean); close each card by the builder's one call (the guide's Derived/Test/ToyasCard.lean, 'card_holds'). Laid BY PROGRAM, IN A SANDBOX (cutbox-door.mjs). By AI agents, Wed Nov 11 2026. No macro, syntax, notation, axiom, sorry.
-/
import Derived.Test.YtioafciifiggaaaGreatDoorRows
import GoSem.ClaimSeven
namespace Go.Proofs.YtioafciifiggaaaGreatDoor
namespace Rows

/-- THE TIED CARD OF 'standbylaw34.StagingDrops'. -/
def stagingDropsCard : Claim7 := { stood := { row := stagingDropsRow, standIns := [], harness := (true, "0a2165e19ba7b655097ca7dddfb6882c595446ef560aa40ca61dfd33685467e1"), looks := true }, kinds := [], alts := [], laidByText := true, laidKinds := [.data, .pinned], laidTests := true, laidLooks := .later }
def StagingDropsCardSaid : Prop := Claim7.holds Tryz.pinned (.plain (OpenSpec.ofChange stagingDropsSpec)) stagingDropsCard

/-- THE TIED CARD OF 'standbylaw34.StagingOpens'. -/
def stagingOpensCard : Claim7 := { stood := { row := stagingOpensRow, standIns := [], harness := (true, "0a2165e19ba7b655097ca7dddfb6882c595446ef560aa40ca61dfd33685467e1"), looks := true }, kinds := [], alts := [], laidByText := true, laidKinds := [.data, .pinned], laidTests := true, laidLooks := .later }
def StagingOpensCardSaid : Prop := Claim7.holds Tryz.pinned (.plain (OpenSpec.ofChange stagingOpensSpec)) stagingOpensCard

/-- THE TIED CARD OF 'standbylaw34.StagingFrees'. -/
def stagingFreesCard : Claim7 := { stood := { row := stagingFreesRow, standIns := [], harness := (true, "0a2165e19ba7b655097ca7dddfb6882c595446ef560aa40ca61dfd33685467e1"), looks := true }, kinds := [], alts := [], laidByText := true, laidKinds := [.data, .pinned], laidTests := true, laidLooks := .later }
def StagingFreesCardSaid : Prop := Claim7.holds Tryz.pinned (.plain (OpenSpec.ofChange stagingFreesSpec)) stagingFreesCard

/-- THE TIED CARD OF 'standbylaw34.StagingSurvives'. -/
def stagingSurvivesCard : Claim7 := { stood := { row := stagingSurvivesRow, standIns := [], harness := (true, "0a2165e19ba7b655097ca7dddfb6882c595446ef560aa40ca61dfd33685467e1"), looks := true }, kinds := [], alts := [], laidByText := true, laidKinds := [.data, .pinned], laidTests := true, laidLooks := .later }
def StagingSurvivesCardSaid : Prop := Claim7.holds Tryz.pinned (.plain (OpenSpec.ofChange stagingSurvivesSpec)) stagingSurvivesCard

/-- THE SECOND FORM's CARD OF 'standbylaw34.StagingDrops'. -/
def stagingDropsUptoCard : Claim7 := { stood := { row := stagingDropsUptoRow, standIns := [], harness := (true, "0a2165e19ba7b655097ca7dddfb6882c595446ef560aa40ca61dfd33685467e1"), looks := true }, kinds := [], alts := [], laidByText := true, laidKinds := [.data, .pinned], laidTests := true, laidLooks := .later }
def StagingDropsUptoCardSaid : Prop := Claim7.holds Tryz.pinned (.plain (OpenSpec.upto stagingDropsSpec)) stagingDropsUptoCard

/-- THE SECOND FORM's CARD OF 'standbylaw34.StagingOpens'. -/
def stagingOpensUptoCard : Claim7 := { stood := { row := stagingOpensUptoRow, standIns := [], harness := (true, "0a2165e19ba7b655097ca7dddfb6882c595446ef560aa40ca61dfd33685467e1"), looks := true }, kinds := [], alts := [], laidByText := true, laidKinds := [.data, .pinned], laidTests := true, laidLooks := .later }
def StagingOpensUptoCardSaid : Prop := Claim7.holds Tryz.pinned (.plain (OpenSpec.upto stagingOpensSpec)) stagingOpensUptoCard

/-- THE SECOND FORM's CARD OF 'standbylaw34.StagingFrees'. -/
def stagingFreesUptoCard : Claim7 := { stood := { row := stagingFreesUptoRow, standIns := [], harness := (true, "0a2165e19ba7b655097ca7dddfb6882c595446ef560aa40ca61dfd33685467e1"), looks := true }, kinds := [], alts := [], laidByText := true, laidKinds := [.data, .pinned], laidTests := true, laidLooks := .later }
def StagingFreesUptoCardSaid : Prop := Claim7.holds Tryz.pinned (.plain (OpenSpec.upto stagingFreesSpec)) stagingFreesUptoCard

/-- THE SECOND FORM's CARD OF 'standbylaw34.StagingSurvives'. -/
def stagingSurvivesUptoCard : Claim7 := { stood := { row := stagingSurvivesUptoRow, standIns := [], harness := (true, "0a2165e19ba7b655097ca7dddfb6882c595446ef560aa40ca61dfd33685467e1"), looks := true }, kinds := [], alts := [], laidByText := true, laidKinds := [.data, .pinned], laidTests := true, laidLooks := .later }
def StagingSurvivesUptoCardSaid : Prop := Claim7.holds Tryz.pinned (.plain (OpenSpec.upto stagingSurvivesSpec)) stagingSurvivesUptoCard
end Rows
end Go.Proofs.YtioafciifiggaaaGreatDoor
