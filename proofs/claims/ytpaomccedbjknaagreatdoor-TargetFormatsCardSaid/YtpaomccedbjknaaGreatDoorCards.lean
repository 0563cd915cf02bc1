/-
  DERIVED. GIVEN WITH THE SEED: THE CARDS: each row of YtpaomccedbjknaaGreatDoorRows.lean that lists a variable, with what it lists TIED to the program's text (the seventh form; the later family's looks); each row that meets fmt, with fmt's text TOLD by the authors' own Lean function (tested against real Go, not proved from fmt's source: count such statements apart). THE CARD IS WHAT COUNTS. Prove the row's statement (the work); the ties are given (YtpaomccedbjknaaGreatDoorTie.lean); close each card by the builder's one call (the guide's Derived/Test/ToyasCard.lean, 'card_holds'). Laid BY PROGRAM, IN A SANDBOX (cutbox-door.mjs). By AI agents, Wed Nov 11 2026. No macro, syntax, notation, axiom, sorry.
-/
import Derived.Test.YtpaomccedbjknaaGreatDoorRows
import GoSem.ClaimSeven
namespace Go.Proofs.YtpaomccedbjknaaGreatDoor
namespace Rows

/-- THE TIED CARD OF 'standbylaw40.TargetFormats'. -/
def targetFormatsCard : Claim7 := { stood := { row := targetFormatsRow, standIns := [], harness := (true, "26c7f3f1ed936ea0d273837a6831d80a48a810bf063b10ba1685325148d90dac"), looks := true }, kinds := [], alts := [], laidByText := true, laidKinds := [.data, .pinned], laidTests := true, laidLooks := .later }
def TargetFormatsCardSaid : Prop := Claim7.holds Tryz.pinned (.plain (OpenSpec.ofChange targetFormatsSpec)) targetFormatsCard

/-- THE SECOND FORM's CARD OF 'standbylaw40.TargetFormats'. -/
def targetFormatsUptoCard : Claim7 := { stood := { row := targetFormatsUptoRow, standIns := [], harness := (true, "26c7f3f1ed936ea0d273837a6831d80a48a810bf063b10ba1685325148d90dac"), looks := true }, kinds := [], alts := [], laidByText := true, laidKinds := [.data, .pinned], laidTests := true, laidLooks := .later }
def TargetFormatsUptoCardSaid : Prop := Claim7.holds Tryz.pinned (.plain (OpenSpec.upto targetFormatsSpec)) targetFormatsUptoCard
end Rows
end Go.Proofs.YtpaomccedbjknaaGreatDoor
