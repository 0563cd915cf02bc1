/-
  No cell of these rows narrows 'for every input' (looked for: loops, veiled, ifaces, maps, wideKeys, modest, calm, conditions, laid).
  DERIVED. THE GIVEN ROWS OF THIS SEAT. 4 by the template 'for every input the law returns true; each argument reads behind the call as it read before'; 0 by the template 'total and deterministic' (their statements: YtpeldefimkdkdaaGreatTotals.lean).
  GIVEN WITH THE SEED: the statements are not yours to turn. If you find one false, say at which input.
  Laid BY PROGRAM, IN A SANDBOX (cutbox-rows.mjs): the forced cells as the released guide's own fill.sh prints them over the translation ae3113bfec59a698… (all of the seat's roots in one cut). By AI agents, Wed Nov 11 2026. No macro, syntax, notation, axiom, sorry.
-/
import Derived.Test.YtpeldefimkdkdaaGreatChecked
import GoSem.Claim
import GoSem.ClaimJoined
import GoSem.ClaimMapViews
import Derived.JoinedTies
import Derived.KernelRfl
namespace Go.Proofs.YtpeldefimkdkdaaGreat
/- THE CELL 'sum', in the pinned program and in every row, IS THE sha256 OF THE DUMP (.gsa) THAT YtpeldefimkdkdaaGreatProg.lean LOADS. Nothing in Lean hashes anything: it is a label: what it is worth is what the hold of that sum in a sandbox is worth. -/
noncomputable def Tryz.pinned : Pinned := { name := "ytpeldefimkdkdaagreat", sum := "ae3113bfec59a698d3b9c0195a9d36900d2309ec61dd3f16f321e9e07c2b777e", checked := Tryz.checked }
namespace Rows
def none {H : Type} : Left H := { results := [], args := [] }

/-- 'standbylaw34.StagingChecks': WHATEVER THE INPUT: true; the input reads as it did. -/
def stagingChecksSpec : ChangeSpec := { name := "stagingChecks", fn := fun _ => fun
  | [d1, d2] => { results := [.lit (.bool true)], args := [d1, d2] }
  | _ => none }
def stagingChecksRow : OpenClaim := { program := "ytpeldefimkdkdaagreat", sum := "ae3113bfec59a698d3b9c0195a9d36900d2309ec61dd3f16f321e9e07c2b777e", func := "standby/standbylaw34.StagingChecks", spec := "stagingChecks", inPlace := ["slices.overlaps[standby/api.Staged]"], unfollowed := true, recurses := true, apart := false }
def StagingChecksSaid : Prop := stagingChecksRow.holds Tryz.pinned (OpenSpec.ofChange stagingChecksSpec)

/-- ITS FALSE NEIGHBOUR: 'it returns false'. Refute it at one input. -/
def stagingChecksWrong : ChangeSpec := { name := "stagingChecks", fn := fun _ => fun
  | [d1, d2] => { results := [.lit (.bool false)], args := [d1, d2] }
  | _ => none }
def StagingChecksWrongFalsely : Prop := stagingChecksRow.holds Tryz.pinned (OpenSpec.ofChange stagingChecksWrong)

/-- 'standbylaw34.StagingAdds': WHATEVER THE INPUT: true; the input reads as it did. -/
def stagingAddsSpec : ChangeSpec := { name := "stagingAdds", fn := fun _ => fun
  | [d1, d2, d3] => { results := [.lit (.bool true)], args := [d1, d2, d3] }
  | _ => none }
def stagingAddsRow : OpenClaim := { program := "ytpeldefimkdkdaagreat", sum := "ae3113bfec59a698d3b9c0195a9d36900d2309ec61dd3f16f321e9e07c2b777e", func := "standby/standbylaw34.StagingAdds", spec := "stagingAdds", inPlace := ["slices.overlaps[standby/api.Staged]"], unfollowed := true, recurses := true, apart := false }
def StagingAddsSaid : Prop := stagingAddsRow.holds Tryz.pinned (OpenSpec.ofChange stagingAddsSpec)

/-- ITS FALSE NEIGHBOUR: 'it returns false'. Refute it at one input. -/
def stagingAddsWrong : ChangeSpec := { name := "stagingAdds", fn := fun _ => fun
  | [d1, d2, d3] => { results := [.lit (.bool false)], args := [d1, d2, d3] }
  | _ => none }
def StagingAddsWrongFalsely : Prop := stagingAddsRow.holds Tryz.pinned (OpenSpec.ofChange stagingAddsWrong)

/-- 'standbylaw34.StagingDelivers': WHATEVER THE INPUT: true; the input reads as it did. -/
def stagingDeliversSpec : ChangeSpec := { name := "stagingDelivers", fn := fun _ => fun
  | [d1, d2, d3] => { results := [.lit (.bool true)], args := [d1, d2, d3] }
  | _ => none }
def stagingDeliversRow : OpenClaim := { program := "ytpeldefimkdkdaagreat", sum := "ae3113bfec59a698d3b9c0195a9d36900d2309ec61dd3f16f321e9e07c2b777e", func := "standby/standbylaw34.StagingDelivers", spec := "stagingDelivers", inPlace := ["slices.overlaps[standby/api.Staged]"], unfollowed := true, recurses := true, apart := false }
def StagingDeliversSaid : Prop := stagingDeliversRow.holds Tryz.pinned (OpenSpec.ofChange stagingDeliversSpec)

/-- ITS FALSE NEIGHBOUR: 'it returns false'. Refute it at one input. -/
def stagingDeliversWrong : ChangeSpec := { name := "stagingDelivers", fn := fun _ => fun
  | [d1, d2, d3] => { results := [.lit (.bool false)], args := [d1, d2, d3] }
  | _ => none }
def StagingDeliversWrongFalsely : Prop := stagingDeliversRow.holds Tryz.pinned (OpenSpec.ofChange stagingDeliversWrong)

/-- 'standbylaw34.StagingRefuses': WHATEVER THE INPUT: true; the input reads as it did. -/
def stagingRefusesSpec : ChangeSpec := { name := "stagingRefuses", fn := fun _ => fun
  | [d1, d2, d3] => { results := [.lit (.bool true)], args := [d1, d2, d3] }
  | _ => none }
def stagingRefusesRow : OpenClaim := { program := "ytpeldefimkdkdaagreat", sum := "ae3113bfec59a698d3b9c0195a9d36900d2309ec61dd3f16f321e9e07c2b777e", func := "standby/standbylaw34.StagingRefuses", spec := "stagingRefuses", inPlace := ["slices.overlaps[standby/api.Staged]"], unfollowed := true, recurses := true, apart := false }
def StagingRefusesSaid : Prop := stagingRefusesRow.holds Tryz.pinned (OpenSpec.ofChange stagingRefusesSpec)

/-- ITS FALSE NEIGHBOUR: 'it returns false'. Refute it at one input. -/
def stagingRefusesWrong : ChangeSpec := { name := "stagingRefuses", fn := fun _ => fun
  | [d1, d2, d3] => { results := [.lit (.bool false)], args := [d1, d2, d3] }
  | _ => none }
def StagingRefusesWrongFalsely : Prop := stagingRefusesRow.holds Tryz.pinned (OpenSpec.ofChange stagingRefusesWrong)

/- THE SECOND FORM. 'bulk': how many values and letters a reading holds, each counted each time it is reached (what is shared counts as often as it is met; a slice's spare places count too). A statement '..UptoSaid' is the law's where the arguments, and the package variables that the reading takes, are together of bulk at most 1048576: NARROWER than '..Said'. Prove '..Said' where nothing that the law and all that it calls make is longer than what came in: it says more and counts as full. Else prove '..UptoSaid'. A law counts once. -/
mutual
def uptoBulk {H : Type} : DataW H → Nat
  | .lit (.string bytes) => bytes.length + 1
  | .lit _ => 1
  | .nil => 1
  | .ptr d => uptoBulk d + 1
  | .slice elems spare => uptoBulkAll elems + uptoBulkAll spare + 1
  | .agg parts => uptoBulkAll parts + 1
  | .iface _ d => uptoBulk d + 1
  | .map entries => uptoBulkEntries entries + 1
  | .held _ => 1
def uptoBulkAll {H : Type} : List (DataW H) → Nat
  | [] => 0
  | d :: r => uptoBulk d + uptoBulkAll r
def uptoBulkEntries {H : Type} : List (Lit × DataW H) → Nat
  | [] => 0
  | x :: r => uptoBulkEntry x + uptoBulkEntries r
def uptoBulkEntry {H : Type} : Lit × DataW H → Nat
  | (.string bytes, d) => bytes.length + uptoBulk d + 1
  | (_, d) => uptoBulk d + 1
 end
def uptoSmall : (H : Type) → List (DataW H) → Bool := fun _ ds => decide (uptoBulkAll ds ≤ 1048576)
def OpenSpec.upto (s : _root_.Go.ChangeSpec) : _root_.Go.OpenSpec := { _root_.Go.OpenSpec.ofChange s with cond := some uptoSmall }

/-- 'standbylaw34.StagingChecks', WHERE WHAT IT READS IS OF BULK AT MOST 1048576: true; the input reads as it did. -/
def stagingChecksUptoRow : OpenClaim := { program := "ytpeldefimkdkdaagreat", sum := "ae3113bfec59a698d3b9c0195a9d36900d2309ec61dd3f16f321e9e07c2b777e", func := "standby/standbylaw34.StagingChecks", spec := "stagingChecks", inPlace := ["slices.overlaps[standby/api.Staged]"], unfollowed := true, recurses := true, apart := false, narrowed := true }
def StagingChecksUptoSaid : Prop := stagingChecksUptoRow.holds Tryz.pinned (OpenSpec.upto stagingChecksSpec)

/-- 'standbylaw34.StagingAdds', WHERE WHAT IT READS IS OF BULK AT MOST 1048576: true; the input reads as it did. -/
def stagingAddsUptoRow : OpenClaim := { program := "ytpeldefimkdkdaagreat", sum := "ae3113bfec59a698d3b9c0195a9d36900d2309ec61dd3f16f321e9e07c2b777e", func := "standby/standbylaw34.StagingAdds", spec := "stagingAdds", inPlace := ["slices.overlaps[standby/api.Staged]"], unfollowed := true, recurses := true, apart := false, narrowed := true }
def StagingAddsUptoSaid : Prop := stagingAddsUptoRow.holds Tryz.pinned (OpenSpec.upto stagingAddsSpec)

/-- 'standbylaw34.StagingDelivers', WHERE WHAT IT READS IS OF BULK AT MOST 1048576: true; the input reads as it did. -/
def stagingDeliversUptoRow : OpenClaim := { program := "ytpeldefimkdkdaagreat", sum := "ae3113bfec59a698d3b9c0195a9d36900d2309ec61dd3f16f321e9e07c2b777e", func := "standby/standbylaw34.StagingDelivers", spec := "stagingDelivers", inPlace := ["slices.overlaps[standby/api.Staged]"], unfollowed := true, recurses := true, apart := false, narrowed := true }
def StagingDeliversUptoSaid : Prop := stagingDeliversUptoRow.holds Tryz.pinned (OpenSpec.upto stagingDeliversSpec)

/-- 'standbylaw34.StagingRefuses', WHERE WHAT IT READS IS OF BULK AT MOST 1048576: true; the input reads as it did. -/
def stagingRefusesUptoRow : OpenClaim := { program := "ytpeldefimkdkdaagreat", sum := "ae3113bfec59a698d3b9c0195a9d36900d2309ec61dd3f16f321e9e07c2b777e", func := "standby/standbylaw34.StagingRefuses", spec := "stagingRefuses", inPlace := ["slices.overlaps[standby/api.Staged]"], unfollowed := true, recurses := true, apart := false, narrowed := true }
def StagingRefusesUptoSaid : Prop := stagingRefusesUptoRow.holds Tryz.pinned (OpenSpec.upto stagingRefusesSpec)

end Rows
end Go.Proofs.YtpeldefimkdkdaaGreat
