/-
  No cell of these rows narrows 'for every input' (looked for: loops, veiled, ifaces, maps, wideKeys, modest, calm, conditions, laid).
  DERIVED. THE GIVEN ROWS OF THIS SEAT. 7 by the template 'for every input the law returns true; each argument reads behind the call as it read before'; 0 by the template 'total and deterministic' (their statements: YtelkpeoilneikaaTotals.lean).
  GIVEN WITH THE SEED: the statements are not yours to turn. If you find one false, say at which input.
  Laid BY PROGRAM, IN A SANDBOX (cutbox-rows.mjs): the forced cells as the released guide's own fill.sh prints them over the translation 89f1dc05008df8f1… (all of the seat's roots in one cut). By AI agents, Wed Nov 11 2026. No macro, syntax, notation, axiom, sorry.
-/
import Derived.Test.YtelkpeoilneikaaChecked
import GoSem.Claim
import GoSem.ClaimJoined
import GoSem.ClaimMapViews
import Derived.JoinedTies
import Derived.KernelRfl
namespace Go.Proofs.Ytelkpeoilneikaa
/- THE CELL 'sum', in the pinned program and in every row, IS THE sha256 OF THE DUMP (.gsa) THAT YtelkpeoilneikaaProg.lean LOADS. Nothing in Lean hashes anything: it is a label: what it is worth is what the hold of that sum in a sandbox is worth. -/
noncomputable def Try.pinned : Pinned := { name := "ytelkpeoilneikaa", sum := "89f1dc05008df8f1d5d3262d3cae3dd9c09acde220514dee8476af6660faa142", checked := Try.checked }
namespace Rows
def none {H : Type} : Left H := { results := [], args := [] }

/-- 'standbylaw50.WitnessHandles': WHATEVER THE INPUT: true; the input reads as it did. -/
def witnessHandlesSpec : ChangeSpec := { name := "witnessHandles", fn := fun _ => fun
  | [d1, d2] => { results := [.lit (.bool true)], args := [d1, d2] }
  | _ => none }
def witnessHandlesRow : OpenClaim := { program := "ytelkpeoilneikaa", sum := "89f1dc05008df8f1d5d3262d3cae3dd9c09acde220514dee8476af6660faa142", func := "standby/standbylaw50.WitnessHandles", spec := "witnessHandles", unfollowed := true, recurses := true, apart := false }
def WitnessHandlesSaid : Prop := witnessHandlesRow.holds Try.pinned (OpenSpec.ofChange witnessHandlesSpec)

/-- ITS FALSE NEIGHBOUR: 'it returns false'. Refute it at one input. -/
def witnessHandlesWrong : ChangeSpec := { name := "witnessHandles", fn := fun _ => fun
  | [d1, d2] => { results := [.lit (.bool false)], args := [d1, d2] }
  | _ => none }
def WitnessHandlesWrongFalsely : Prop := witnessHandlesRow.holds Try.pinned (OpenSpec.ofChange witnessHandlesWrong)

/-- 'standbylaw50.WitnessLearns': WHATEVER THE INPUT: true; the input reads as it did. -/
def witnessLearnsSpec : ChangeSpec := { name := "witnessLearns", fn := fun _ => fun
  | [d1, d2] => { results := [.lit (.bool true)], args := [d1, d2] }
  | _ => none }
def witnessLearnsRow : OpenClaim := { program := "ytelkpeoilneikaa", sum := "89f1dc05008df8f1d5d3262d3cae3dd9c09acde220514dee8476af6660faa142", func := "standby/standbylaw50.WitnessLearns", spec := "witnessLearns", unfollowed := true, recurses := true, apart := false }
def WitnessLearnsSaid : Prop := witnessLearnsRow.holds Try.pinned (OpenSpec.ofChange witnessLearnsSpec)

/-- ITS FALSE NEIGHBOUR: 'it returns false'. Refute it at one input. -/
def witnessLearnsWrong : ChangeSpec := { name := "witnessLearns", fn := fun _ => fun
  | [d1, d2] => { results := [.lit (.bool false)], args := [d1, d2] }
  | _ => none }
def WitnessLearnsWrongFalsely : Prop := witnessLearnsRow.holds Try.pinned (OpenSpec.ofChange witnessLearnsWrong)

/-- 'standbylaw50.WitnessAsks': WHATEVER THE INPUT: true; the input reads as it did. -/
def witnessAsksSpec : ChangeSpec := { name := "witnessAsks", fn := fun _ => fun
  | [d1, d2, d3] => { results := [.lit (.bool true)], args := [d1, d2, d3] }
  | _ => none }
def witnessAsksRow : OpenClaim := { program := "ytelkpeoilneikaa", sum := "89f1dc05008df8f1d5d3262d3cae3dd9c09acde220514dee8476af6660faa142", func := "standby/standbylaw50.WitnessAsks", spec := "witnessAsks", unfollowed := true, recurses := true, apart := false }
def WitnessAsksSaid : Prop := witnessAsksRow.holds Try.pinned (OpenSpec.ofChange witnessAsksSpec)

/-- ITS FALSE NEIGHBOUR: 'it returns false'. Refute it at one input. -/
def witnessAsksWrong : ChangeSpec := { name := "witnessAsks", fn := fun _ => fun
  | [d1, d2, d3] => { results := [.lit (.bool false)], args := [d1, d2, d3] }
  | _ => none }
def WitnessAsksWrongFalsely : Prop := witnessAsksRow.holds Try.pinned (OpenSpec.ofChange witnessAsksWrong)

/-- 'standbylaw50.WitnessExclusive': WHATEVER THE INPUT: true; the input reads as it did. -/
def witnessExclusiveSpec : ChangeSpec := { name := "witnessExclusive", fn := fun _ => fun
  | [d] => { results := [.lit (.bool true)], args := [d] }
  | _ => none }
def witnessExclusiveRow : OpenClaim := { program := "ytelkpeoilneikaa", sum := "89f1dc05008df8f1d5d3262d3cae3dd9c09acde220514dee8476af6660faa142", func := "standby/standbylaw50.WitnessExclusive", spec := "witnessExclusive", unfollowed := true, recurses := true, apart := false }
def WitnessExclusiveSaid : Prop := witnessExclusiveRow.holds Try.pinned (OpenSpec.ofChange witnessExclusiveSpec)

/-- ITS FALSE NEIGHBOUR: 'it returns false'. Refute it at one input. -/
def witnessExclusiveWrong : ChangeSpec := { name := "witnessExclusive", fn := fun _ => fun
  | [d] => { results := [.lit (.bool false)], args := [d] }
  | _ => none }
def WitnessExclusiveWrongFalsely : Prop := witnessExclusiveRow.holds Try.pinned (OpenSpec.ofChange witnessExclusiveWrong)

/-- 'standbylaw50.WitnessAgrees': WHATEVER THE INPUT: true; the input reads as it did. -/
def witnessAgreesSpec : ChangeSpec := { name := "witnessAgrees", fn := fun _ => fun
  | [d] => { results := [.lit (.bool true)], args := [d] }
  | _ => none }
def witnessAgreesRow : OpenClaim := { program := "ytelkpeoilneikaa", sum := "89f1dc05008df8f1d5d3262d3cae3dd9c09acde220514dee8476af6660faa142", func := "standby/standbylaw50.WitnessAgrees", spec := "witnessAgrees", unfollowed := true, recurses := true, apart := false }
def WitnessAgreesSaid : Prop := witnessAgreesRow.holds Try.pinned (OpenSpec.ofChange witnessAgreesSpec)

/-- ITS FALSE NEIGHBOUR: 'it returns false'. Refute it at one input. -/
def witnessAgreesWrong : ChangeSpec := { name := "witnessAgrees", fn := fun _ => fun
  | [d] => { results := [.lit (.bool false)], args := [d] }
  | _ => none }
def WitnessAgreesWrongFalsely : Prop := witnessAgreesRow.holds Try.pinned (OpenSpec.ofChange witnessAgreesWrong)

/-- 'standbylaw50.WitnessEpochs': WHATEVER THE INPUT: true; the input reads as it did. -/
def witnessEpochsSpec : ChangeSpec := { name := "witnessEpochs", fn := fun _ => fun
  | [d] => { results := [.lit (.bool true)], args := [d] }
  | _ => none }
def witnessEpochsRow : OpenClaim := { program := "ytelkpeoilneikaa", sum := "89f1dc05008df8f1d5d3262d3cae3dd9c09acde220514dee8476af6660faa142", func := "standby/standbylaw50.WitnessEpochs", spec := "witnessEpochs", unfollowed := true, recurses := true, apart := false }
def WitnessEpochsSaid : Prop := witnessEpochsRow.holds Try.pinned (OpenSpec.ofChange witnessEpochsSpec)

/-- ITS FALSE NEIGHBOUR: 'it returns false'. Refute it at one input. -/
def witnessEpochsWrong : ChangeSpec := { name := "witnessEpochs", fn := fun _ => fun
  | [d] => { results := [.lit (.bool false)], args := [d] }
  | _ => none }
def WitnessEpochsWrongFalsely : Prop := witnessEpochsRow.holds Try.pinned (OpenSpec.ofChange witnessEpochsWrong)

/-- 'standbylaw50.WitnessGrants': WHATEVER THE INPUT: true; the input reads as it did. -/
def witnessGrantsSpec : ChangeSpec := { name := "witnessGrants", fn := fun _ => fun
  | [d1, d2] => { results := [.lit (.bool true)], args := [d1, d2] }
  | _ => none }
def witnessGrantsRow : OpenClaim := { program := "ytelkpeoilneikaa", sum := "89f1dc05008df8f1d5d3262d3cae3dd9c09acde220514dee8476af6660faa142", func := "standby/standbylaw50.WitnessGrants", spec := "witnessGrants", unfollowed := true, recurses := true, apart := false }
def WitnessGrantsSaid : Prop := witnessGrantsRow.holds Try.pinned (OpenSpec.ofChange witnessGrantsSpec)

/-- ITS FALSE NEIGHBOUR: 'it returns false'. Refute it at one input. -/
def witnessGrantsWrong : ChangeSpec := { name := "witnessGrants", fn := fun _ => fun
  | [d1, d2] => { results := [.lit (.bool false)], args := [d1, d2] }
  | _ => none }
def WitnessGrantsWrongFalsely : Prop := witnessGrantsRow.holds Try.pinned (OpenSpec.ofChange witnessGrantsWrong)

/- THE SECOND FORM. 'bulk': how many values and letters a reading holds, each counted each time it is reached (what is shared counts as often as it is met; a slice's spare places count too). A statement '..UptoSaid' is the law's where the arguments, and the package variables that the reading takes, are together of bulk at most 1048576: NARROWER than '..Said'. Prove '..Said' where nothing that the law and all that it calls make is longer than what came in: it says more and counts as full. Else prove '..UptoSaid'. A law counts once. -/
mutual
def uptoBulk {H : Type} : DataW H → Nat
  | .lit (.string bytes) => bytes.length + 1
  | .lit _ => 1
  | .nil => 1
  | .ptr d => uptoBulk d + 1
  | .slice elems spare => uptoBulkAll elems + uptoBulkAll spare + 1
  | .agg parts => uptoBulkAll parts + 1
  | .iface _ d => uptoBulk d + 1
  | .map entries => uptoBulkEntries entries + 1
  | .held _ => 1
def uptoBulkAll {H : Type} : List (DataW H) → Nat
  | [] => 0
  | d :: r => uptoBulk d + uptoBulkAll r
def uptoBulkEntries {H : Type} : List (Lit × DataW H) → Nat
  | [] => 0
  | x :: r => uptoBulkEntry x + uptoBulkEntries r
def uptoBulkEntry {H : Type} : Lit × DataW H → Nat
  | (.string bytes, d) => bytes.length + uptoBulk d + 1
  | (_, d) => uptoBulk d + 1
 end
def uptoSmall : (H : Type) → List (DataW H) → Bool := fun _ ds => decide (uptoBulkAll ds ≤ 1048576)
def OpenSpec.upto (s : _root_.Go.ChangeSpec) : _root_.Go.OpenSpec := { _root_.Go.OpenSpec.ofChange s with cond := some uptoSmall }

/-- 'standbylaw50.WitnessHandles', WHERE WHAT IT READS IS OF BULK AT MOST 1048576: true; the input reads as it did. -/
def witnessHandlesUptoRow : OpenClaim := { program := "ytelkpeoilneikaa", sum := "89f1dc05008df8f1d5d3262d3cae3dd9c09acde220514dee8476af6660faa142", func := "standby/standbylaw50.WitnessHandles", spec := "witnessHandles", unfollowed := true, recurses := true, apart := false, narrowed := true }
def WitnessHandlesUptoSaid : Prop := witnessHandlesUptoRow.holds Try.pinned (OpenSpec.upto witnessHandlesSpec)

/-- 'standbylaw50.WitnessLearns', WHERE WHAT IT READS IS OF BULK AT MOST 1048576: true; the input reads as it did. -/
def witnessLearnsUptoRow : OpenClaim := { program := "ytelkpeoilneikaa", sum := "89f1dc05008df8f1d5d3262d3cae3dd9c09acde220514dee8476af6660faa142", func := "standby/standbylaw50.WitnessLearns", spec := "witnessLearns", unfollowed := true, recurses := true, apart := false, narrowed := true }
def WitnessLearnsUptoSaid : Prop := witnessLearnsUptoRow.holds Try.pinned (OpenSpec.upto witnessLearnsSpec)

/-- 'standbylaw50.WitnessAsks', WHERE WHAT IT READS IS OF BULK AT MOST 1048576: true; the input reads as it did. -/
def witnessAsksUptoRow : OpenClaim := { program := "ytelkpeoilneikaa", sum := "89f1dc05008df8f1d5d3262d3cae3dd9c09acde220514dee8476af6660faa142", func := "standby/standbylaw50.WitnessAsks", spec := "witnessAsks", unfollowed := true, recurses := true, apart := false, narrowed := true }
def WitnessAsksUptoSaid : Prop := witnessAsksUptoRow.holds Try.pinned (OpenSpec.upto witnessAsksSpec)

/-- 'standbylaw50.WitnessExclusive', WHERE WHAT IT READS IS OF BULK AT MOST 1048576: true; the input reads as it did. -/
def witnessExclusiveUptoRow : OpenClaim := { program := "ytelkpeoilneikaa", sum := "89f1dc05008df8f1d5d3262d3cae3dd9c09acde220514dee8476af6660faa142", func := "standby/standbylaw50.WitnessExclusive", spec := "witnessExclusive", unfollowed := true, recurses := true, apart := false, narrowed := true }
def WitnessExclusiveUptoSaid : Prop := witnessExclusiveUptoRow.holds Try.pinned (OpenSpec.upto witnessExclusiveSpec)

/-- 'standbylaw50.WitnessAgrees', WHERE WHAT IT READS IS OF BULK AT MOST 1048576: true; the input reads as it did. -/
def witnessAgreesUptoRow : OpenClaim := { program := "ytelkpeoilneikaa", sum := "89f1dc05008df8f1d5d3262d3cae3dd9c09acde220514dee8476af6660faa142", func := "standby/standbylaw50.WitnessAgrees", spec := "witnessAgrees", unfollowed := true, recurses := true, apart := false, narrowed := true }
def WitnessAgreesUptoSaid : Prop := witnessAgreesUptoRow.holds Try.pinned (OpenSpec.upto witnessAgreesSpec)

/-- 'standbylaw50.WitnessEpochs', WHERE WHAT IT READS IS OF BULK AT MOST 1048576: true; the input reads as it did. -/
def witnessEpochsUptoRow : OpenClaim := { program := "ytelkpeoilneikaa", sum := "89f1dc05008df8f1d5d3262d3cae3dd9c09acde220514dee8476af6660faa142", func := "standby/standbylaw50.WitnessEpochs", spec := "witnessEpochs", unfollowed := true, recurses := true, apart := false, narrowed := true }
def WitnessEpochsUptoSaid : Prop := witnessEpochsUptoRow.holds Try.pinned (OpenSpec.upto witnessEpochsSpec)

/-- 'standbylaw50.WitnessGrants', WHERE WHAT IT READS IS OF BULK AT MOST 1048576: true; the input reads as it did. -/
def witnessGrantsUptoRow : OpenClaim := { program := "ytelkpeoilneikaa", sum := "89f1dc05008df8f1d5d3262d3cae3dd9c09acde220514dee8476af6660faa142", func := "standby/standbylaw50.WitnessGrants", spec := "witnessGrants", unfollowed := true, recurses := true, apart := false, narrowed := true }
def WitnessGrantsUptoSaid : Prop := witnessGrantsUptoRow.holds Try.pinned (OpenSpec.upto witnessGrantsSpec)

end Rows
end Go.Proofs.Ytelkpeoilneikaa
