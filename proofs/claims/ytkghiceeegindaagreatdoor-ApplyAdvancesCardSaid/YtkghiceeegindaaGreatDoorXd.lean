/- The law 'ApplyAdvances' answers true for every input, and its arguments read afterwards as they read before; its tied card. No condition. -/
import Derived.Test.YtkghiceeegindaaGreatDoorRows
import Derived.Test.YtkghiceeegindaaGreatDoorCards
import Derived.Test.YtkghiceeegindaaGreatDoorTie
import Derived.Test.YtkghiceeegindaaGreatDoorAp
import Derived.WalkKit
import Derived.ProofKit
import Derived.OpenShut
import Derived.Lib.SmallJoins
import Derived.LaidMore
import Derived.Lay
import Derived.SevenTiedAt
import Derived.Stop.Joined
namespace Go.Proofs.YtkghiceeegindaaGreatDoor.advances
open Go.Proofs.YtkghiceeegindaaGreatDoor
open Go.AL
open Go.ChangeShapes Go.WideShapes Go.ChangeAt Go.RowKit Go.Joins
set_option linter.unusedVariables false
set_option linter.unusedSimpArgs false

theorem own : ownKnob Tryz.prog.godebug = none := by kernel_rfl
theorem laidOut : laidOutB Tryz.prog = true := by kernel_rfl

set_option maxRecDepth 100000 in
theorem lifted (os : Os) (started : os.Started) (H : Type) (enc : TypeId × Value → H) :
    ReturnsInHanded {} Tryz.checked os 7 .any (fun w args => (Rows.applyAdvancesSpec.pre enc Tryz.prog Tryz.f7 Rows.applyAdvancesRow.domain false w args ∧ laidMetH Tryz.prog Rows.applyAdvancesRow.laid w) ∧ sizedMet enc Tryz.prog Tryz.f7 (OpenSpec.ofChange Rows.applyAdvancesSpec) false w args) (Rows.applyAdvancesSpec.post enc Tryz.prog Tryz.f7 false true false false) := by
  refine returnsInHanded_of_change_and (C := Tryz.checked) (X := fun w _ => laidMetH Tryz.prog Rows.applyAdvancesRow.laid w) (fun _ _ _ hh h => h.of_heap hh) own started (by kernel_rfl) Tryz.func7
    (ChangeSpec.witness_shaped (enc := enc) (C := Tryz.checked) (os := os) (X := fun w _ => laidMetH Tryz.prog Rows.applyAdvancesRow.laid w) false (World.laidAll Tryz.prog os Rows.applyAdvancesRow.laid) #[.agg #[.slice none 0 0, .slice none 0 0]] 8 (World.laidAll_os _ _ _)
      (World.shaped_of_ZipB (by kernel_rfl) (by kernel_rfl)) (by kernel_rfl) (by kernel_rfl) (by kernel_rfl)
      (by rw [MakeChecks.laidMetH_plain _ _ _ (by kernel_rfl)]; exact laidMet_laidAll _ (by kernel_rfl) (by kernel_rfl))) ?_
  intro W base args ds gs before hval0 hW hcnd _ hL _
  have hval : ∀ (j : Nat) t v, Tryz.f7.params[j]? = some t → args[j]? = some v → Value.okWide Tryz.prog W .any base t v := hval0
  have hW' := hW
  obtain ⟨p, q, hA0, hV, rfl, hfz, hnd⟩ := hW
  have hA : DataW.TrodAll enc Tryz.prog W 0 (fun _ => true) true Tryz.f7.params.toList args.toList ds p := hA0
  rw [Tryz.params7] at hA hval
  obtain ⟨v0, vs0, d0, ds0, p0, q0, hargs, rfl, rfl, h0, r0⟩ := trodAll_cons hA
  obtain ⟨rfl, rfl, rfl⟩ := trodAll_nil r0
  obtain rfl : args = #[v0] := by cases args; simp_all
  obtain ⟨rfl, rfl⟩ := trodVars_none hV
  clear hA0
  have hlt : ∀ x ∈ p0 ++ [], x.block < W.heap.size := fun x hx => by
    have hx' : x ∈ (p0 ++ []) ++ ([] : List MemPlace) := by simpa using hx
    exact hW'.lt x (by simpa using hx)
  have hk0 : ∀ W', Below W.heap.size W W' → DataW.Trod enc Tryz.prog W' 0 (fun b => decide (b < W.heap.size)) true _ v0 d0 p0 :=
    fun W' hn => Below.trod laidOut (by kernel_rfl) (of_decide_eq_true (by kernel_rfl)) h0 hn (fun x hx => hlt x (by simp [hx]))
  obtain ⟨as0, c0, w0⟩ := open_agg 10 shp73 (.inl ⟨_, Tryz.underlying73⟩) (hval 0 73 v0 rfl rfl) h0
  obtain ⟨pl, ⟨hp1, hp2, hp3⟩, rfl⟩ := open_pln as0 c0
  refine (PCall.calls (law7_p pl hp1 hp2 (fun l hl => ⟨(hp3 l hl).2, fun w hw => ((hp3 l hl).1 w hw).2⟩) (fun l hl w hw => ((hp3 l hl).1 w hw).1)) W [v0] (.cons w0 .nil)).mono fun e W' ⟨he, hg⟩ => ?_
  subst he
  refine ⟨_, rfl, _, _, _, [], p0 ++ [], [], hW', ?_, ?_, rfl, hg.frame _, fun h => by cases h⟩
  · exact trodAll_cons_mk (shut_bool Tryz.underlying4 _) trodAll_mk0
  · exact (trodAll_cons_mk (hk0 W' hg) trodAll_mk0)

theorem over : Rows.ApplyAdvancesSaid :=
  OpenClaim.holds_of_wide 7 Tryz.f7 rfl rfl rfl rfl rfl rfl rfl ⟨rfl, rfl, rfl, rfl, rfl⟩ rfl rfl rfl rfl rfl (by kernel_rfl) Tryz.func7 (by kernel_rfl)
    (of_decide_eq_true (by kernel_rfl)) (by unfold Func.isWrapper; first | (rw [if_pos (by decide +kernel)]; kernel_rfl) | (rw [if_neg (by decide +kernel)]; exact ⟨rfl, rfl⟩))
    (fun os started H enc _ => lifted os started H enc)

theorem proved : Rows.ApplyAdvancesCardSaid :=
  Claim7.holds_tied_plain_at .later [] [.data, .pinned] true (true, "83f7b47a34839266745347236ff028302a8ea2620eacfc9b1b3dbf19592a106e") false over (fun _ h => by cases h) (by kernel_rfl) (fun _ h => by cases h) applyAdvances_row_tie rfl ⟨rfl, rfl⟩ (by kernel_rfl) rfl
    (fun f fn hf hfn => by
      obtain rfl : f = 7 := Option.some.inj ((show Tryz.prog.funcNamed "standby/standbylaw35.ApplyAdvances" = some 7 by kernel_rfl).symm.trans hf) |>.symm
      obtain rfl : fn = Tryz.f7 := (Option.some.inj (Tryz.func7.symm.trans hfn)).symm
      exact ⟨by kernel_rfl, fun j t ht => by
        rw [Tryz.params7] at ht
        have hm : t ∈ [73] := by simpa using Array.mem_of_getElem? ht
        have hall : ([73].all fun u => !Tryz.prog.wantsStandIn u) = true := by kernel_rfl
        exact (show Tryz.prog.wantsStandIn t = false by simpa using List.all_eq_true.1 hall t hm)⟩)
    (by kernel_rfl)
end Go.Proofs.YtkghiceeegindaaGreatDoor.advances
