/- The law 'StagingDrops' answers true for every input, and its arguments read afterwards as they read before; its tied card. No condition. -/
import Derived.Test.YtioafciifiggaaaGreatDoorRows
import Derived.Test.YtioafciifiggaaaGreatDoorCards
import Derived.Test.YtioafciifiggaaaGreatDoorTie
import Derived.Test.YtioafciifiggaaaGreatDoorAzf
import Derived.Test.YtioafciifiggaaaGreatDoorAzf
import Derived.WalkKit
import Derived.ProofKit
import Derived.OpenShut
import Derived.Lib.SmallJoins
import Derived.LaidMore
import Derived.Lay
import Derived.SevenTiedAt
import Derived.Stop.Joined
import Derived.Test.YtioafciifiggaaaGreatDoorAzd
namespace Go.Proofs.YtioafciifiggaaaGreatDoor.drops
open Go.Proofs.YtioafciifiggaaaGreatDoor
open Go.AL
open Go.ChangeShapes Go.WideShapes Go.ChangeAt Go.RowKit Go.Joins
set_option linter.unusedVariables false
set_option linter.unusedSimpArgs false

theorem own : ownKnob Tryz.prog.godebug = none := by kernel_rfl
theorem laidOut : laidOutB Tryz.prog = true := by kernel_rfl

set_option maxRecDepth 100000 in
theorem lifted (os : Os) (started : os.Started) (H : Type) (enc : TypeId × Value → H) :
    ReturnsInHanded {} Tryz.checked os 3 .any (fun w args => (Rows.stagingDropsSpec.pre enc Tryz.prog Tryz.f3 Rows.stagingDropsRow.domain false w args ∧ laidMetH Tryz.prog Rows.stagingDropsRow.laid w) ∧ sizedMet enc Tryz.prog Tryz.f3 (OpenSpec.ofChange Rows.stagingDropsSpec) false w args) (Rows.stagingDropsSpec.post enc Tryz.prog Tryz.f3 false true false false) := by
  refine returnsInHanded_of_change_and (C := Tryz.checked) (X := fun w _ => laidMetH Tryz.prog Rows.stagingDropsRow.laid w) (fun _ _ _ hh h => h.of_heap hh) own started (by kernel_rfl) Tryz.func3
    (ChangeSpec.witness_shaped (enc := enc) (C := Tryz.checked) (os := os) (X := fun w _ => laidMetH Tryz.prog Rows.stagingDropsRow.laid w) false (World.laidAll Tryz.prog os Rows.stagingDropsRow.laid) #[.agg #[.slice none 0 0, .slice none 0 0], .agg #[.int .i64 0, .int .i64 0, .int .i64 0, .int .i64 0, .int .i64 0, .slice none 0 0, .slice none 0 0], .int .i64 0] 8 (World.laidAll_os _ _ _)
      (World.shaped_of_ZipB (by kernel_rfl) (by kernel_rfl)) (by kernel_rfl) (by kernel_rfl) (by kernel_rfl)
      (by rw [MakeChecks.laidMetH_plain _ _ _ (by kernel_rfl)]; exact laidMet_laidAll _ (by kernel_rfl) (by kernel_rfl))) ?_
  intro W base args ds gs before hval0 hW hcnd _ hL _
  have hval : ∀ (j : Nat) t v, Tryz.f3.params[j]? = some t → args[j]? = some v → Value.okWide Tryz.prog W .any base t v := hval0
  have hW' := hW
  obtain ⟨p, q, hA0, hV, rfl, hfz, hnd⟩ := hW
  have hA : DataW.TrodAll enc Tryz.prog W 0 (fun _ => true) true Tryz.f3.params.toList args.toList ds p := hA0
  rw [Tryz.params3] at hA hval
  obtain ⟨v0, vs0, d0, ds0, p0, q0, hargs, rfl, rfl, h0, r0⟩ := trodAll_cons hA
  obtain ⟨v1, vs1, d1, ds1, p1, q1, rfl, rfl, rfl, h1, r1⟩ := trodAll_cons r0
  obtain ⟨v2, vs2, d2, ds2, p2, q2, rfl, rfl, rfl, h2, r2⟩ := trodAll_cons r1
  obtain ⟨rfl, rfl, rfl⟩ := trodAll_nil r2
  obtain rfl : args = #[v0, v1, v2] := by cases args; simp_all
  obtain ⟨rfl, rfl⟩ := trodVars_none hV
  clear hA0
  have hlt : ∀ x ∈ p0 ++ (p1 ++ (p2 ++ [])), x.block < W.heap.size := fun x hx => by
    have hx' : x ∈ (p0 ++ (p1 ++ (p2 ++ []))) ++ ([] : List MemPlace) := by simpa using hx
    exact hW'.lt x (by simpa using hx)
  have hk0 : ∀ W', Below W.heap.size W W' → DataW.Trod enc Tryz.prog W' 0 (fun b => decide (b < W.heap.size)) true _ v0 d0 p0 :=
    fun W' hn => Below.trod laidOut (by kernel_rfl) (of_decide_eq_true (by kernel_rfl)) h0 hn (fun x hx => hlt x (by simp [hx]))
  have hk1 : ∀ W', Below W.heap.size W W' → DataW.Trod enc Tryz.prog W' 0 (fun b => decide (b < W.heap.size)) true _ v1 d1 p1 :=
    fun W' hn => Below.trod laidOut (by kernel_rfl) (of_decide_eq_true (by kernel_rfl)) h1 hn (fun x hx => hlt x (by simp [hx]))
  have hk2 : ∀ W', Below W.heap.size W W' → DataW.Trod enc Tryz.prog W' 0 (fun b => decide (b < W.heap.size)) true _ v2 d2 p2 :=
    fun W' hn => Below.trod laidOut (by kernel_rfl) (of_decide_eq_true (by kernel_rfl)) h2 hn (fun x hx => hlt x (by simp [hx]))
  obtain ⟨as0, c0, w0⟩ := open_agg 10 shpD (.inl ⟨_, Tryz.underlying25⟩) (hval 0 25 v0 rfl rfl) h0
  obtain ⟨d, ⟨hd0, hd1, hd2⟩, rfl⟩ := open_dsk as0 c0
  obtain ⟨as1, c1, w1⟩ := open_agg 10 shpSt (.inl ⟨_, Tryz.underlying33⟩) (hval 1 33 v1 rfl rfl) h1
  obtain ⟨s, hs, rfl⟩ := open_st as1 c1
  obtain ⟨as2, c2, w2⟩ := open_one 10 shpI (fun fs h => by rw [Tryz.underlying3] at h; cases h) (fun n e h => by rw [Tryz.underlying3] at h; cases h) (hval 2 3 v2 rfl rfl) h2
  obtain ⟨n, rfl⟩ := open_i64 c2
  refine (PCall.calls (lawD_p d s n hd0 hd1 hd2 hs) W [v0, v1, v2] (.cons w0 (.cons w1 (.cons w2 .nil)))).mono fun e W' ⟨he, hg⟩ => ?_
  subst he
  refine ⟨_, rfl, _, _, _, [], p0 ++ (p1 ++ (p2 ++ [])), [], hW', ?_, ?_, rfl, hg.frame _, fun h => by cases h⟩
  · exact trodAll_cons_mk (shut_bool Tryz.underlying4 _) trodAll_mk0
  · exact (trodAll_cons_mk (hk0 W' hg) (trodAll_cons_mk (hk1 W' hg) (trodAll_cons_mk (hk2 W' hg) trodAll_mk0)))

theorem q0 : (jfL Tryz.prog 3 Tryz.f3 Rows.stagingDropsSpec Rows.stagingDropsRow).getD 0 true = true := by kernel_rfl
theorem q1 : (jfL Tryz.prog 3 Tryz.f3 Rows.stagingDropsSpec Rows.stagingDropsRow).getD 1 true = true := by kernel_rfl
theorem q2 : (jfL Tryz.prog 3 Tryz.f3 Rows.stagingDropsSpec Rows.stagingDropsRow).getD 2 true = true := by kernel_rfl
theorem q3 : (jfL Tryz.prog 3 Tryz.f3 Rows.stagingDropsSpec Rows.stagingDropsRow).getD 3 true = true := by kernel_rfl
theorem q4 : (jfL Tryz.prog 3 Tryz.f3 Rows.stagingDropsSpec Rows.stagingDropsRow).getD 4 true = true := by kernel_rfl
theorem q5 : (jfL Tryz.prog 3 Tryz.f3 Rows.stagingDropsSpec Rows.stagingDropsRow).getD 5 true = true := by kernel_rfl
theorem q6 : (jfL Tryz.prog 3 Tryz.f3 Rows.stagingDropsSpec Rows.stagingDropsRow).getD 6 true = true := by kernel_rfl
theorem q7 : (jfL Tryz.prog 3 Tryz.f3 Rows.stagingDropsSpec Rows.stagingDropsRow).getD 7 true = true := by kernel_rfl
theorem q8 : (jfL Tryz.prog 3 Tryz.f3 Rows.stagingDropsSpec Rows.stagingDropsRow).getD 8 true = true := by kernel_rfl
theorem q9 : (jfL Tryz.prog 3 Tryz.f3 Rows.stagingDropsSpec Rows.stagingDropsRow).getD 9 true = true := by kernel_rfl
theorem q10 : (jfL Tryz.prog 3 Tryz.f3 Rows.stagingDropsSpec Rows.stagingDropsRow).getD 10 true = true := by kernel_rfl
theorem q11 : (jfL Tryz.prog 3 Tryz.f3 Rows.stagingDropsSpec Rows.stagingDropsRow).getD 11 true = true := by kernel_rfl
theorem q12 : (jfL Tryz.prog 3 Tryz.f3 Rows.stagingDropsSpec Rows.stagingDropsRow).getD 12 true = true := by kernel_rfl
theorem q13 : (jfL Tryz.prog 3 Tryz.f3 Rows.stagingDropsSpec Rows.stagingDropsRow).getD 13 true = true := by kernel_rfl
theorem q14 : (jfL Tryz.prog 3 Tryz.f3 Rows.stagingDropsSpec Rows.stagingDropsRow).getD 14 true = true := by kernel_rfl
theorem q15 : (jfL Tryz.prog 3 Tryz.f3 Rows.stagingDropsSpec Rows.stagingDropsRow).getD 15 true = true := by kernel_rfl
theorem q16 : (jfL Tryz.prog 3 Tryz.f3 Rows.stagingDropsSpec Rows.stagingDropsRow).getD 16 true = true := by kernel_rfl
theorem q17 : (jfL Tryz.prog 3 Tryz.f3 Rows.stagingDropsSpec Rows.stagingDropsRow).getD 17 true = true := by kernel_rfl
theorem q18 : (jfL Tryz.prog 3 Tryz.f3 Rows.stagingDropsSpec Rows.stagingDropsRow).getD 18 true = true := by kernel_rfl
theorem q19 : (jfL Tryz.prog 3 Tryz.f3 Rows.stagingDropsSpec Rows.stagingDropsRow).getD 19 true = true := by kernel_rfl
theorem q20 : (jfL Tryz.prog 3 Tryz.f3 Rows.stagingDropsSpec Rows.stagingDropsRow).getD 20 true = true := by kernel_rfl
theorem q21 : (jfL Tryz.prog 3 Tryz.f3 Rows.stagingDropsSpec Rows.stagingDropsRow).getD 21 true = true := by kernel_rfl
theorem q22 : (jfL Tryz.prog 3 Tryz.f3 Rows.stagingDropsSpec Rows.stagingDropsRow).getD 22 true = true := by kernel_rfl
theorem q23 : (jfL Tryz.prog 3 Tryz.f3 Rows.stagingDropsSpec Rows.stagingDropsRow).getD 23 true = true := by kernel_rfl
theorem q24 : (jfL Tryz.prog 3 Tryz.f3 Rows.stagingDropsSpec Rows.stagingDropsRow).getD 24 true = true := by kernel_rfl
theorem q25 : (jfL Tryz.prog 3 Tryz.f3 Rows.stagingDropsSpec Rows.stagingDropsRow).getD 25 true = true := by kernel_rfl
theorem q26 : (jfL Tryz.prog 3 Tryz.f3 Rows.stagingDropsSpec Rows.stagingDropsRow).getD 26 true = true := by kernel_rfl
theorem q27 : (jfL Tryz.prog 3 Tryz.f3 Rows.stagingDropsSpec Rows.stagingDropsRow).getD 27 true = true := by kernel_rfl
theorem q28 : (jfL Tryz.prog 3 Tryz.f3 Rows.stagingDropsSpec Rows.stagingDropsRow).getD 28 true = true := by kernel_rfl
theorem q29 : (jfL Tryz.prog 3 Tryz.f3 Rows.stagingDropsSpec Rows.stagingDropsRow).getD 29 true = true := by kernel_rfl
theorem q30 : (jfL Tryz.prog 3 Tryz.f3 Rows.stagingDropsSpec Rows.stagingDropsRow).getD 30 true = true := by kernel_rfl
theorem q31 : (jfL Tryz.prog 3 Tryz.f3 Rows.stagingDropsSpec Rows.stagingDropsRow).getD 31 true = true := by kernel_rfl
theorem closed : joinedFacts Tryz.prog 3 Tryz.f3 Rows.stagingDropsSpec Rows.stagingDropsRow = true := joined_of (all_of (fun
  | 0, _ => q0
  | 1, _ => q1
  | 2, _ => q2
  | 3, _ => q3
  | 4, _ => q4
  | 5, _ => q5
  | 6, _ => q6
  | 7, _ => q7
  | 8, _ => q8
  | 9, _ => q9
  | 10, _ => q10
  | 11, _ => q11
  | 12, _ => q12
  | 13, _ => q13
  | 14, _ => q14
  | 15, _ => q15
  | 16, _ => q16
  | 17, _ => q17
  | 18, _ => q18
  | 19, _ => q19
  | 20, _ => q20
  | 21, _ => q21
  | 22, _ => q22
  | 23, _ => q23
  | 24, _ => q24
  | 25, _ => q25
  | 26, _ => q26
  | 27, _ => q27
  | 28, _ => q28
  | 29, _ => q29
  | 30, _ => q30
  | 31, _ => q31
  | n + 32, hi => absurd hi (by simp only [jfL, List.length_cons, List.length_nil]; omega)))
theorem named : Tryz.prog.funcNamed "standby/standbylaw34.StagingDrops" = some 3 := by kernel_rfl
theorem instd : decide (Tryz.f3.isInstance Tryz.prog Rows.stagingDropsRow.origin Rows.stagingDropsRow.targs) = true := by kernel_rfl
theorem wrapd : Tryz.f3.isWrapper Tryz.prog Rows.stagingDropsRow.wrapper Rows.stagingDropsRow.mainSum := by
  unfold Func.isWrapper
  first | (rw [if_pos (by decide +kernel)]; kernel_rfl) | (rw [if_neg (by decide +kernel)]; exact ⟨rfl, rfl⟩)
theorem over : Rows.StagingDropsSaid :=
  OpenClaim.holds_of_wide 3 Tryz.f3 rfl rfl rfl rfl rfl rfl rfl ⟨rfl, rfl, rfl, rfl, rfl⟩ rfl rfl rfl rfl rfl named Tryz.func3 closed
    (of_decide_eq_true instd) wrapd
    (fun os started H enc _ => lifted os started H enc)
theorem texted : Rows.stagingDropsRow.wfByText (OpenSpec.ofChange Rows.stagingDropsSpec) = true := by kernel_rfl
theorem mained : Tryz.prog.mainIs = some (true, "0a2165e19ba7b655097ca7dddfb6882c595446ef560aa40ca61dfd33685467e1".toList) := by kernel_rfl
theorem looked : true = Tryz.prog.looks [] := by kernel_rfl
theorem gone : false = Rows.stagingDropsRow.goesBy Tryz.prog := by kernel_rfl
theorem stand : ([25, 33, 3].all fun u => !Tryz.prog.wantsStandIn u) = true := by kernel_rfl
theorem proved : Rows.StagingDropsCardSaid :=
  Claim7.holds_tied_plain_at .later [] [.data, .pinned] true (true, "0a2165e19ba7b655097ca7dddfb6882c595446ef560aa40ca61dfd33685467e1") true over (fun _ h => by cases h) texted (fun _ h => by cases h) stagingDrops_row_tie rfl ⟨rfl, rfl⟩ mained rfl
    (fun f fn hf hfn => by
      obtain rfl : f = 3 := Option.some.inj (named.symm.trans hf) |>.symm
      obtain rfl : fn = Tryz.f3 := (Option.some.inj (Tryz.func3.symm.trans hfn)).symm
      exact ⟨looked, fun j t ht => by
        rw [Tryz.params3] at ht
        have hm : t ∈ [25, 33, 3] := by simpa using Array.mem_of_getElem? ht
        exact (show Tryz.prog.wantsStandIn t = false by simpa using List.all_eq_true.1 stand t hm)⟩)
    gone
end Go.Proofs.YtioafciifiggaaaGreatDoor.drops
