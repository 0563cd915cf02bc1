/- The law 'StagingOpens' answers true for every input, and its arguments read afterwards as they read before; its tied card. No condition. -/
import Derived.Test.YtioafciifiggaaaGreatDoorL0
import Derived.Test.YtioafciifiggaaaGreatDoorRows
import Derived.Test.YtioafciifiggaaaGreatDoorCards
import Derived.Test.YtioafciifiggaaaGreatDoorTie
import Derived.Test.YtioafciifiggaaaGreatDoorAzq
import Derived.Test.YtioafciifiggaaaGreatDoorAze
import Derived.WalkKit
import Derived.ProofKit
import Derived.OpenShut
import Derived.Lib.SmallJoins
import Derived.LaidMore
import Derived.Lay
import Derived.SevenTiedAt
import Derived.Stop.Joined
import Derived.Test.YtioafciifiggaaaGreatDoorAzd
namespace Go.Proofs.YtioafciifiggaaaGreatDoor.opens
open Go.Proofs.YtioafciifiggaaaGreatDoor
open Go.AL
open Go.ChangeShapes Go.WideShapes Go.ChangeAt Go.RowKit Go.Joins
set_option linter.unusedVariables false
set_option linter.unusedSimpArgs false

theorem own : ownKnob Tryz.prog.godebug = none := by kernel_rfl
theorem laidOut : laidOutB Tryz.prog = true := by kernel_rfl

set_option maxRecDepth 100000 in
theorem lifted (os : Os) (started : os.Started) (H : Type) (enc : TypeId × Value -> H) :
    ReturnsInHanded {} Tryz.checked os 4 .any (fun w args => (Rows.stagingOpensSpec.pre enc Tryz.prog Tryz.f4 Rows.stagingOpensRow.domain false w args /\ laidMetH Tryz.prog Rows.stagingOpensRow.laid w) /\ sizedMet enc Tryz.prog Tryz.f4 (OpenSpec.ofChange Rows.stagingOpensSpec) false w args) (Rows.stagingOpensSpec.post enc Tryz.prog Tryz.f4 false true false false) := by
  refine returnsInHanded_of_change_and (C := Tryz.checked) (X := fun w _ => laidMetH Tryz.prog Rows.stagingOpensRow.laid w) (fun _ _ _ hh h => h.of_heap hh) own started (by kernel_rfl) Tryz.func4
    (ChangeSpec.witness_shaped (enc := enc) (C := Tryz.checked) (os := os) (X := fun w _ => laidMetH Tryz.prog Rows.stagingOpensRow.laid w) false (World.laidAll Tryz.prog os Rows.stagingOpensRow.laid) #[.agg #[.slice none 0 0, .slice none 0 0], .agg #[.int .i64 0, .int .i64 0]] 8 (World.laidAll_os _ _ _)
      (World.shaped_of_ZipB (by kernel_rfl) (by kernel_rfl)) (by kernel_rfl) (by kernel_rfl) (by kernel_rfl)
      (by rw [MakeChecks.laidMetH_plain _ _ _ (by kernel_rfl)]; exact laidMet_laidAll _ (by kernel_rfl) (by kernel_rfl))) ?_
  intro W base args ds gs before bs4 hW bN3 _ hL _
  have Io : ∀ (j : Nat) t v, Tryz.f4.params[j]? = some t -> args[j]? = some v -> Value.okWide Tryz.prog W .any base t v := bs4
  have Xw := hW
  obtain ⟨p, q, Xx, hV, rfl, sZ, sS⟩ := hW
  have hA : DataW.TrodAll enc Tryz.prog W 0 (fun _ => true) true Tryz.f4.params.toList args.toList ds p := Xx
  rw [Tryz.params4] at hA Io
  obtain ⟨v0, vs0, d0, ds0, p0, q0, lJ, rfl, rfl, h0, r0⟩ := trodAll_cons hA
  obtain ⟨v1, vs1, d1, ds1, p1, q1, rfl, rfl, rfl, h1, r1⟩ := trodAll_cons r0
  obtain ⟨rfl, rfl, rfl⟩ := trodAll_nil r1
  obtain rfl : args = #[v0, v1] := by cases args; simp_all
  obtain ⟨rfl, rfl⟩ := trodVars_none hV
  clear Xx
  have bG : ∀ x ∈ p0 ++ (p1 ++ []), x.block < W.heap.size := fun x hx => by
    have nN : x ∈ (p0 ++ (p1 ++ [])) ++ ([] : List MemPlace) := by simpa using hx
    exact Xw.lt x (by simpa using hx)
  have vE : ∀ W', Below W.heap.size W W' -> DataW.Trod enc Tryz.prog W' 0 (fun b => decide (b < W.heap.size)) true _ v0 d0 p0 :=
    fun W' hn => Below.trod laidOut (by kernel_rfl) (of_decide_eq_true (by kernel_rfl)) h0 hn (fun x hx => bG x (by simp [hx]))
  have xQ : ∀ W', Below W.heap.size W W' -> DataW.Trod enc Tryz.prog W' 0 (fun b => decide (b < W.heap.size)) true _ v1 d1 p1 :=
    fun W' hn => Below.trod laidOut (by kernel_rfl) (of_decide_eq_true (by kernel_rfl)) h1 hn (fun x hx => bG x (by simp [hx]))
  obtain ⟨as0, c0, w0⟩ := Vl 10 aC7 (.inl ⟨_, Tryz.underlying25⟩) (Io 0 25 v0 rfl rfl) h0
  obtain ⟨d, ⟨Ih, Ii, uU⟩, rfl⟩ := aC5 as0 c0
  obtain ⟨as1, c1, w1⟩ := Vl 10 aC8 (.inl ⟨_, Tryz.underlying27⟩) (Io 1 27 v1 rfl rfl) h1
  obtain ⟨ra, rc, rfl⟩ := aC6 as1 c1
  refine (fD.calls (aK8 d ra rc Ih Ii uU) W [v0, v1] (.cons w0 (.cons w1 .nil))).mono fun e W' ⟨he, hg⟩ => ?_
  subst he
  refine ⟨_, rfl, _, _, _, [], p0 ++ (p1 ++ []), [], Xw, ?_, ?_, rfl, hg.frame _, fun h => by cases h⟩
  · exact trodAll_cons_mk (shut_bool Tryz.underlying4 _) trodAll_mk0
  · exact (trodAll_cons_mk (vE W' hg) (trodAll_cons_mk (xQ W' hg) trodAll_mk0))

theorem q0 : (kQ Tryz.prog 4 Tryz.f4 Rows.stagingOpensSpec Rows.stagingOpensRow).getD 0 true = true := by kernel_rfl
theorem q1 : (kQ Tryz.prog 4 Tryz.f4 Rows.stagingOpensSpec Rows.stagingOpensRow).getD 1 true = true := by kernel_rfl
theorem q2 : (kQ Tryz.prog 4 Tryz.f4 Rows.stagingOpensSpec Rows.stagingOpensRow).getD 2 true = true := by kernel_rfl
theorem q3 : (kQ Tryz.prog 4 Tryz.f4 Rows.stagingOpensSpec Rows.stagingOpensRow).getD 3 true = true := by kernel_rfl
theorem q4 : (kQ Tryz.prog 4 Tryz.f4 Rows.stagingOpensSpec Rows.stagingOpensRow).getD 4 true = true := by kernel_rfl
theorem q5 : (kQ Tryz.prog 4 Tryz.f4 Rows.stagingOpensSpec Rows.stagingOpensRow).getD 5 true = true := by kernel_rfl
theorem q6 : (kQ Tryz.prog 4 Tryz.f4 Rows.stagingOpensSpec Rows.stagingOpensRow).getD 6 true = true := by kernel_rfl
theorem q7 : (kQ Tryz.prog 4 Tryz.f4 Rows.stagingOpensSpec Rows.stagingOpensRow).getD 7 true = true := by kernel_rfl
theorem q8 : (kQ Tryz.prog 4 Tryz.f4 Rows.stagingOpensSpec Rows.stagingOpensRow).getD 8 true = true := by kernel_rfl
theorem q9 : (kQ Tryz.prog 4 Tryz.f4 Rows.stagingOpensSpec Rows.stagingOpensRow).getD 9 true = true := by kernel_rfl
theorem q10 : (kQ Tryz.prog 4 Tryz.f4 Rows.stagingOpensSpec Rows.stagingOpensRow).getD 10 true = true := by kernel_rfl
theorem q11 : (kQ Tryz.prog 4 Tryz.f4 Rows.stagingOpensSpec Rows.stagingOpensRow).getD 11 true = true := by kernel_rfl
theorem q12 : (kQ Tryz.prog 4 Tryz.f4 Rows.stagingOpensSpec Rows.stagingOpensRow).getD 12 true = true := by kernel_rfl
theorem q13 : (kQ Tryz.prog 4 Tryz.f4 Rows.stagingOpensSpec Rows.stagingOpensRow).getD 13 true = true := by kernel_rfl
theorem q14 : (kQ Tryz.prog 4 Tryz.f4 Rows.stagingOpensSpec Rows.stagingOpensRow).getD 14 true = true := by kernel_rfl
theorem q15 : (kQ Tryz.prog 4 Tryz.f4 Rows.stagingOpensSpec Rows.stagingOpensRow).getD 15 true = true := by kernel_rfl
theorem q16 : (kQ Tryz.prog 4 Tryz.f4 Rows.stagingOpensSpec Rows.stagingOpensRow).getD 16 true = true := by kernel_rfl
theorem q17 : (kQ Tryz.prog 4 Tryz.f4 Rows.stagingOpensSpec Rows.stagingOpensRow).getD 17 true = true := by kernel_rfl
theorem q18 : (kQ Tryz.prog 4 Tryz.f4 Rows.stagingOpensSpec Rows.stagingOpensRow).getD 18 true = true := by kernel_rfl
theorem q19 : (kQ Tryz.prog 4 Tryz.f4 Rows.stagingOpensSpec Rows.stagingOpensRow).getD 19 true = true := by kernel_rfl
theorem q20 : (kQ Tryz.prog 4 Tryz.f4 Rows.stagingOpensSpec Rows.stagingOpensRow).getD 20 true = true := by kernel_rfl
theorem q21 : (kQ Tryz.prog 4 Tryz.f4 Rows.stagingOpensSpec Rows.stagingOpensRow).getD 21 true = true := by kernel_rfl
theorem q22 : (kQ Tryz.prog 4 Tryz.f4 Rows.stagingOpensSpec Rows.stagingOpensRow).getD 22 true = true := by kernel_rfl
theorem q23 : (kQ Tryz.prog 4 Tryz.f4 Rows.stagingOpensSpec Rows.stagingOpensRow).getD 23 true = true := by kernel_rfl
theorem q24 : (kQ Tryz.prog 4 Tryz.f4 Rows.stagingOpensSpec Rows.stagingOpensRow).getD 24 true = true := by kernel_rfl
theorem q25 : (kQ Tryz.prog 4 Tryz.f4 Rows.stagingOpensSpec Rows.stagingOpensRow).getD 25 true = true := by kernel_rfl
theorem q26 : (kQ Tryz.prog 4 Tryz.f4 Rows.stagingOpensSpec Rows.stagingOpensRow).getD 26 true = true := by kernel_rfl
theorem q27 : (kQ Tryz.prog 4 Tryz.f4 Rows.stagingOpensSpec Rows.stagingOpensRow).getD 27 true = true := by kernel_rfl
theorem q28 : (kQ Tryz.prog 4 Tryz.f4 Rows.stagingOpensSpec Rows.stagingOpensRow).getD 28 true = true := by kernel_rfl
theorem q29 : (kQ Tryz.prog 4 Tryz.f4 Rows.stagingOpensSpec Rows.stagingOpensRow).getD 29 true = true := by kernel_rfl
theorem q30 : (kQ Tryz.prog 4 Tryz.f4 Rows.stagingOpensSpec Rows.stagingOpensRow).getD 30 true = true := by kernel_rfl
theorem q31 : (kQ Tryz.prog 4 Tryz.f4 Rows.stagingOpensSpec Rows.stagingOpensRow).getD 31 true = true := by kernel_rfl
theorem closed : joinedFacts Tryz.prog 4 Tryz.f4 Rows.stagingOpensSpec Rows.stagingOpensRow = true := aA3 (Bf (fun
  | 0, _ => q0
  | 1, _ => q1
  | 2, _ => q2
  | 3, _ => q3
  | 4, _ => q4
  | 5, _ => q5
  | 6, _ => q6
  | 7, _ => q7
  | 8, _ => q8
  | 9, _ => q9
  | 10, _ => q10
  | 11, _ => q11
  | 12, _ => q12
  | 13, _ => q13
  | 14, _ => q14
  | 15, _ => q15
  | 16, _ => q16
  | 17, _ => q17
  | 18, _ => q18
  | 19, _ => q19
  | 20, _ => q20
  | 21, _ => q21
  | 22, _ => q22
  | 23, _ => q23
  | 24, _ => q24
  | 25, _ => q25
  | 26, _ => q26
  | 27, _ => q27
  | 28, _ => q28
  | 29, _ => q29
  | 30, _ => q30
  | 31, _ => q31
  | n + 32, hi => absurd hi (by simp only [kQ, eI, gL]; omega)))
theorem named : Tryz.prog.funcNamed "standby/standbylaw34.StagingOpens" = some 4 := by kernel_rfl
theorem bu9 : decide (Tryz.f4.isInstance Tryz.prog Rows.stagingOpensRow.origin Rows.stagingOpensRow.targs) = true := by kernel_rfl
theorem bv0 : Tryz.f4.isWrapper Tryz.prog Rows.stagingOpensRow.wrapper Rows.stagingOpensRow.mainSum := by
  unfold Func.isWrapper
  first | (rw [if_pos (by decide +kernel)]; kernel_rfl) | (rw [if_neg (by decide +kernel)]; exact ⟨rfl, rfl⟩)
theorem over : Rows.StagingOpensSaid :=
  OpenClaim.holds_of_wide 4 Tryz.f4 rfl rfl rfl rfl rfl rfl rfl ⟨rfl, rfl, rfl, rfl, rfl⟩ rfl rfl rfl rfl rfl named Tryz.func4 closed
    (of_decide_eq_true bu9) bv0
    (fun os started H enc _ => lifted os started H enc)
theorem bv1 : Rows.stagingOpensRow.wfByText (OpenSpec.ofChange Rows.stagingOpensSpec) = true := by kernel_rfl
theorem bv2 : Tryz.prog.mainIs = some (true, "0a2165e19ba7b655097ca7dddfb6882c595446ef560aa40ca61dfd33685467e1".toList) := by kernel_rfl
theorem looked : true = Tryz.prog.looks [] := by kernel_rfl
theorem gone : false = Rows.stagingOpensRow.goesBy Tryz.prog := by kernel_rfl
theorem bv3 : ([25, 27].all fun u => !Tryz.prog.wantsStandIn u) = true := by kernel_rfl
theorem proved : Rows.StagingOpensCardSaid :=
  Claim7.holds_tied_plain_at .later [] [.data, .pinned] true (true, "0a2165e19ba7b655097ca7dddfb6882c595446ef560aa40ca61dfd33685467e1") true over (fun _ h => by cases h) bv1 (fun _ h => by cases h) stagingOpens_row_tie rfl ⟨rfl, rfl⟩ bv2 rfl
    (fun f fn hf Rc => by
      obtain rfl : f = 4 := Ji (named.symm.trans hf) |>.symm
      obtain rfl : fn = Tryz.f4 := (Ji (Tryz.func4.symm.trans Rc)).symm
      exact ⟨looked, fun j t ht => by
        rw [Tryz.params4] at ht
        have hm : t ∈ [25, 27] := by simpa using HH ht
        exact (show Tryz.prog.wantsStandIn t = false by simpa using gK.1 bv3 t hm)⟩)
    gone
end Go.Proofs.YtioafciifiggaaaGreatDoor.opens
