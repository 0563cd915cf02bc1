/- The law 'TargetFormats' answers true for every input, and its arguments read afterwards as they read before; its tied card. No condition. -/
import Derived.Test.YtpaomccedbjknaaGreatDoorRows
import Derived.Test.YtpaomccedbjknaaGreatDoorCards
import Derived.Test.YtpaomccedbjknaaGreatDoorTie
import Derived.Test.YtpaomccedbjknaaGreatDoorAzi
import Derived.Lib.SmallJoins
import Derived.LaidMore
import Derived.Lay
import Derived.SevenTiedAt
import Derived.Stop.Joined
namespace Go.Proofs.YtpaomccedbjknaaGreatDoor.formats
open Go.Proofs.YtpaomccedbjknaaGreatDoor
open Go.AL
open Go.ChangeShapes Go.WideShapes Go.ChangeAt Go.RowKit Go.Joins
set_option linter.unusedVariables false
set_option linter.unusedSimpArgs false

theorem own : ownKnob Tryz.prog.godebug = none := by kernel_rfl
theorem laidOut : laidOutB Tryz.prog = true := by kernel_rfl

set_option maxRecDepth 100000 in
theorem lifted (os : Os) (started : os.Started) (H : Type) (enc : TypeId × Value -> H) :
    ReturnsInHanded {} Tryz.checked os 3 .any (fun w args => (Rows.targetFormatsSpec.pre enc Tryz.prog Tryz.f3 Rows.targetFormatsRow.domain false w args /\ laidMetH Tryz.prog Rows.targetFormatsRow.laid w) /\ sizedMet enc Tryz.prog Tryz.f3 (OpenSpec.ofChange Rows.targetFormatsSpec) false w args) (Rows.targetFormatsSpec.post enc Tryz.prog Tryz.f3 false true false false) := by
  refine returnsInHanded_of_change_and (C := Tryz.checked) (X := fun w _ => laidMetH Tryz.prog Rows.targetFormatsRow.laid w) (fun _ _ _ hh h => h.of_heap hh) own started (by kernel_rfl) Tryz.func3
    (ChangeSpec.witness_shaped (enc := enc) (C := Tryz.checked) (os := os) (X := fun w _ => laidMetH Tryz.prog Rows.targetFormatsRow.laid w) false (World.laidAll Tryz.prog os Rows.targetFormatsRow.laid) #[.agg #[.int .i64 0, .int .i64 0, .slice none 0 0, .int .i64 0, .int .i64 0, .slice none 0 0]] 8 (World.laidAll_os _ _ _)
      (World.shaped_of_ZipB (by kernel_rfl) (by kernel_rfl)) (by kernel_rfl) (by kernel_rfl) (by kernel_rfl)
      (by rw [MakeChecks.laidMetH_plain _ _ _ (by kernel_rfl)]; exact laidMet_laidAll _ (by kernel_rfl) (by kernel_rfl))) ?_
  intro W base args ds gs before bE8 hW ce5 _ hL _
  have Yt : ∀ (j : Nat) t v, Tryz.f3.params[j]? = some t -> args[j]? = some v -> Value.okWide Tryz.prog W .any base t v := bE8
  have Yu := hW
  obtain ⟨p, q, Yv, hV, rfl, Dx, uG⟩ := hW
  have hA : DataW.TrodAll enc Tryz.prog W 0 (fun _ => true) true Tryz.f3.params.toList args.toList ds p := Yv
  rw [Tryz.params3] at hA Yt
  obtain ⟨v0, vs0, d0, ds0, p0, q0, lE, rfl, rfl, h0, r0⟩ := trodAll_cons hA
  obtain ⟨rfl, rfl, rfl⟩ := trodAll_nil r0
  obtain rfl : args = #[v0] := by cases args; simp_all
  obtain ⟨rfl, rfl⟩ := trodVars_none hV
  clear Yv
  have bG : ∀ x ∈ p0 ++ [], x.block < W.heap.size := fun x hx => by
    have nO : x ∈ (p0 ++ []) ++ ([] : List MemPlace) := by simpa using hx
    exact Yu.lt x (by simpa using hx)
  have z8 : ∀ W', Below W.heap.size W W' -> DataW.Trod enc Tryz.prog W' 0 (fun b => decide (b < W.heap.size)) true _ v0 d0 p0 :=
    fun W' hn => Below.trod laidOut (by kernel_rfl) (of_decide_eq_true (by kernel_rfl)) h0 hn (fun x hx => bG x (by simp [hx]))
  obtain ⟨as0, c0, w0⟩ := bu4 10 aZ6 (.inl ⟨_, Tryz.underlying27⟩) (Yt 0 27 v0 rfl rfl) h0
  obtain ⟨x, rfl⟩ := aZ5 as0 c0
  refine (eA.calls (aZ2 x) W [v0] (.cons w0 .nil)).mono fun e W' ⟨he, hg⟩ => ?_
  subst he
  refine ⟨_, rfl, _, _, _, [], p0 ++ [], [], Yu, ?_, ?_, rfl, hg.frame _, fun h => by cases h⟩
  · exact trodAll_cons_mk (shut_bool Tryz.underlying4 _) trodAll_mk0
  · exact (trodAll_cons_mk (z8 W' hg) trodAll_mk0)

theorem q0 : (kG Tryz.prog 3 Tryz.f3 Rows.targetFormatsSpec Rows.targetFormatsRow).getD 0 true = true := by kernel_rfl
theorem q1 : (kG Tryz.prog 3 Tryz.f3 Rows.targetFormatsSpec Rows.targetFormatsRow).getD 1 true = true := by kernel_rfl
theorem q2 : (kG Tryz.prog 3 Tryz.f3 Rows.targetFormatsSpec Rows.targetFormatsRow).getD 2 true = true := by kernel_rfl
theorem q3 : (kG Tryz.prog 3 Tryz.f3 Rows.targetFormatsSpec Rows.targetFormatsRow).getD 3 true = true := by kernel_rfl
theorem q4 : (kG Tryz.prog 3 Tryz.f3 Rows.targetFormatsSpec Rows.targetFormatsRow).getD 4 true = true := by kernel_rfl
theorem q5 : (kG Tryz.prog 3 Tryz.f3 Rows.targetFormatsSpec Rows.targetFormatsRow).getD 5 true = true := by kernel_rfl
theorem q6 : (kG Tryz.prog 3 Tryz.f3 Rows.targetFormatsSpec Rows.targetFormatsRow).getD 6 true = true := by kernel_rfl
theorem q7 : (kG Tryz.prog 3 Tryz.f3 Rows.targetFormatsSpec Rows.targetFormatsRow).getD 7 true = true := by kernel_rfl
theorem q8 : (kG Tryz.prog 3 Tryz.f3 Rows.targetFormatsSpec Rows.targetFormatsRow).getD 8 true = true := by kernel_rfl
theorem q9 : (kG Tryz.prog 3 Tryz.f3 Rows.targetFormatsSpec Rows.targetFormatsRow).getD 9 true = true := by kernel_rfl
theorem q10 : (kG Tryz.prog 3 Tryz.f3 Rows.targetFormatsSpec Rows.targetFormatsRow).getD 10 true = true := by kernel_rfl
theorem q11 : (kG Tryz.prog 3 Tryz.f3 Rows.targetFormatsSpec Rows.targetFormatsRow).getD 11 true = true := by kernel_rfl
theorem q12 : (kG Tryz.prog 3 Tryz.f3 Rows.targetFormatsSpec Rows.targetFormatsRow).getD 12 true = true := by kernel_rfl
theorem q13 : (kG Tryz.prog 3 Tryz.f3 Rows.targetFormatsSpec Rows.targetFormatsRow).getD 13 true = true := by kernel_rfl
theorem q14 : (kG Tryz.prog 3 Tryz.f3 Rows.targetFormatsSpec Rows.targetFormatsRow).getD 14 true = true := by kernel_rfl
theorem q15 : (kG Tryz.prog 3 Tryz.f3 Rows.targetFormatsSpec Rows.targetFormatsRow).getD 15 true = true := by kernel_rfl
theorem q16 : (kG Tryz.prog 3 Tryz.f3 Rows.targetFormatsSpec Rows.targetFormatsRow).getD 16 true = true := by kernel_rfl
theorem q17 : (kG Tryz.prog 3 Tryz.f3 Rows.targetFormatsSpec Rows.targetFormatsRow).getD 17 true = true := by kernel_rfl
theorem q18 : (kG Tryz.prog 3 Tryz.f3 Rows.targetFormatsSpec Rows.targetFormatsRow).getD 18 true = true := by kernel_rfl
theorem q19 : (kG Tryz.prog 3 Tryz.f3 Rows.targetFormatsSpec Rows.targetFormatsRow).getD 19 true = true := by kernel_rfl
theorem q20 : (kG Tryz.prog 3 Tryz.f3 Rows.targetFormatsSpec Rows.targetFormatsRow).getD 20 true = true := by kernel_rfl
theorem q21 : (kG Tryz.prog 3 Tryz.f3 Rows.targetFormatsSpec Rows.targetFormatsRow).getD 21 true = true := by kernel_rfl
theorem q22 : (kG Tryz.prog 3 Tryz.f3 Rows.targetFormatsSpec Rows.targetFormatsRow).getD 22 true = true := by kernel_rfl
theorem q23 : (kG Tryz.prog 3 Tryz.f3 Rows.targetFormatsSpec Rows.targetFormatsRow).getD 23 true = true := by kernel_rfl
theorem q24 : (kG Tryz.prog 3 Tryz.f3 Rows.targetFormatsSpec Rows.targetFormatsRow).getD 24 true = true := by kernel_rfl
theorem q25 : (kG Tryz.prog 3 Tryz.f3 Rows.targetFormatsSpec Rows.targetFormatsRow).getD 25 true = true := by kernel_rfl
theorem q26 : (kG Tryz.prog 3 Tryz.f3 Rows.targetFormatsSpec Rows.targetFormatsRow).getD 26 true = true := by kernel_rfl
theorem q27 : (kG Tryz.prog 3 Tryz.f3 Rows.targetFormatsSpec Rows.targetFormatsRow).getD 27 true = true := by kernel_rfl
theorem q28 : (kG Tryz.prog 3 Tryz.f3 Rows.targetFormatsSpec Rows.targetFormatsRow).getD 28 true = true := by kernel_rfl
theorem q29 : (kG Tryz.prog 3 Tryz.f3 Rows.targetFormatsSpec Rows.targetFormatsRow).getD 29 true = true := by kernel_rfl
theorem q30 : (kG Tryz.prog 3 Tryz.f3 Rows.targetFormatsSpec Rows.targetFormatsRow).getD 30 true = true := by kernel_rfl
theorem q31 : (kG Tryz.prog 3 Tryz.f3 Rows.targetFormatsSpec Rows.targetFormatsRow).getD 31 true = true := by kernel_rfl
theorem closed : joinedFacts Tryz.prog 3 Tryz.f3 Rows.targetFormatsSpec Rows.targetFormatsRow = true := aG7 (Nn (fun
  | 0, _ => q0
  | 1, _ => q1
  | 2, _ => q2
  | 3, _ => q3
  | 4, _ => q4
  | 5, _ => q5
  | 6, _ => q6
  | 7, _ => q7
  | 8, _ => q8
  | 9, _ => q9
  | 10, _ => q10
  | 11, _ => q11
  | 12, _ => q12
  | 13, _ => q13
  | 14, _ => q14
  | 15, _ => q15
  | 16, _ => q16
  | 17, _ => q17
  | 18, _ => q18
  | 19, _ => q19
  | 20, _ => q20
  | 21, _ => q21
  | 22, _ => q22
  | 23, _ => q23
  | 24, _ => q24
  | 25, _ => q25
  | 26, _ => q26
  | 27, _ => q27
  | 28, _ => q28
  | 29, _ => q29
  | 30, _ => q30
  | 31, _ => q31
  | n + 32, hi => absurd hi (by simp only [kG, iQ, kT]; omega)))
theorem named : Tryz.prog.funcNamed "standby/standbylaw40.TargetFormats" = some 3 := by kernel_rfl
theorem bH2 : decide (Tryz.f3.isInstance Tryz.prog Rows.targetFormatsRow.origin Rows.targetFormatsRow.targs) = true := by kernel_rfl
theorem bH3 : Tryz.f3.isWrapper Tryz.prog Rows.targetFormatsRow.wrapper Rows.targetFormatsRow.mainSum := by
  unfold Func.isWrapper
  first | (rw [if_pos (by decide +kernel)]; kernel_rfl) | (rw [if_neg (by decide +kernel)]; exact ⟨rfl, rfl⟩)
theorem over : Rows.TargetFormatsSaid :=
  OpenClaim.holds_of_wide 3 Tryz.f3 rfl rfl rfl rfl rfl rfl rfl ⟨rfl, rfl, rfl, rfl, rfl⟩ rfl rfl rfl rfl rfl named Tryz.func3 closed
    (of_decide_eq_true bH2) bH3
    (fun os started H enc _ => lifted os started H enc)
theorem bH4 : Rows.targetFormatsRow.wfByText (OpenSpec.ofChange Rows.targetFormatsSpec) = true := by kernel_rfl
theorem bH5 : Tryz.prog.mainIs = some (true, "26c7f3f1ed936ea0d273837a6831d80a48a810bf063b10ba1685325148d90dac".toList) := by kernel_rfl
theorem looked : true = Tryz.prog.looks [] := by kernel_rfl
theorem gone : false = Rows.targetFormatsRow.goesBy Tryz.prog := by kernel_rfl
theorem bH6 : ([27].all fun u => !Tryz.prog.wantsStandIn u) = true := by kernel_rfl
theorem proved : Rows.TargetFormatsCardSaid :=
  Claim7.holds_tied_plain_at .later [] [.data, .pinned] true (true, "26c7f3f1ed936ea0d273837a6831d80a48a810bf063b10ba1685325148d90dac") true over (fun _ h => by cases h) bH4 (fun _ h => by cases h) targetFormats_row_tie rfl ⟨rfl, rfl⟩ bH5 rfl
    (fun f fn hf hfn => by
      obtain rfl : f = 3 := YC (named.symm.trans hf) |>.symm
      obtain rfl : fn = Tryz.f3 := (YC (Tryz.func3.symm.trans hfn)).symm
      exact ⟨looked, fun j t ht => by
        rw [Tryz.params3] at ht
        have hm : t ∈ [27] := by simpa using Iy ht
        exact (show Tryz.prog.wantsStandIn t = false by simpa using iM.1 bH6 t hm)⟩)
    gone
end Go.Proofs.YtpaomccedbjknaaGreatDoor.formats
