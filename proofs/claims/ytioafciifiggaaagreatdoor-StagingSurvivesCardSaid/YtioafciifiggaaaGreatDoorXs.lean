/- The law 'StagingSurvives' answers true for every input, and its arguments read afterwards as they read before; its tied card. No condition. -/
import Derived.Test.YtioafciifiggaaaGreatDoorL0
import Derived.Test.YtioafciifiggaaaGreatDoorRows
import Derived.Test.YtioafciifiggaaaGreatDoorCards
import Derived.Test.YtioafciifiggaaaGreatDoorTie
import Derived.Test.YtioafciifiggaaaGreatDoorAzn
import Derived.WalkKit
import Derived.ProofKit
import Derived.OpenShut
import Derived.Lib.SmallJoins
import Derived.LaidMore
import Derived.Lay
import Derived.SevenTiedAt
import Derived.Stop.Joined
import Derived.Test.YtioafciifiggaaaGreatDoorAz
namespace Go.Proofs.YtioafciifiggaaaGreatDoor.survives
open Go.Proofs.YtioafciifiggaaaGreatDoor
open Go.AL
open Go.ChangeShapes Go.WideShapes Go.ChangeAt Go.RowKit Go.Joins
set_option linter.unusedVariables false
set_option linter.unusedSimpArgs false

theorem own : ownKnob Tryz.prog.godebug = none := by kernel_rfl
theorem laidOut : laidOutB Tryz.prog = true := by kernel_rfl

set_option maxRecDepth 100000 in
theorem lifted (os : Os) (started : os.Started) (H : Type) (enc : TypeId × Value -> H) :
    ReturnsInHanded {} Tryz.checked os 6 .any (fun w args => (Rows.stagingSurvivesSpec.pre enc Tryz.prog Tryz.f6 Rows.stagingSurvivesRow.domain false w args /\ laidMetH Tryz.prog Rows.stagingSurvivesRow.laid w) /\ sizedMet enc Tryz.prog Tryz.f6 (OpenSpec.ofChange Rows.stagingSurvivesSpec) false w args) (Rows.stagingSurvivesSpec.post enc Tryz.prog Tryz.f6 false true false false) := by
  refine returnsInHanded_of_change_and (C := Tryz.checked) (X := fun w _ => laidMetH Tryz.prog Rows.stagingSurvivesRow.laid w) (fun _ _ _ hh h => h.of_heap hh) own started (by kernel_rfl) Tryz.func6
    (ChangeSpec.witness_shaped (enc := enc) (C := Tryz.checked) (os := os) (X := fun w _ => laidMetH Tryz.prog Rows.stagingSurvivesRow.laid w) false (World.laidAll Tryz.prog os Rows.stagingSurvivesRow.laid) #[.slice none 0 0, .int .u16 0, .slice none 0 0] 8 (World.laidAll_os _ _ _)
      (World.shaped_of_ZipB (by kernel_rfl) (by kernel_rfl)) (by kernel_rfl) (by kernel_rfl) (by kernel_rfl)
      (by rw [MakeChecks.laidMetH_plain _ _ _ (by kernel_rfl)]; exact laidMet_laidAll _ (by kernel_rfl) (by kernel_rfl))) ?_
  intro W base args ds gs before Sa hW cp5 _ hL _
  have NY : ∀ (j : Nat) t v, Tryz.f6.params[j]? = some t -> args[j]? = some v -> Value.okWide Tryz.prog W .any base t v := Sa
  have YU := hW
  obtain ⟨p, q, YV, hV, rfl, Dr, nR⟩ := hW
  have hA : DataW.TrodAll enc Tryz.prog W 0 (fun _ => true) true Tryz.f6.params.toList args.toList ds p := YV
  rw [Tryz.params6] at hA NY
  obtain ⟨v0, vs0, d0, ds0, p0, q0, mY, rfl, rfl, h0, r0⟩ := trodAll_cons hA
  obtain ⟨v1, vs1, d1, ds1, p1, q1, rfl, rfl, rfl, h1, r1⟩ := trodAll_cons r0
  obtain ⟨v2, vs2, d2, ds2, p2, q2, rfl, rfl, rfl, h2, r2⟩ := trodAll_cons r1
  obtain ⟨rfl, rfl, rfl⟩ := trodAll_nil r2
  obtain rfl : args = #[v0, v1, v2] := by cases args; simp_all
  obtain ⟨rfl, rfl⟩ := trodVars_none hV
  clear YV
  have bG : ∀ x ∈ p0 ++ (p1 ++ (p2 ++ [])), x.block < W.heap.size := fun x hx => by
    have kY : x ∈ (p0 ++ (p1 ++ (p2 ++ []))) ++ ([] : List MemPlace) := by simpa using hx
    exact YU.lt x (by simpa using hx)
  have rS : ∀ W', Below W.heap.size W W' -> DataW.Trod enc Tryz.prog W' 0 (fun b => decide (b < W.heap.size)) true _ v0 d0 p0 :=
    fun W' hn => Below.trod laidOut (by kernel_rfl) (of_decide_eq_true (by kernel_rfl)) h0 hn (fun x hx => bG x (by simp [hx]))
  have BZ : ∀ W', Below W.heap.size W W' -> DataW.Trod enc Tryz.prog W' 0 (fun b => decide (b < W.heap.size)) true _ v1 d1 p1 :=
    fun W' hn => Below.trod laidOut (by kernel_rfl) (of_decide_eq_true (by kernel_rfl)) h1 hn (fun x hx => bG x (by simp [hx]))
  have iX : ∀ W', Below W.heap.size W W' -> DataW.Trod enc Tryz.prog W' 0 (fun b => decide (b < W.heap.size)) true _ v2 d2 p2 :=
    fun W' hn => Below.trod laidOut (by kernel_rfl) (of_decide_eq_true (by kernel_rfl)) h2 hn (fun x hx => bG x (by simp [hx]))
  obtain ⟨as0, c0, w0⟩ := Es 10 ap4 (fun fs h => by rw [Tryz.underlying51] at h; cases h) (fun n e h => by rw [Tryz.underlying51] at h; cases h) (NY 0 51 v0 rfl rfl) h0
  obtain ⟨l, hb, hl, rfl⟩ := ap3 c0
  obtain ⟨as1, c1, w1⟩ := Es 10 bI4 (fun fs h => by rw [Tryz.underlying69] at h; cases h) (fun n e h => by rw [Tryz.underlying69] at h; cases h) (NY 1 69 v1 rfl rfl) h1
  obtain ⟨cut, aE9, rfl⟩ := bI3 c1
  obtain ⟨as2, c2, w2⟩ := Es 10 bI5 (fun fs h => by rw [Tryz.underlying28] at h; cases h) (fun n e h => by rw [Tryz.underlying28] at h; cases h) (NY 2 28 v2 rfl rfl) h2
  obtain ⟨ch, _, ZV, rfl⟩ := open_ints c2
  refine (eU.calls (bI0 l cut ch hl hb ZV aE9.1 aE9.2) W [v0, v1, v2] (.cons w0 (.cons w1 (.cons w2 .nil)))).mono fun e W' ⟨he, hg⟩ => ?_
  subst he
  refine ⟨_, rfl, _, _, _, [], p0 ++ (p1 ++ (p2 ++ [])), [], YU, ?_, ?_, rfl, hg.frame _, fun h => by cases h⟩
  · exact trodAll_cons_mk (shut_bool Tryz.underlying4 _) trodAll_mk0
  · exact (trodAll_cons_mk (rS W' hg) (trodAll_cons_mk (BZ W' hg) (trodAll_cons_mk (iX W' hg) trodAll_mk0)))

theorem q0 : (eK Tryz.prog 6 Tryz.f6 Rows.stagingSurvivesSpec Rows.stagingSurvivesRow).getD 0 true = true := by kernel_rfl
theorem q1 : (eK Tryz.prog 6 Tryz.f6 Rows.stagingSurvivesSpec Rows.stagingSurvivesRow).getD 1 true = true := by kernel_rfl
theorem q2 : (eK Tryz.prog 6 Tryz.f6 Rows.stagingSurvivesSpec Rows.stagingSurvivesRow).getD 2 true = true := by kernel_rfl
theorem q3 : (eK Tryz.prog 6 Tryz.f6 Rows.stagingSurvivesSpec Rows.stagingSurvivesRow).getD 3 true = true := by kernel_rfl
theorem q4 : (eK Tryz.prog 6 Tryz.f6 Rows.stagingSurvivesSpec Rows.stagingSurvivesRow).getD 4 true = true := by kernel_rfl
theorem q5 : (eK Tryz.prog 6 Tryz.f6 Rows.stagingSurvivesSpec Rows.stagingSurvivesRow).getD 5 true = true := by kernel_rfl
theorem q6 : (eK Tryz.prog 6 Tryz.f6 Rows.stagingSurvivesSpec Rows.stagingSurvivesRow).getD 6 true = true := by kernel_rfl
theorem q7 : (eK Tryz.prog 6 Tryz.f6 Rows.stagingSurvivesSpec Rows.stagingSurvivesRow).getD 7 true = true := by kernel_rfl
theorem q8 : (eK Tryz.prog 6 Tryz.f6 Rows.stagingSurvivesSpec Rows.stagingSurvivesRow).getD 8 true = true := by kernel_rfl
theorem q9 : (eK Tryz.prog 6 Tryz.f6 Rows.stagingSurvivesSpec Rows.stagingSurvivesRow).getD 9 true = true := by kernel_rfl
theorem M0 : (eK Tryz.prog 6 Tryz.f6 Rows.stagingSurvivesSpec Rows.stagingSurvivesRow).getD 10 true = true := by kernel_rfl
theorem J9 : (eK Tryz.prog 6 Tryz.f6 Rows.stagingSurvivesSpec Rows.stagingSurvivesRow).getD 11 true = true := by kernel_rfl
theorem Sb : (eK Tryz.prog 6 Tryz.f6 Rows.stagingSurvivesSpec Rows.stagingSurvivesRow).getD 12 true = true := by kernel_rfl
theorem Sd : (eK Tryz.prog 6 Tryz.f6 Rows.stagingSurvivesSpec Rows.stagingSurvivesRow).getD 13 true = true := by kernel_rfl
theorem Se : (eK Tryz.prog 6 Tryz.f6 Rows.stagingSurvivesSpec Rows.stagingSurvivesRow).getD 14 true = true := by kernel_rfl
theorem Sf : (eK Tryz.prog 6 Tryz.f6 Rows.stagingSurvivesSpec Rows.stagingSurvivesRow).getD 15 true = true := by kernel_rfl
theorem Sg : (eK Tryz.prog 6 Tryz.f6 Rows.stagingSurvivesSpec Rows.stagingSurvivesRow).getD 16 true = true := by kernel_rfl
theorem Si : (eK Tryz.prog 6 Tryz.f6 Rows.stagingSurvivesSpec Rows.stagingSurvivesRow).getD 17 true = true := by kernel_rfl
theorem Sj : (eK Tryz.prog 6 Tryz.f6 Rows.stagingSurvivesSpec Rows.stagingSurvivesRow).getD 18 true = true := by kernel_rfl
theorem Sk : (eK Tryz.prog 6 Tryz.f6 Rows.stagingSurvivesSpec Rows.stagingSurvivesRow).getD 19 true = true := by kernel_rfl
theorem Sl : (eK Tryz.prog 6 Tryz.f6 Rows.stagingSurvivesSpec Rows.stagingSurvivesRow).getD 20 true = true := by kernel_rfl
theorem Sm : (eK Tryz.prog 6 Tryz.f6 Rows.stagingSurvivesSpec Rows.stagingSurvivesRow).getD 21 true = true := by kernel_rfl
theorem Sn : (eK Tryz.prog 6 Tryz.f6 Rows.stagingSurvivesSpec Rows.stagingSurvivesRow).getD 22 true = true := by kernel_rfl
theorem Sp : (eK Tryz.prog 6 Tryz.f6 Rows.stagingSurvivesSpec Rows.stagingSurvivesRow).getD 23 true = true := by kernel_rfl
theorem Sr : (eK Tryz.prog 6 Tryz.f6 Rows.stagingSurvivesSpec Rows.stagingSurvivesRow).getD 24 true = true := by kernel_rfl
theorem Ss : (eK Tryz.prog 6 Tryz.f6 Rows.stagingSurvivesSpec Rows.stagingSurvivesRow).getD 25 true = true := by kernel_rfl
theorem St : (eK Tryz.prog 6 Tryz.f6 Rows.stagingSurvivesSpec Rows.stagingSurvivesRow).getD 26 true = true := by kernel_rfl
theorem Su : (eK Tryz.prog 6 Tryz.f6 Rows.stagingSurvivesSpec Rows.stagingSurvivesRow).getD 27 true = true := by kernel_rfl
theorem Sv : (eK Tryz.prog 6 Tryz.f6 Rows.stagingSurvivesSpec Rows.stagingSurvivesRow).getD 28 true = true := by kernel_rfl
theorem Sw : (eK Tryz.prog 6 Tryz.f6 Rows.stagingSurvivesSpec Rows.stagingSurvivesRow).getD 29 true = true := by kernel_rfl
theorem Sx : (eK Tryz.prog 6 Tryz.f6 Rows.stagingSurvivesSpec Rows.stagingSurvivesRow).getD 30 true = true := by kernel_rfl
theorem Sy : (eK Tryz.prog 6 Tryz.f6 Rows.stagingSurvivesSpec Rows.stagingSurvivesRow).getD 31 true = true := by kernel_rfl
theorem closed : joinedFacts Tryz.prog 6 Tryz.f6 Rows.stagingSurvivesSpec Rows.stagingSurvivesRow = true := af7 (Jm (fun
  | 0, _ => q0
  | 1, _ => q1
  | 2, _ => q2
  | 3, _ => q3
  | 4, _ => q4
  | 5, _ => q5
  | 6, _ => q6
  | 7, _ => q7
  | 8, _ => q8
  | 9, _ => q9
  | 10, _ => M0
  | 11, _ => J9
  | 12, _ => Sb
  | 13, _ => Sd
  | 14, _ => Se
  | 15, _ => Sf
  | 16, _ => Sg
  | 17, _ => Si
  | 18, _ => Sj
  | 19, _ => Sk
  | 20, _ => Sl
  | 21, _ => Sm
  | 22, _ => Sn
  | 23, _ => Sp
  | 24, _ => Sr
  | 25, _ => Ss
  | 26, _ => St
  | 27, _ => Su
  | 28, _ => Sv
  | 29, _ => Sw
  | 30, _ => Sx
  | 31, _ => Sy
  | n + 32, hi => absurd hi (by simp only [eK, dK, fJ]; omega)))
theorem named : Tryz.prog.funcNamed "standby/standbylaw34.StagingSurvives" = some 6 := by kernel_rfl
theorem Sz : decide (Tryz.f6.isInstance Tryz.prog Rows.stagingSurvivesRow.origin Rows.stagingSurvivesRow.targs) = true := by kernel_rfl
theorem Ta : Tryz.f6.isWrapper Tryz.prog Rows.stagingSurvivesRow.wrapper Rows.stagingSurvivesRow.mainSum := by
  unfold Func.isWrapper
  first | (rw [if_pos (by decide +kernel)]; kernel_rfl) | (rw [if_neg (by decide +kernel)]; exact ⟨rfl, rfl⟩)
theorem over : Rows.StagingSurvivesSaid :=
  OpenClaim.holds_of_wide 6 Tryz.f6 rfl rfl rfl rfl rfl rfl rfl ⟨rfl, rfl, rfl, rfl, rfl⟩ rfl rfl rfl rfl rfl named Tryz.func6 closed
    (of_decide_eq_true Sz) Ta
    (fun os started H enc _ => lifted os started H enc)
theorem Tb : Rows.stagingSurvivesRow.wfByText (OpenSpec.ofChange Rows.stagingSurvivesSpec) = true := by kernel_rfl
theorem Tc : Tryz.prog.mainIs = some (true, "0a2165e19ba7b655097ca7dddfb6882c595446ef560aa40ca61dfd33685467e1".toList) := by kernel_rfl
theorem looked : true = Tryz.prog.looks [] := by kernel_rfl
theorem gone : false = Rows.stagingSurvivesRow.goesBy Tryz.prog := by kernel_rfl
theorem Td : ([51, 69, 28].all fun u => !Tryz.prog.wantsStandIn u) = true := by kernel_rfl
theorem proved : Rows.StagingSurvivesCardSaid :=
  Claim7.holds_tied_plain_at .later [] [.data, .pinned] true (true, "0a2165e19ba7b655097ca7dddfb6882c595446ef560aa40ca61dfd33685467e1") true over (fun _ h => by cases h) Tb (fun _ h => by cases h) stagingSurvives_row_tie rfl ⟨rfl, rfl⟩ Tc rfl
    (fun f fn hf Db => by
      obtain rfl : f = 6 := KG (named.symm.trans hf) |>.symm
      obtain rfl : fn = Tryz.f6 := (KG (Tryz.func6.symm.trans Db)).symm
      exact ⟨looked, fun j t ht => by
        rw [Tryz.params6] at ht
        have hm : t ∈ [51, 69, 28] := by simpa using I9 ht
        exact (show Tryz.prog.wantsStandIn t = false by simpa using gK.1 Td t hm)⟩)
    gone
end Go.Proofs.YtioafciifiggaaaGreatDoor.survives
