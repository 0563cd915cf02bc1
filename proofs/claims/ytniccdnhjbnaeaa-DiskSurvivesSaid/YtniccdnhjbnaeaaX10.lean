/- The law 'DiskSurvives' answers true for every input, and its arguments read afterwards as they read before. No condition. -/
import Derived.Test.YtniccdnhjbnaeaaRows
import Derived.Test.YtniccdnhjbnaeaaDe
import Derived.Test.YtniccdnhjbnaeaaDf
import Derived.Test.YtniccdnhjbnaeaaDi
import Derived.WalkKit
import Derived.ProofKit
import Derived.OpenShut
import Derived.Lib.SmallJoins
namespace Go.Proofs.Ytniccdnhjbnaeaa.survives
open Go.Proofs.Ytniccdnhjbnaeaa
open Go.AL
open Go.ChangeShapes Go.WideShapes Go.ChangeAt Go.RowKit Go.Joins
set_option linter.unusedVariables false
set_option linter.unusedSimpArgs false

theorem own : ownKnob Try.prog.godebug = none := by kernel_rfl
theorem laidOut : laidOutB Try.prog = true := by kernel_rfl

set_option maxRecDepth 100000 in
theorem lifted (os : Os) (started : os.Started) (H : Type) (enc : TypeId × Value → H) :
    ReturnsInHanded {} Try.checked os 10 .any (Rows.diskSurvivesSpec.pre6 enc Try.prog Try.f10 Rows.diskSurvivesRow.domain false) (Rows.diskSurvivesSpec.post enc Try.prog Try.f10 false true false false) := by
  refine returnsInHanded_of_change (C := Try.checked) own started (by kernel_rfl) Try.func10
    (ChangeSpec.witness6 (enc := enc) (C := Try.checked) false ⟨#[], #[.int .u8 0, .slice none 0 0, .slice none 0 0], []⟩ 8 (by kernel_rfl) (by kernel_rfl) (by kernel_rfl) (by kernel_rfl)) ?_
  intro W base args ds gs before hval0 hW hcnd _
  have hval : ∀ (j : Nat) t v, Try.f10.params[j]? = some t → args[j]? = some v → Value.okWide Try.prog W .any base t v := hval0
  have hW' := hW
  obtain ⟨p, q, hA0, hV, rfl, hfz, hnd⟩ := hW
  have hA : DataW.TrodAll enc Try.prog W 0 (fun _ => true) true Try.f10.params.toList args.toList ds p := hA0
  rw [Try.params10] at hA hval
  obtain ⟨v0, vs0, d0, ds0, p0, q0, hargs, rfl, rfl, h0, r0⟩ := trodAll_cons hA
  obtain ⟨v1, vs1, d1, ds1, p1, q1, rfl, rfl, rfl, h1, r1⟩ := trodAll_cons r0
  obtain ⟨v2, vs2, d2, ds2, p2, q2, rfl, rfl, rfl, h2, r2⟩ := trodAll_cons r1
  obtain ⟨rfl, rfl, rfl⟩ := trodAll_nil r2
  obtain rfl : args = #[v0, v1, v2] := by cases args; simp_all
  obtain ⟨rfl, rfl⟩ := trodVars_none hV
  clear hA0
  have hlt : ∀ x ∈ p0 ++ (p1 ++ (p2 ++ [])), x.block < W.heap.size := fun x hx => by
    have hx' : x ∈ (p0 ++ (p1 ++ (p2 ++ []))) ++ ([] : List MemPlace) := by simpa using hx
    exact hW'.lt x (by simpa using hx)
  have hk0 : ∀ W', Below W.heap.size W W' → DataW.Trod enc Try.prog W' 0 (fun b => decide (b < W.heap.size)) true _ v0 d0 p0 :=
    fun W' hn => Below.trod laidOut (by kernel_rfl) (of_decide_eq_true (by kernel_rfl)) h0 hn (fun x hx => hlt x (by simp [hx]))
  have hk1 : ∀ W', Below W.heap.size W W' → DataW.Trod enc Try.prog W' 0 (fun b => decide (b < W.heap.size)) true _ v1 d1 p1 :=
    fun W' hn => Below.trod laidOut (by kernel_rfl) (of_decide_eq_true (by kernel_rfl)) h1 hn (fun x hx => hlt x (by simp [hx]))
  have hk2 : ∀ W', Below W.heap.size W W' → DataW.Trod enc Try.prog W' 0 (fun b => decide (b < W.heap.size)) true _ v2 d2 p2 :=
    fun W' hn => Below.trod laidOut (by kernel_rfl) (of_decide_eq_true (by kernel_rfl)) h2 hn (fun x hx => hlt x (by simp [hx]))
  obtain ⟨as0, c0, w0⟩ := open_one 10 shp5 (fun fs h => by rw [Try.underlying5] at h; cases h) (fun n e h => by rw [Try.underlying5] at h; cases h) (hval 0 5 v0 rfl rfl) h0
  obtain ⟨n, hn, rfl⟩ := open_u8 c0
  obtain ⟨as1, c1, w1⟩ := open_one 10 shp32 (fun fs h => by rw [Try.underlying32] at h; cases h) (fun n e h => by rw [Try.underlying32] at h; cases h) (hval 1 32 v1 rfl rfl) h1
  obtain ⟨ops, ho, hol, rfl⟩ := open_ops c1
  obtain ⟨as2, c2, w2⟩ := open_one 10 shp46 (fun fs h => by rw [Try.underlying46] at h; cases h) (fun n e h => by rw [Try.underlying46] at h; cases h) (hval 2 46 v2 rfl rfl) h2
  obtain ⟨c, hc, hcl, rfl⟩ := open_ints c2
  refine (PCall.calls (law10_p n ops c hn hol hcl) W [v0, v1, v2] (.cons w0 (.cons w1 (.cons w2 .nil)))).mono fun e W' ⟨he, hg⟩ => ?_
  subst he
  refine ⟨_, rfl, _, _, _, [], p0 ++ (p1 ++ (p2 ++ [])), [], hW', ?_, ?_, rfl, hg.frame _, fun h => by cases h⟩
  · exact trodAll_cons_mk (shut_bool Try.underlying4 _) trodAll_mk0
  · exact (trodAll_cons_mk (hk0 W' hg) (trodAll_cons_mk (hk1 W' hg) (trodAll_cons_mk (hk2 W' hg) trodAll_mk0)))

theorem over : Rows.diskSurvivesRow.holds Try.pinned (OpenSpec.ofChange Rows.diskSurvivesSpec) :=
  OpenClaim.holds_of_wide 10 Try.f10 rfl rfl rfl rfl rfl rfl rfl ⟨rfl, rfl, rfl, rfl, rfl⟩ rfl rfl rfl rfl rfl (by kernel_rfl) Try.func10 (by kernel_rfl)
    (of_decide_eq_true (by kernel_rfl)) (by unfold Func.isWrapper; first | (rw [if_pos (by decide +kernel)]; kernel_rfl) | (rw [if_neg (by decide +kernel)]; exact ⟨rfl, rfl⟩))
    (fun os started H enc _ => lifted os started H enc)

theorem proved : Rows.DiskSurvivesSaid :=
  over
end Go.Proofs.Ytniccdnhjbnaeaa.survives

