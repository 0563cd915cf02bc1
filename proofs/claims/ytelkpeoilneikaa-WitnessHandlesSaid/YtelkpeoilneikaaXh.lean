/- The law 'WitnessHandles' answers true for every input, and its arguments read afterwards as they read before. No condition. -/
import Derived.Test.YtelkpeoilneikaaRows
import Derived.Test.YtelkpeoilneikaaR
import Derived.Test.YtelkpeoilneikaaP
import Derived.WalkKit
import Derived.ProofKit
import Derived.OpenShut
import Derived.Lib.SmallJoins
namespace Go.Proofs.Ytelkpeoilneikaa.handles
open Go.Proofs.Ytelkpeoilneikaa
open Go.ChangeShapes Go.WideShapes Go.ChangeAt Go.RowKit Go.Joins
set_option linter.unusedVariables false
set_option linter.unusedSimpArgs false

theorem own : ownKnob Try.prog.godebug = none := by kernel_rfl
theorem laidOut : laidOutB Try.prog = true := by kernel_rfl

theorem cells23 : Try.prog.cellsOf 23 = 3 := by kernel_rfl
theorem cells29 : Try.prog.cellsOf 29 = 12 := by kernel_rfl
theorem cells27 : Try.prog.cellsOf 27 = 8 := by kernel_rfl
theorem cells24 : Try.prog.cellsOf 24 = 1 := by kernel_rfl
theorem cells25 : Try.prog.cellsOf 25 = 1 := by kernel_rfl
theorem cells3 : Try.prog.cellsOf 3 = 1 := by kernel_rfl
theorem array12 {α : Type} {cs : Array α} (h : cs.size = 12) : ∃ c0 c1 c2 c3 c4 c5 c6 c7 c8 c9 c10 c11, cs = #[c0, c1, c2, c3, c4, c5, c6, c7, c8, c9, c10, c11] := by
  obtain ⟨l⟩ := cs
  match l, h with
  | [c0, c1, c2, c3, c4, c5, c6, c7, c8, c9, c10, c11], _ => exact ⟨c0, c1, c2, c3, c4, c5, c6, c7, c8, c9, c10, c11, rfl⟩

theorem handle12_ok : Handle12 := fun q oa ob la ca lb cb w => handle_any q oa ob la ca lb cb w
theorem handle13_ok : Handle13 := fun q oa ob la ca lb cb w => rhandle_any q oa ob la ca lb cb w

set_option maxRecDepth 100000 in
set_option maxHeartbeats 1000000 in
theorem lifted (os : Os) (started : os.Started) (H : Type) (enc : TypeId × Value → H) :
    ReturnsInHanded {} Try.checked os 3 .any (Rows.witnessHandlesSpec.pre6 enc Try.prog Try.f3 Rows.witnessHandlesRow.domain false) (Rows.witnessHandlesSpec.post enc Try.prog Try.f3 false true false false) := by
  refine returnsInHanded_of_change (C := Try.checked) own started (by kernel_rfl) Try.func3
    (ChangeSpec.witness6 (enc := enc) (C := Try.checked) false ⟨#[], #[.agg #[.int .i64 0, .int .i64 0, .int .i64 0], .agg #[.int .i64 0, .int .i64 0, .int .i64 0, .int .i64 0, .int .i64 0, .int .i64 0, .slice none 0 0, .slice none 0 0, .int .i64 0, .int .i64 0, .int .i64 0, .int .i64 0]], []⟩ 8 (by kernel_rfl) (by kernel_rfl) (by kernel_rfl) (by kernel_rfl)) ?_
  intro W base args ds gs before hval0 hW hcnd _
  have hval : ∀ (j : Nat) t v, Try.f3.params[j]? = some t → args[j]? = some v → Value.okWide Try.prog W .any base t v := hval0
  have hW' := hW
  obtain ⟨p, q, hA0, hV, rfl, hfz, hnd⟩ := hW
  have hA : DataW.TrodAll enc Try.prog W 0 (fun _ => true) true Try.f3.params.toList args.toList ds p := hA0
  rw [Try.params3] at hA hval
  obtain ⟨v0, vs0, d0, ds0, p0, q0, hargs, rfl, rfl, h0, r0⟩ := trodAll_cons hA
  obtain ⟨v1, vs1, d1, ds1, p1, q1, rfl, rfl, rfl, h1, r1⟩ := trodAll_cons r0
  obtain ⟨rfl, rfl, rfl⟩ := trodAll_nil r1
  obtain rfl : args = #[v0, v1] := by cases args; simp_all
  obtain ⟨rfl, rfl⟩ := trodVars_none hV
  clear hA0
  have hlt : ∀ x ∈ p0 ++ (p1 ++ []), x.block < W.heap.size := fun x hx => by
    have hx' : x ∈ (p0 ++ (p1 ++ [])) ++ ([] : List MemPlace) := by simpa using hx
    exact hW'.lt x (by simpa using hx)
  have hk0 : ∀ W', Below W.heap.size W W' → DataW.Trod enc Try.prog W' 0 (fun b => decide (b < W.heap.size)) true _ v0 d0 p0 :=
    fun W' hn => Below.trod laidOut (by kernel_rfl) (of_decide_eq_true (by kernel_rfl)) h0 hn (fun x hx => hlt x (by simp [hx]))
  have hk1 : ∀ W', Below W.heap.size W W' → DataW.Trod enc Try.prog W' 0 (fun b => decide (b < W.heap.size)) true _ v1 d1 p1 :=
    fun W' hn => Below.trod laidOut (by kernel_rfl) (of_decide_eq_true (by kernel_rfl)) h1 hn (fun x hx => hlt x (by simp [hx]))
  obtain ⟨c0, c1, c2, y0, y1, y2, m0, rfl, e0d, e0p, hy0, hy1, hy2⟩ := open_agg3 Try.underlying23 (by kernel_rfl) cells23 (hval 0 23 v0 rfl rfl) h0
  obtain ⟨e, z0, z0', we⟩ := DataW.trod_int Try.underlying3 hy0
  obtain ⟨h, z1, z1', wh⟩ := DataW.trod_int Try.underlying3 hy1
  obtain ⟨u, z2, z2', wu⟩ := DataW.trod_int Try.underlying3 hy2
  simp at z0 z1 z2
  subst z0 z1 z2
  obtain ⟨cs, rfl, hsz⟩ := okWide_struct Try.underlying29 (hval 1 29 v1 rfl rfl)
  obtain ⟨a0, a1, a2, a3, a4, a5, a6, a7, a8, a9, a10, a11, rfl⟩ := array12 (hsz.trans cells29)
  obtain ⟨fuel, hf⟩ := h1
  obtain ⟨xs, n, hn, hx, hl, hlen, hg⟩ := DataW.trod_struct Try.underlying29 hf
  have hxs : ∀ i, i < 5 → ∃ y, xs[i]? = some y := fun i hi => ⟨xs[i]'(by rw [hlen]; exact hi), List.getElem?_eq_getElem _⟩
  obtain ⟨x0, hx0⟩ := hxs 0 (by omega)
  obtain ⟨x1, hx1⟩ := hxs 1 (by omega)
  obtain ⟨x2, hx2⟩ := hxs 2 (by omega)
  obtain ⟨x3, hx3⟩ := hxs 3 (by omega)
  obtain ⟨x4, hx4⟩ := hxs 4 (by omega)
  have g0 := hg 0 _ rfl
  have g1 := hg 1 _ rfl
  have g2 := hg 2 _ rfl
  have g3 := hg 3 _ rfl
  have g4 := hg 4 _ rfl
  rw [hx0] at g0
  rw [hx1] at g1
  rw [hx2] at g2
  rw [hx3] at g3
  rw [hx4] at g4
  simp only [Value.cells, List.getElem_toArray, List.getElem_cons_zero, List.getElem_cons_succ, cells3, cells27, List.drop_succ_cons, List.drop_zero, List.take_succ_cons, List.take_zero] at g0 g1 g2 g3 g4
  obtain ⟨now, z8, z8', wnow⟩ := DataW.trod_int Try.underlying3 g1
  obtain ⟨term, z9, z9', wterm⟩ := DataW.trod_int Try.underlying3 g2
  obtain ⟨sent, z10, z10', wsent⟩ := DataW.trod_int Try.underlying3 g3
  obtain ⟨margin, z11, z11', wmargin⟩ := DataW.trod_int Try.underlying3 g4
  obtain ⟨xs', n', hn', hx', hl', hlen', hg'⟩ := DataW.trod_struct Try.underlying27 g0
  have hxs' : ∀ i, i < 8 → ∃ y, xs'[i]? = some y := fun i hi => ⟨xs'[i]'(by rw [hlen']; exact hi), List.getElem?_eq_getElem _⟩
  obtain ⟨t0, ht0⟩ := hxs' 0 (by omega)
  have k0 := hg' 0 _ rfl
  rw [ht0] at k0
  obtain ⟨t1, ht1⟩ := hxs' 1 (by omega)
  have k1 := hg' 1 _ rfl
  rw [ht1] at k1
  obtain ⟨t2, ht2⟩ := hxs' 2 (by omega)
  have k2 := hg' 2 _ rfl
  rw [ht2] at k2
  obtain ⟨t3, ht3⟩ := hxs' 3 (by omega)
  have k3 := hg' 3 _ rfl
  rw [ht3] at k3
  obtain ⟨t4, ht4⟩ := hxs' 4 (by omega)
  have k4 := hg' 4 _ rfl
  rw [ht4] at k4
  obtain ⟨t5, ht5⟩ := hxs' 5 (by omega)
  have k5 := hg' 5 _ rfl
  rw [ht5] at k5
  obtain ⟨t6, ht6⟩ := hxs' 6 (by omega)
  have k6 := hg' 6 _ rfl
  rw [ht6] at k6
  obtain ⟨t7, ht7⟩ := hxs' 7 (by omega)
  have k7 := hg' 7 _ rfl
  rw [ht7] at k7
  simp only [List.getElem_toArray, List.getElem_cons_zero, List.getElem_cons_succ, cells3, cells24, cells25, List.drop_succ_cons, List.drop_zero, List.take_succ_cons, List.take_zero] at k0 k1 k2 k3 k4 k5 k6 k7
  obtain ⟨kind, u0, u0', wkind⟩ := DataW.trod_int Try.underlying3 k0
  obtain ⟨frm, u1, u1', wfrm⟩ := DataW.trod_int Try.underlying3 k1
  obtain ⟨to, u2, u2', wto⟩ := DataW.trod_int Try.underlying3 k2
  obtain ⟨number, u3, u3', wnumber⟩ := DataW.trod_int Try.underlying3 k3
  obtain ⟨value, u4, u4', wvalue⟩ := DataW.trod_int Try.underlying3 k4
  obtain ⟨epoch, u5, u5', wepoch⟩ := DataW.trod_int Try.underlying3 k5
  obtain ⟨oa, la, ca, u6⟩ := slice_form Try.underlying24 k6
  obtain ⟨ob, lb, cb, u7⟩ := slice_form Try.underlying25 k7
  simp only [List.cons.injEq, and_true] at z8 z9 z10 z11 u0 u1 u2 u3 u4 u5 u6 u7
  subst z8 z9 z10 z11 u0 u1 u2 u3 u4 u5 u6 u7
  refine (handles_walk awake_t handle12_ok handle13_ok ⟨e, h, u, now, term, kind, frm, to, number, value, epoch⟩ sent margin oa ob la ca lb cb W).mono fun e W' ⟨he, hg⟩ => ?_
  subst he
  refine ⟨_, rfl, _, _, _, [], p0 ++ (p1 ++ []), [], hW', ?_, ?_, rfl, hg.frame _, fun h => by cases h⟩
  · exact trodAll_cons_mk (shut_bool Try.underlying4 _) trodAll_mk0
  · exact (trodAll_cons_mk (hk0 W' hg) (trodAll_cons_mk (hk1 W' hg) trodAll_mk0))

theorem over : Rows.witnessHandlesRow.holds Try.pinned (OpenSpec.ofChange Rows.witnessHandlesSpec) :=
  OpenClaim.holds_of_wide 3 Try.f3 rfl rfl rfl rfl rfl rfl rfl ⟨rfl, rfl, rfl, rfl, rfl⟩ rfl rfl rfl rfl rfl (by kernel_rfl) Try.func3 (by kernel_rfl)
    (of_decide_eq_true (by kernel_rfl)) (by unfold Func.isWrapper; first | (rw [if_pos (by decide +kernel)]; kernel_rfl) | (rw [if_neg (by decide +kernel)]; exact ⟨rfl, rfl⟩))
    (fun os started H enc _ => lifted os started H enc)

theorem proved : Rows.WitnessHandlesSaid :=
  over
end Go.Proofs.Ytelkpeoilneikaa.handles
