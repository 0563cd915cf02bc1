/- The executor; Run, Sync, Read. No condition but those named. -/
import Derived.Test.YtniccdnhjbnaeaaDa
import Derived.KernelRfl
namespace Go.Proofs.Ytniccdnhjbnaeaa
open Go.Proofs Go.AL
set_option maxRecDepth 100000
set_option maxHeartbeats 1000000
set_option linter.unusedVariables false
set_option linter.unusedSimpArgs false
attribute [local irreducible] endA
attribute [local go_sem] dec_ltT dec_ltF dec_leT dec_leF beq_T beq_F bne_T bne_F encD


def WriteQ (x m N : Nat) (G : Nat → Option Blk) (st : List Sec) (ca : List (Int × Sec)) (o : Opr) (r : AV) (H' : Heap) : Prop :=
  (insideB st.length o.at_ o.data.length = true ∧ ∃ cav' m' mb' N', r = zV 0 ∧ H' = ⟨N', tabB G [(m', mb'), (x, some (.cells 91 2 [[.snap (encL encSec st), cav']] true false)), (m, none)]⟩ ∧
    Cav cav' m' mb' (putS ca o.at_ o.data o.data.length) ∧ N ≤ N' ∧ m' < N' ∧ (m' = m ∨ N ≤ m')) ∨
  (insideB st.length o.at_ o.data.length = false ∧ ∃ N', r = zV 2 ∧ H' = ⟨N', tabB G [(m, none)]⟩ ∧ N ≤ N')
def HeadW (x m N : Nat) (G : Nat → Option Blk) (st : List Sec) (ca : List (Int × Sec)) (o : Opr) (n : Nat) (env : List (Nat × Bool × AV)) (H : Heap) : Prop :=
  ∃ j cav m2 mb2 N2, n = o.data.length - j ∧ j ≤ o.data.length ∧ Cav cav m2 mb2 (putS ca o.at_ o.data j) ∧ m2 < N2 ∧ N < N2 ∧ (m2 = m ∨ N < m2) ∧
    env = [(21, true, zV (j : Int)), (20, true, zV (o.data.length : Int)), (19, true, .snap (encL encSec o.data)), (3, true, .ptr N 0 0), (0, true, .ptr x 0 0)] ∧
    H = ⟨N2, tabB G [(m2, mb2), (x, some (.cells 91 2 [[.snap (encL encSec st), cav]] true false)), (N, some (.cells 27 3 [encOp o] true false)), (m, none)]⟩
theorem lessD' {n : FuncId} {st : List Sec} {ca : List (Int × Sec)} {a : Option Addr} {cap : Nat} {rest : List AV} {Q : AV → Prop} (hca : ca = []) (h : PCall Try.prog n (.agg (encD ⟨st, ca⟩) :: rest) Q) : PCall Try.prog n (.agg [.snap (encL encSec st), .c (.slice a 0 cap)] :: rest) Q :=
  h.less (wks_cons (wk_agg (wks_cons (.refl _) (wks_cons (by rw [show (Dsk.mk st ca).ca = ca from rfl, hca]; exact .nil) wks_nil))) (wks_refl _))

theorem write_m (x m N : Nat) (G : Nat → Option Blk) (st : List Sec) (ca : List (Int × Sec)) (cav : AV) (mb : Option Blk) (o : Opr) (hx : G x = some (.cells 91 2 [[.snap (encL encSec st), cav]] true false)) (hm : G m = mb) (hcav : Cav cav m mb ca) (hxN : x < N) (hmN : m < N) (hxm : x ≠ m) (hG : ∀ id, N ≤ id → G id = none) (hL : st.length ≤ 4096) (hC : ca.length ≤ 400000) : ACall Try.prog 62 [.ptr x 0 0, .agg (encOp o)] ⟨N, G⟩ (WriteQ x m N G st ca o) := by
  refine acallG Try.func62 rfl (by kernel_rfl) (by simp [Try.ntmps62]) ?_
  rw [Try.ntmps62]
  rcases hcav with ⟨w, rfl, rfl⟩ | ⟨a, rfl, rfl, hca⟩
  · cases hi : insideB st.length o.at_ o.data.length
    · repeat (first | (refine aw_seq ?_) | (apply w_region (by rfl); (next => (simp (maxSteps := 2000000) (disch := omega) only [go_sem, hi, List.drop_zero, List.take_length, hx, hm] <;> exact rfl))) | (apply w_draw (by kernel_rfl) (by kernel_rfl) (by rfl); (case hr => (repeat (apply d_run; (next => (simp (maxSteps := 2000000) (disch := omega) only [go_sem, hi, List.drop_zero, List.take_length, hx, hm] <;> exact rfl)); first | exact d_nil | (apply d_callX (hop := rfl) (hg := rfl) (hp := (inside_p ⟨st, ca⟩ _ _ (by show st.length ≤ 1000000; omega))); (next => (simp (maxSteps := 2000000) (disch := omega) only [go_sem, hi, List.drop_zero, List.take_length, hx, hm] <;> exact rfl)); (next => (simp (maxSteps := 2000000) (disch := omega) only [go_sem, hi, List.drop_zero, List.take_length, hx, hm] <;> exact rfl)); (next => (simp [noId_c, noId_agg, noId_snap, noId_tup,encD,sec_noIdE,encL_noId,encL_noIdE,encCa,encOp,encExt]; done)); (next => (simp (maxSteps := 2000000) (disch := omega) only [go_sem, hi, List.drop_zero, List.take_length, hx, hm] <;> exact rfl)); (next => (simp (maxSteps := 2000000) (disch := omega) only [go_sem, hi, List.drop_zero, List.take_length, hx, hm] <;> exact rfl)))))); (case hdyn => (simp (maxSteps := 2000000) (disch := omega) only [go_sem, nbeq_F, nbeq_T, hi, List.drop_zero, List.take_length, hx, hm] <;> kernel_rfl))) | (refine w_nil ?_) | (refine w_hold2 ?_) | (refine w_then ?_) | (refine w_thenR ?_) | (refine aw_ret ?_) | (apply w_end; (next => (simp (maxSteps := 2000000) (disch := omega) only [go_sem, hi, List.drop_zero, List.take_length, hx, hm, Try.f62] <;> exact rfl))) | (apply w_condT; (next => (simp (maxSteps := 2000000) (disch := omega) only [go_sem, hi, List.drop_zero, List.take_length, hx, hm] <;> done))))
      refine ⟨_, ⟨?_, ?_⟩, .inr ⟨hi, N + 1000, rfl, rfl, by omega⟩⟩
      · simp only []; omega
      · exact (subB hG (sB_none (sB_nil)) (by simp only [keysOK, memK, or_false, false_or, or_true, true_or, and_true, true_and, Nat.le_refl] <;> omega))
    have hb : 0 ≤ o.at_ ∧ o.at_ ≤ 4096 ∧ o.data.length ≤ 4096 := by
      simp only [insideB, Bool.and_eq_true, decide_eq_true_eq] at hi; omega
    repeat (first | (refine aw_seq ?_) | (apply w_region (by rfl); (next => (simp (maxSteps := 2000000) (disch := omega) only [go_sem, hi, List.drop_zero, List.take_length, hx, hm] <;> exact rfl))) | (apply w_draw (by kernel_rfl) (by kernel_rfl) (by rfl); (case hr => (repeat (apply d_run; (next => (simp (maxSteps := 2000000) (disch := omega) only [go_sem, hi, List.drop_zero, List.take_length, hx, hm] <;> exact rfl)); first | exact d_nil | (apply d_callX (hop := rfl) (hg := rfl) (hp := (inside_p ⟨st, ca⟩ _ _ (by show st.length ≤ 1000000; omega))); (next => (simp (maxSteps := 2000000) (disch := omega) only [go_sem, hi, List.drop_zero, List.take_length, hx, hm] <;> exact rfl)); (next => (simp (maxSteps := 2000000) (disch := omega) only [go_sem, hi, List.drop_zero, List.take_length, hx, hm] <;> exact rfl)); (next => (simp [noId_c, noId_agg, noId_snap, noId_tup,encD,sec_noIdE,encL_noId,encL_noIdE,encCa,encOp,encExt]; done)); (next => (simp (maxSteps := 2000000) (disch := omega) only [go_sem, hi, List.drop_zero, List.take_length, hx, hm] <;> exact rfl)); (next => (simp (maxSteps := 2000000) (disch := omega) only [go_sem, hi, List.drop_zero, List.take_length, hx, hm] <;> exact rfl)))))); (case hdyn => (simp (maxSteps := 2000000) (disch := omega) only [go_sem, nbeq_F, nbeq_T, hi, List.drop_zero, List.take_length, hx, hm] <;> kernel_rfl))) | (refine w_nil ?_) | (refine w_then ?_) | (refine aw_skip ?_) | (refine aw_block ?_) | (apply w_condF; (next => (simp (maxSteps := 2000000) (disch := omega) only [go_sem, hi, List.drop_zero, List.take_length, hx, hm] <;> done))))
    refine w_loop (HeadW x m N G st ca o) o.data.length ?_ ?_
    · refine ⟨_, _, ⟨0, _, m, _, N + 1000, by omega, by omega, (by rw [putS_0]; exact Cav.mk (w := false) rfl), by omega, by omega, .inl rfl, rfl, rfl⟩, ?_⟩
      refine holds_cons (by rfl) (holds_cons (by rfl) (holds_cons (by rfl) (holds_cons (by rfl) (holds_cons (by rfl) (holds_nil (by simp only []; omega) (subB hG (sB_cons (by (first | rfl | (simp (disch := omega) only [go_sem, encD, hx, hm]; done) | (simp (disch := omega) only [go_sem, encD, hx, hm]; rfl))) (sB_cons (by (first | rfl | (simp (disch := omega) only [go_sem, encD, hx, hm]; done) | (simp (disch := omega) only [go_sem, encD, hx, hm]; rfl))) (sB_cons (by (first | rfl | (simp (disch := omega) only [go_sem, encD, hx, hm]; done) | (simp (disch := omega) only [go_sem, encD, hx, hm]; rfl))) (sB_none (sB_nil))))) (by simp only [keysOK, memK, or_false, false_or, or_true, true_or, and_true, true_and, Nat.le_refl] <;> omega)))))))
    · rintro n2 env H ⟨j, cav, m2, mb2, N2, rfl, hj, hcav2, hm2, hN2, hmm, rfl, rfl⟩
      by_cases hjl : j < o.data.length
      · rcases hcav2 with ⟨w2, rfl, rfl⟩ | ⟨a2, rfl, rfl, hca2⟩
        · repeat (first | (refine aw_seq ?_) | (apply w_region (by rfl); (next => (simp (maxSteps := 2000000) (disch := omega) only [go_sem, putS_len, putS_succ, (encL_get zSec)] <;> exact rfl))) | (apply w_draw (by kernel_rfl) (by kernel_rfl) (by rfl); (case hr => (apply d_run; (next => (simp (maxSteps := 2000000) (disch := omega) only [go_sem, putS_len, putS_succ, (encL_get zSec)] <;> exact rfl)); exact d_nil)); (case hdyn => (simp (maxSteps := 2000000) (disch := omega) only [go_sem, nbeq_F, nbeq_T, putS_len, putS_succ, (encL_get zSec)] <;> kernel_rfl))) | (refine w_nil ?_) | (refine w_then ?_) | (refine aw_skip ?_) | (refine aw_block ?_) | (apply w_condT; (next => (simp (maxSteps := 2000000) (disch := omega) only [go_sem, putS_len, putS_succ, (encL_get zSec)] <;> done))))
          refine ⟨o.data.length - (j + 1), by omega, _, _, ⟨j + 1, .own (N2 + 1 + 1 + 13) 0 (ca.length + j + 1), N2 + 1 + 1 + 13, _, N2 + 1000, rfl, by omega, Cav.mk (w := w2) (by rw [putS_len]; omega), by omega, by omega, by omega, rfl, rfl⟩, ?_⟩
          refine holds_cons (by rfl) (holds_cons (by rfl) (holds_cons (by rfl) (holds_cons (by rfl) (holds_cons (by rfl) (holds_nil (by simp only []; omega) (subB hG (sB_cons (by (first | rfl | (simp (disch := omega) only [go_sem, encD]; done) | (simp (disch := omega) only [go_sem, encD]; rfl))) (sB_cons (by (first | rfl | (simp (disch := omega) only [go_sem, encD]; done) | (simp (disch := omega) only [go_sem, encD]; rfl))) (sB_cons (by (first | rfl | (simp (disch := omega) only [go_sem, encD]; done) | (simp (disch := omega) only [go_sem, encD]; rfl))) (sB_none (sB_nil))))) (by simp only [keysOK, memK, or_false, false_or, or_true, true_or, and_true, true_and, Nat.le_refl] <;> omega)))))))
        · have e : putS ca o.at_ o.data (j + 1) = [(o.at_ + (j : Int), o.data.getD j zSec)] := by rw [← putS_succ, hca2]; rfl
          repeat (first | (refine aw_seq ?_) | (apply w_region (by rfl); (next => (simp (maxSteps := 2000000) (disch := omega) only [go_sem, (encL_get zSec)] <;> exact rfl))) | (apply w_draw (by kernel_rfl) (by kernel_rfl) (by rfl); (case hr => (apply d_run; (next => (simp (maxSteps := 2000000) (disch := omega) only [go_sem, (encL_get zSec)] <;> exact rfl)); exact d_nil)); (case hdyn => (simp (maxSteps := 2000000) (disch := omega) only [go_sem, nbeq_F, nbeq_T, (encL_get zSec)] <;> kernel_rfl))) | (refine w_nil ?_) | (refine w_then ?_) | (refine aw_skip ?_) | (refine aw_block ?_) | (apply w_condT; (next => (simp (maxSteps := 2000000) (disch := omega) only [go_sem, (encL_get zSec)] <;> done))))
          refine ⟨o.data.length - (j + 1), by omega, _, _, ⟨j + 1, .own (N2 + 1 + 1 + 13) 0 1, N2 + 1 + 1 + 13, _, N2 + 1000, rfl, by omega, (by rw [e]; exact Cav.mk (w := true) rfl), by omega, by omega, by omega, rfl, rfl⟩, ?_⟩
          refine holds_cons (by rfl) (holds_cons (by rfl) (holds_cons (by rfl) (holds_cons (by rfl) (holds_cons (by rfl) (holds_nil (by simp only []; omega) (subB hG (sB_cons (by (first | rfl | (simp (disch := omega) only [go_sem, encD]; done) | (simp (disch := omega) only [go_sem, encD]; rfl))) (sB_cons (by (first | rfl | (simp (disch := omega) only [go_sem, encD]; done) | (simp (disch := omega) only [go_sem, encD]; rfl))) (sB_cons (by (first | rfl | (simp (disch := omega) only [go_sem, encD]; done) | (simp (disch := omega) only [go_sem, encD]; rfl))) (sB_none (sB_nil))))) (by simp only [keysOK, memK, or_false, false_or, or_true, true_or, and_true, true_and, Nat.le_refl] <;> omega)))))))
      · obtain rfl : j = o.data.length := by omega
        repeat (first | (refine aw_seq ?_) | (apply w_region (by rfl); (next => (simp (maxSteps := 2000000) (disch := omega) only [go_sem] <;> exact rfl))) | (refine w_nil ?_) | (refine w_hold2 ?_) | (refine w_then ?_) | (refine aw_ret ?_) | (refine aw_exit ?_) | (apply w_end; (next => (simp (maxSteps := 2000000) (disch := omega) only [go_sem, Try.f62] <;> exact rfl))) | (apply w_condF; (next => (simp (maxSteps := 2000000) (disch := omega) only [go_sem] <;> done))))
        refine ⟨_, ⟨?_, ?_⟩, .inl ⟨hi, cav, m2, mb2, N2 + 1000, rfl, rfl, hcav2, by omega, by omega, by omega⟩⟩
        · simp only []; omega
        · exact (subB hG (sB_cons (by (first | rfl | (simp (disch := omega) only [go_sem, encD]; done) | (simp (disch := omega) only [go_sem, encD]; rfl))) (sB_cons (by (first | rfl | (simp (disch := omega) only [go_sem, encD]; done) | (simp (disch := omega) only [go_sem, encD]; rfl))) (sB_none (sB_nil)))) (by simp only [keysOK, memK, or_false, false_or, or_true, true_or, and_true, true_and, Nat.le_refl] <;> omega))
  · cases hi : insideB st.length o.at_ o.data.length
    · repeat (first | (refine aw_seq ?_) | (apply w_region (by rfl); (next => (simp (maxSteps := 2000000) (disch := omega) only [go_sem, hi, List.drop_zero, List.take_length, hx, hm] <;> exact rfl))) | (apply w_draw (by kernel_rfl) (by kernel_rfl) (by rfl); (case hr => (repeat (apply d_run; (next => (simp (maxSteps := 2000000) (disch := omega) only [go_sem, hi, List.drop_zero, List.take_length, hx, hm] <;> exact rfl)); first | exact d_nil | (apply d_callP (hop := rfl) (hg := rfl) (hp := (lessD' hca (inside_p ⟨st, ca⟩ _ _ (by show st.length ≤ 1000000; omega)))); (next => (simp (maxSteps := 2000000) (disch := omega) only [go_sem, hi, List.drop_zero, List.take_length, hx, hm] <;> exact rfl)); (next => (simp [noId_c, noId_agg, noId_snap, noId_tup,encD,sec_noIdE,encL_noId,encL_noIdE,encCa,encOp,encExt]; done)))))); (case hdyn => (simp (maxSteps := 2000000) (disch := omega) only [go_sem, nbeq_F, nbeq_T, hi, List.drop_zero, List.take_length, hx, hm] <;> kernel_rfl))) | (refine w_nil ?_) | (refine w_hold2 ?_) | (refine w_then ?_) | (refine w_thenR ?_) | (refine aw_ret ?_) | (apply w_end; (next => (simp (maxSteps := 2000000) (disch := omega) only [go_sem, hi, List.drop_zero, List.take_length, hx, hm, Try.f62] <;> exact rfl))) | (apply w_condT; (next => (simp (maxSteps := 2000000) (disch := omega) only [go_sem, hi, List.drop_zero, List.take_length, hx, hm] <;> done))))
      refine ⟨_, ⟨?_, ?_⟩, .inr ⟨hi, N + 1000, rfl, rfl, by omega⟩⟩
      · simp only []; omega
      · exact (subB hG (sB_none (sB_nil)) (by simp only [keysOK, memK, or_false, false_or, or_true, true_or, and_true, true_and, Nat.le_refl] <;> omega))
    have hb : 0 ≤ o.at_ ∧ o.at_ ≤ 4096 ∧ o.data.length ≤ 4096 := by
      simp only [insideB, Bool.and_eq_true, decide_eq_true_eq] at hi; omega
    repeat (first | (refine aw_seq ?_) | (apply w_region (by rfl); (next => (simp (maxSteps := 2000000) (disch := omega) only [go_sem, hi, hx, hm] <;> exact rfl))) | (apply w_draw (by kernel_rfl) (by kernel_rfl) (by rfl); (case hr => (repeat (apply d_run; (next => (simp (maxSteps := 2000000) (disch := omega) only [go_sem, hi, hx, hm] <;> exact rfl)); first | exact d_nil | (apply d_callP (hop := rfl) (hg := rfl) (hp := (lessD' hca (inside_p ⟨st, ca⟩ _ _ (by show st.length ≤ 1000000; omega)))); (next => (simp (maxSteps := 2000000) (disch := omega) only [go_sem, hi, hx, hm] <;> exact rfl)); (next => (simp [noId_c, noId_agg, noId_snap, noId_tup,encD,sec_noIdE,encL_noId,encL_noIdE,encCa,encOp,encExt]; done)))))); (case hdyn => (simp (maxSteps := 2000000) (disch := omega) only [go_sem, nbeq_F, nbeq_T, hi, hx, hm] <;> kernel_rfl))) | (refine w_nil ?_) | (refine w_then ?_) | (refine aw_skip ?_) | (refine aw_block ?_) | (apply w_condF; (next => (simp (maxSteps := 2000000) (disch := omega) only [go_sem, hi, hx, hm] <;> done))))
    refine w_loop (HeadW x m N G st ca o) o.data.length ?_ ?_
    · refine ⟨_, _, ⟨0, _, m, none, N + 1000, by omega, by omega, (by rw [putS_0, hca]; exact Cav.nil0 (a := a)), by omega, by omega, .inl rfl, rfl, rfl⟩, ?_⟩
      refine holds_cons (by rfl) (holds_cons (by rfl) (holds_cons (by rfl) (holds_cons (by rfl) (holds_cons (by rfl) (holds_nil (by simp only []; omega) (subB hG (sB_none (sB_cons (by (first | rfl | (simp (disch := omega) only [go_sem, encD, hx, hm]; done) | (simp (disch := omega) only [go_sem, encD, hx, hm]; rfl))) (sB_cons (by (first | rfl | (simp (disch := omega) only [go_sem, encD, hx, hm]; done) | (simp (disch := omega) only [go_sem, encD, hx, hm]; rfl))) (sB_none (sB_nil))))) (by simp only [keysOK, memK, or_false, false_or, or_true, true_or, and_true, true_and, Nat.le_refl] <;> omega)))))))
    · rintro n2 env H ⟨j, cav, m2, mb2, N2, rfl, hj, hcav2, hm2, hN2, hmm, rfl, rfl⟩
      by_cases hjl : j < o.data.length
      · rcases hcav2 with ⟨w2, rfl, rfl⟩ | ⟨a2, rfl, rfl, hca2⟩
        · repeat (first | (refine aw_seq ?_) | (apply w_region (by rfl); (next => (simp (maxSteps := 2000000) (disch := omega) only [go_sem, putS_len, putS_succ, (encL_get zSec)] <;> exact rfl))) | (apply w_draw (by kernel_rfl) (by kernel_rfl) (by rfl); (case hr => (apply d_run; (next => (simp (maxSteps := 2000000) (disch := omega) only [go_sem, putS_len, putS_succ, (encL_get zSec)] <;> exact rfl)); exact d_nil)); (case hdyn => (simp (maxSteps := 2000000) (disch := omega) only [go_sem, nbeq_F, nbeq_T, putS_len, putS_succ, (encL_get zSec)] <;> kernel_rfl))) | (refine w_nil ?_) | (refine w_then ?_) | (refine aw_skip ?_) | (refine aw_block ?_) | (apply w_condT; (next => (simp (maxSteps := 2000000) (disch := omega) only [go_sem, putS_len, putS_succ, (encL_get zSec)] <;> done))))
          refine ⟨o.data.length - (j + 1), by omega, _, _, ⟨j + 1, .own (N2 + 1 + 1 + 13) 0 (ca.length + j + 1), N2 + 1 + 1 + 13, _, N2 + 1000, rfl, by omega, Cav.mk (w := w2) (by rw [putS_len]; omega), by omega, by omega, by omega, rfl, rfl⟩, ?_⟩
          refine holds_cons (by rfl) (holds_cons (by rfl) (holds_cons (by rfl) (holds_cons (by rfl) (holds_cons (by rfl) (holds_nil (by simp only []; omega) (subB hG (sB_cons (by (first | rfl | (simp (disch := omega) only [go_sem, encD]; done) | (simp (disch := omega) only [go_sem, encD]; rfl))) (sB_cons (by (first | rfl | (simp (disch := omega) only [go_sem, encD]; done) | (simp (disch := omega) only [go_sem, encD]; rfl))) (sB_cons (by (first | rfl | (simp (disch := omega) only [go_sem, encD]; done) | (simp (disch := omega) only [go_sem, encD]; rfl))) (sB_none (sB_nil))))) (by simp only [keysOK, memK, or_false, false_or, or_true, true_or, and_true, true_and, Nat.le_refl] <;> omega)))))))
        · have e : putS ca o.at_ o.data (j + 1) = [(o.at_ + (j : Int), o.data.getD j zSec)] := by rw [← putS_succ, hca2]; rfl
          repeat (first | (refine aw_seq ?_) | (apply w_region (by rfl); (next => (simp (maxSteps := 2000000) (disch := omega) only [go_sem, (encL_get zSec)] <;> exact rfl))) | (apply w_draw (by kernel_rfl) (by kernel_rfl) (by rfl); (case hr => (apply d_run; (next => (simp (maxSteps := 2000000) (disch := omega) only [go_sem, (encL_get zSec)] <;> exact rfl)); exact d_nil)); (case hdyn => (simp (maxSteps := 2000000) (disch := omega) only [go_sem, nbeq_F, nbeq_T, (encL_get zSec)] <;> kernel_rfl))) | (refine w_nil ?_) | (refine w_then ?_) | (refine aw_skip ?_) | (refine aw_block ?_) | (apply w_condT; (next => (simp (maxSteps := 2000000) (disch := omega) only [go_sem, (encL_get zSec)] <;> done))))
          refine ⟨o.data.length - (j + 1), by omega, _, _, ⟨j + 1, .own (N2 + 1 + 1 + 13) 0 1, N2 + 1 + 1 + 13, _, N2 + 1000, rfl, by omega, (by rw [e]; exact Cav.mk (w := true) rfl), by omega, by omega, by omega, rfl, rfl⟩, ?_⟩
          refine holds_cons (by rfl) (holds_cons (by rfl) (holds_cons (by rfl) (holds_cons (by rfl) (holds_cons (by rfl) (holds_nil (by simp only []; omega) (subB hG (sB_cons (by (first | rfl | (simp (disch := omega) only [go_sem, encD]; done) | (simp (disch := omega) only [go_sem, encD]; rfl))) (sB_cons (by (first | rfl | (simp (disch := omega) only [go_sem, encD]; done) | (simp (disch := omega) only [go_sem, encD]; rfl))) (sB_cons (by (first | rfl | (simp (disch := omega) only [go_sem, encD]; done) | (simp (disch := omega) only [go_sem, encD]; rfl))) (sB_none (sB_nil))))) (by simp only [keysOK, memK, or_false, false_or, or_true, true_or, and_true, true_and, Nat.le_refl] <;> omega)))))))
      · obtain rfl : j = o.data.length := by omega
        repeat (first | (refine aw_seq ?_) | (apply w_region (by rfl); (next => (simp (maxSteps := 2000000) (disch := omega) only [go_sem] <;> exact rfl))) | (refine w_nil ?_) | (refine w_hold2 ?_) | (refine w_then ?_) | (refine aw_ret ?_) | (refine aw_exit ?_) | (apply w_end; (next => (simp (maxSteps := 2000000) (disch := omega) only [go_sem, Try.f62] <;> exact rfl))) | (apply w_condF; (next => (simp (maxSteps := 2000000) (disch := omega) only [go_sem] <;> done))))
        refine ⟨_, ⟨?_, ?_⟩, .inl ⟨hi, cav, m2, mb2, N2 + 1000, rfl, rfl, hcav2, by omega, by omega, by omega⟩⟩
        · simp only []; omega
        · exact (subB hG (sB_cons (by (first | rfl | (simp (disch := omega) only [go_sem, encD]; done) | (simp (disch := omega) only [go_sem, encD]; rfl))) (sB_cons (by (first | rfl | (simp (disch := omega) only [go_sem, encD]; done) | (simp (disch := omega) only [go_sem, encD]; rfl))) (sB_none (sB_nil)))) (by simp only [keysOK, memK, or_false, false_or, or_true, true_or, and_true, true_and, Nat.le_refl] <;> omega))

end Go.Proofs.Ytniccdnhjbnaeaa

namespace Go.Proofs.Ytniccdnhjbnaeaa
open Go.Proofs Go.AL
set_option maxRecDepth 100000
set_option maxHeartbeats 1000000
set_option linter.unusedVariables false
set_option linter.unusedSimpArgs false
attribute [local irreducible] endA
attribute [local go_sem] dec_ltT dec_ltF dec_leT dec_leF beq_T beq_F bne_T bne_F encD


def SyncQ (x m N : Nat) (G : Nat → Option Blk) (st : List Sec) (ca : List (Int × Sec)) (r : AV) (H' : Heap) : Prop :=
  ∃ N', r = zV 0 ∧ H' = ⟨N', tabB G [(x, some (.cells 91 2 [[.snap (encL encSec (newD ⟨st, ca⟩)), .c (.slice none 0 0)]] true false)), (m, none)]⟩ ∧ N ≤ N'

theorem sync_m (x m N : Nat) (G : Nat → Option Blk) (st : List Sec) (ca : List (Int × Sec)) (cav : AV) (mb : Option Blk) (hx : G x = some (.cells 91 2 [[.snap (encL encSec st), cav]] true false)) (hm : G m = mb) (hcav : Cav cav m mb ca) (hxN : x < N) (hmN : m < N) (hxm : x ≠ m) (hG : ∀ id, N ≤ id → G id = none) (hL : st.length ≤ 4096) (hC : ca.length ≤ 500000) (hok : inAll ⟨st, ca⟩) (o : Opr) : ACall Try.prog 63 [.ptr x 0 0, .agg (encOp o)] ⟨N, G⟩ (SyncQ x m N G st ca) := by
  refine acallG Try.func63 rfl (by kernel_rfl) (by simp [Try.ntmps63]) ?_
  rw [Try.ntmps63]
  rcases hcav with ⟨w, rfl, rfl⟩ | ⟨a, rfl, rfl, hca⟩
  · repeat (first | (refine aw_seq ?_) | (apply w_region (by rfl); (next => (simp (maxSteps := 2000000) (disch := omega) only [go_sem, List.drop_zero, List.take_length, hx, hm] <;> exact rfl))) | (refine w_nil ?_) | (refine w_hold2 ?_) | (refine w_then ?_) | (refine aw_ret ?_) | (apply w_end; (next => (simp (maxSteps := 2000000) (disch := omega) only [go_sem, List.drop_zero, List.take_length, hx, hm, Try.f63] <;> exact rfl))) | (apply w_callX (hop := rfl) (hg := rfl) (hp := (newest_p ⟨st, ca⟩ hL (by show ca.length ≤ 1000000; omega) hok)); (next => (simp (maxSteps := 2000000) (disch := omega) only [go_sem, List.drop_zero, List.take_length, hx, hm] <;> exact rfl)); (next => (simp (maxSteps := 2000000) (disch := omega) only [go_sem, List.drop_zero, List.take_length, hx, hm] <;> exact rfl)); (next => (simp [noId_c, noId_agg, noId_snap, noId_tup,encD,sec_noIdE,encL_noId,encL_noIdE,encCa,encOp,encExt]; done)); (next => (simp (maxSteps := 2000000) (disch := omega) only [go_sem, List.drop_zero, List.take_length, hx, hm] <;> exact rfl)); (next => (simp (maxSteps := 2000000) (disch := omega) only [go_sem, List.drop_zero, List.take_length, hx, hm] <;> exact rfl))))
    refine ⟨_, ⟨?_, ?_⟩, N + 1000, rfl, rfl, by omega⟩
    · simp only []; omega
    · exact (subB hG (sB_cons (by (first | rfl | (simp (disch := omega) only [go_sem, encD]; done) | (simp (disch := omega) only [go_sem, encD]; rfl))) (sB_none (sB_nil))) (by simp only [keysOK, memK, or_false, false_or, or_true, true_or, and_true, true_and, Nat.le_refl] <;> omega))
  · repeat (first | (refine aw_seq ?_) | (apply w_region (by rfl); (next => (simp (maxSteps := 2000000) (disch := omega) only [go_sem, hx, hm] <;> exact rfl))) | (refine w_nil ?_) | (refine w_hold2 ?_) | (refine w_then ?_) | (refine aw_ret ?_) | (apply w_end; (next => (simp (maxSteps := 2000000) (disch := omega) only [go_sem, hx, hm, Try.f63] <;> exact rfl))) | (apply w_callP (hop := rfl) (hg := rfl) (hp := (lessD' hca (newest_p ⟨st, ca⟩ hL (by show ca.length ≤ 1000000; omega) hok))); (next => (simp (maxSteps := 2000000) (disch := omega) only [go_sem, hx, hm] <;> exact rfl)); (next => (simp [noId_c, noId_agg, noId_snap, noId_tup,encD,sec_noIdE,encL_noId,encL_noIdE,encCa,encOp,encExt]; done)); (next => (simp (maxSteps := 2000000) (disch := omega) only [go_sem, hx, hm] <;> exact rfl))))
    refine ⟨_, ⟨?_, ?_⟩, N + 1000, rfl, rfl, by omega⟩
    · simp only []; omega
    · exact (subB hG (sB_cons (by (first | rfl | (simp (disch := omega) only [go_sem, encD]; done) | (simp (disch := omega) only [go_sem, encD]; rfl))) (sB_none (sB_nil))) (by simp only [keysOK, memK, or_false, false_or, or_true, true_or, and_true, true_and, Nat.le_refl] <;> omega))


def RunQ (x m N : Nat) (G : Nat → Option Blk) (d : Dsk) (ops : List Opr) (r : AV) (H' : Heap) : Prop :=
  ∃ N' xb m' mb', r = .tup [zV (runL d ops 0).2.1, zV (runL d ops 0).2.2] ∧ H' = ⟨N', tabB G [(m', mb'), (x, xb), (m, none)]⟩ ∧ N ≤ N' ∧ m' < N' ∧ (m' = m ∨ N ≤ m') ∧
    ((runL d ops 0).2.2 = 0 → ∃ cav', xb = some (.cells 91 2 [[.snap (encL encSec (runL d ops 0).1.st), cav']] true false) ∧ Cav cav' m' mb' (runL d ops 0).1.ca)
def HeadR (x m N : Nat) (G : Nat → Option Blk) (d : Dsk) (ops : List Opr) (n : Nat) (env : List (Nat × Bool × AV)) (H : Heap) : Prop :=
  ∃ k d' cav m2 mb2 N2, n = ops.length - k ∧ k ≤ ops.length ∧ RunInv d ops k d' ∧ Cav cav m2 mb2 d'.ca ∧ m2 < N2 ∧ N < N2 ∧ (m2 = m ∨ N < m2) ∧
    env = [(17, true, zV (k : Int)), (16, true, zV (ops.length : Int)), (15, true, .snap (encL encOp ops)), (6, true, .ptr N 0 0), (0, true, .ptr x 0 0), (1, true, .snap (encL encOp ops))] ∧
    H = ⟨N2, tabB G [(m2, mb2), (x, some (.cells 91 2 [[.snap (encL encSec d'.st), cav]] true false)), (N, some (.cells 115 2 [[.fn (.func 62) [.ptr x 0 0] [], .fn (.func 63) [.ptr x 0 0] []]] true false)), (m, none)]⟩

theorem run_m (x m N : Nat) (G : Nat → Option Blk) (st : List Sec) (ca : List (Int × Sec)) (cav : AV) (mb : Option Blk) (hx : G x = some (.cells 91 2 [[.snap (encL encSec st), cav]] true false)) (hm : G m = mb) (hcav : Cav cav m mb ca) (hxN : x < N) (hmN : m < N) (hxm : x ≠ m) (hG : ∀ id, N ≤ id → G id = none) (hL : st.length ≤ 4096) (ops : List Opr) (hO : ops.length ≤ 1000) (hC : ca.length + ops.length * 4096 ≤ 400000) (hok : inAll ⟨st, ca⟩) : ACall Try.prog 47 [.ptr x 0 0, .snap (encL encOp ops)] ⟨N, G⟩ (RunQ x m N G ⟨st, ca⟩ ops) := by
  refine acallG Try.func47 rfl (by kernel_rfl) (by simp [Try.ntmps47]) ?_
  rw [Try.ntmps47]
  repeat (first | (refine aw_seq ?_) | (apply w_region (by rfl); (next => (simp (maxSteps := 2000000) (disch := omega) only [go_sem, (encL_get (f := encOp) default), hx, hm] <;> exact rfl))) | (refine w_nil ?_) | (refine w_then ?_) | (refine aw_block ?_))
  refine w_loop (HeadR x m N G ⟨st, ca⟩ ops) ops.length ?_ ?_
  · refine ⟨_, _, ⟨0, ⟨st, ca⟩, cav, m, mb, N + 1000, by omega, by omega, .start hok, hcav, by omega, by omega, .inl rfl, rfl, rfl⟩, ?_⟩
    refine holds_cons (by rfl) (holds_cons (by rfl) (holds_cons (by rfl) (holds_cons (by rfl) (holds_cons (by rfl) (holds_cons (by rfl) (holds_nil (by simp only []; omega) (subB hG (sB_cons (by (first | rfl | (simp (disch := omega) only [go_sem, encD, hx, hm]; done) | (simp (disch := omega) only [go_sem, encD, hx, hm]; rfl))) (sB_cons (by (first | rfl | (simp (disch := omega) only [go_sem, encD, hx, hm]; done) | (simp (disch := omega) only [go_sem, encD, hx, hm]; rfl))) (sB_cons (by (first | rfl | (simp (disch := omega) only [go_sem, encD, hx, hm]; done) | (simp (disch := omega) only [go_sem, encD, hx, hm]; rfl))) (sB_none (sB_nil))))) (by simp only [keysOK, memK, or_false, false_or, or_true, true_or, and_true, true_and, Nat.le_refl] <;> omega))))))))
  · rintro n env H ⟨k, d', cav2, m2, mb2, N2, rfl, hk, hinv, hcav2, hm2, hN2, hmm, rfl, rfl⟩
    have hcl : d'.ca.length ≤ ca.length + k * 4096 := hinv.ca
    have hst : d'.st.length = st.length := hinv.st
    by_cases hlt : k < ops.length
    · by_cases h0 : (ops.getD k default).kind = 0
      · repeat (first | (refine aw_seq ?_) | (apply w_region (by rfl); (next => (simp (maxSteps := 2000000) (disch := omega) only [go_sem, (encL_get (f := encOp) default), h0] <;> exact rfl))) | (apply w_drawT 5 (by kernel_rfl) (by kernel_rfl) (by kernel_rfl) (by rfl); (case hr => (apply d_run; (next => (simp (maxSteps := 2000000) (disch := omega) only [go_sem, (encL_get (f := encOp) default), h0] <;> exact rfl)); exact d_nil)); (case hdyn => (simp (maxSteps := 2000000) (disch := omega) only [go_sem, nbeq_F, nbeq_T, (encL_get (f := encOp) default), h0] <;> kernel_rfl)); apply w_go; (next => (simp (maxSteps := 2000000) (disch := omega) only [go_sem, (encL_get (f := encOp) default), h0] <;> exact rfl))) | (refine w_nil ?_) | (refine w_then ?_) | (refine aw_skip ?_) | (refine aw_block ?_) | (apply w_condT; (next => (simp (maxSteps := 2000000) (disch := omega) only [go_sem, (encL_get (f := encOp) default), h0] <;> done))) | (apply w_condF; (next => (simp (maxSteps := 2000000) (disch := omega) only [go_sem, (encL_get (f := encOp) default), h0] <;> done))))
        refine w_callA (args := [.ptr x 0 0, .agg (encOp (ops.getD k default))]) (n := 62) rfl rfl ?hc (write_m x m2 _ _ d'.st d'.ca cav2 mb2 (ops.getD k default) ?ha ?hb hcav2 ?hd ?he ?hf ?hg (by omega) (by omega)) ?hrest
        case hc => (first | rfl | (simp (disch := omega) only [go_sem, encD, h0]; done) | (simp (disch := omega) only [go_sem, encD, h0]; rfl))
        case ha => (first | rfl | (simp (disch := omega) only [go_sem, encD]; done) | (simp (disch := omega) only [go_sem, encD]; rfl))
        case hb => (first | rfl | (simp (disch := omega) only [go_sem, encD]; done) | (simp (disch := omega) only [go_sem, encD]; rfl))
        case hd => exact (by first | omega | (simp only [] <;> omega))
        case he => exact (by first | omega | (simp only [] <;> omega))
        case hf => omega
        case hg => exact tabB_free hG (by first | omega | (simp only [] <;> omega)) (by simp only [keysLt, and_true] <;> omega)
        case hrest =>
          rintro r H' (⟨hi, cav', m', mb', N', rfl, rfl, hcav', hN', hm', hmm'⟩ | ⟨hi, N', rfl, rfl, hN'⟩)
          · have hs : stepS d' (ops.getD k default) = .inr ⟨d'.st, putS d'.ca (ops.getD k default).at_ (ops.getD k default).data (ops.getD k default).data.length⟩ := by unfold stepS; rw [if_pos h0, if_pos hi]
            simp only [tabB_tabB, List.cons_append, List.nil_append]
            apply w_go
            (next => (simp (maxSteps := 2000000) (disch := omega) only [go_sem, h0] <;> exact rfl))
            repeat (first | (refine aw_seq ?_) | (apply w_region (by rfl); (next => (simp (maxSteps := 2000000) (disch := omega) only [go_sem, (encL_get (f := encOp) default)] <;> exact rfl))) | (refine w_nil ?_) | (refine w_then ?_) | (refine aw_skip ?_) | (apply w_condF; (next => (simp (maxSteps := 2000000) (disch := omega) only [go_sem, (encL_get (f := encOp) default)] <;> done))))
            refine ⟨ops.length - (k + 1), by omega, _, _, ⟨k + 1, ⟨d'.st, putS d'.ca (ops.getD k default).at_ (ops.getD k default).data (ops.getD k default).data.length⟩, cav', m', mb', N' + 1000, rfl, by omega, hinv.next hlt hs (inAll_put hinv.ok hi) rfl (by have := inside_len hi; rw [putS_len]; omega), hcav', by omega, by omega, by omega, rfl, rfl⟩, ?_⟩
            refine holds_cons (by rfl) (holds_cons (by rfl) (holds_cons (by rfl) (holds_cons (by rfl) (holds_cons (by rfl) (holds_cons (by rfl) (holds_nil (by simp only []; omega) (subB hG (sB_cons (by (first | rfl | (simp (disch := omega) only [go_sem, encD]; done) | (simp (disch := omega) only [go_sem, encD]; rfl))) (sB_cons (by (first | rfl | (simp (disch := omega) only [go_sem, encD]; done) | (simp (disch := omega) only [go_sem, encD]; rfl))) (sB_cons (by (first | rfl | (simp (disch := omega) only [go_sem, encD]; done) | (simp (disch := omega) only [go_sem, encD]; rfl))) (sB_none (sB_nil))))) (by simp only [keysOK, memK, or_false, false_or, or_true, true_or, and_true, true_and, Nat.le_refl] <;> omega))))))))
          · have hs : stepS d' (ops.getD k default) = .inl 2 := by unfold stepS; rw [if_pos h0, if_neg (by rw [hi]; simp)]
            have hr := hinv.bad hlt hs
            simp only [tabB_tabB, List.cons_append, List.nil_append]
            apply w_go
            (next => (simp (maxSteps := 2000000) (disch := omega) only [go_sem, h0] <;> exact rfl))
            repeat (first | (refine aw_seq ?_) | (apply w_region (by rfl); (next => (simp (maxSteps := 2000000) (disch := omega) only [go_sem, (encL_get (f := encOp) default)] <;> exact rfl))) | (refine w_nil ?_) | (refine w_hold2 ?_) | (refine w_then ?_) | (refine w_thenR ?_) | (refine w_blockR ?_) | (refine aw_ret ?_) | (apply w_end; (next => (simp (maxSteps := 2000000) (disch := omega) only [go_sem, (encL_get (f := encOp) default), Try.f47] <;> exact rfl))) | (apply w_condT; (next => (simp (maxSteps := 2000000) (disch := omega) only [go_sem, (encL_get (f := encOp) default)] <;> done))))
            refine ⟨_, ⟨?_, ?_⟩, N' + 1000, none, m, none, by rw [hr], rfl, by omega, by omega, .inl rfl, fun h => by rw [hr] at h; cases h⟩
            · simp only []; omega
            · exact (subB hG (sB_none (sB_none (sB_none (sB_nil)))) (by simp only [keysOK, memK, or_false, false_or, or_true, true_or, and_true, true_and, Nat.le_refl] <;> omega))

      · by_cases h1 : (ops.getD k default).kind = 1
        · repeat (first | (refine aw_seq ?_) | (apply w_region (by rfl); (next => (simp (maxSteps := 2000000) (disch := omega) only [go_sem, (encL_get (f := encOp) default), h1] <;> exact rfl))) | (apply w_drawT 5 (by kernel_rfl) (by kernel_rfl) (by kernel_rfl) (by rfl); (case hr => (apply d_run; (next => (simp (maxSteps := 2000000) (disch := omega) only [go_sem, (encL_get (f := encOp) default), h1] <;> exact rfl)); exact d_nil)); (case hdyn => (simp (maxSteps := 2000000) (disch := omega) only [go_sem, nbeq_F, nbeq_T, (encL_get (f := encOp) default), h1] <;> kernel_rfl)); apply w_go; (next => (simp (maxSteps := 2000000) (disch := omega) only [go_sem, (encL_get (f := encOp) default), h1] <;> exact rfl))) | (refine w_nil ?_) | (refine w_then ?_) | (refine aw_skip ?_) | (refine aw_block ?_) | (apply w_condT; (next => (simp (maxSteps := 2000000) (disch := omega) only [go_sem, (encL_get (f := encOp) default), h1] <;> done))) | (apply w_condF; (next => (simp (maxSteps := 2000000) (disch := omega) only [go_sem, (encL_get (f := encOp) default), h1] <;> done))))
          refine w_callA (args := [.ptr x 0 0, .agg (encOp (ops.getD k default))]) (n := 63) rfl rfl ?hc (sync_m x m2 _ _ d'.st d'.ca cav2 mb2 ?ha ?hb hcav2 ?hd ?he ?hf ?hg (by omega) (by omega) hinv.ok (ops.getD k default)) ?hrest
          case hc => (first | rfl | (simp (disch := omega) only [go_sem, encD, h1]; done) | (simp (disch := omega) only [go_sem, encD, h1]; rfl))
          case ha => (first | rfl | (simp (disch := omega) only [go_sem, encD]; done) | (simp (disch := omega) only [go_sem, encD]; rfl))
          case hb => (first | rfl | (simp (disch := omega) only [go_sem, encD]; done) | (simp (disch := omega) only [go_sem, encD]; rfl))
          case hd => exact (by first | omega | (simp only [] <;> omega))
          case he => exact (by first | omega | (simp only [] <;> omega))
          case hf => omega
          case hg => exact tabB_free hG (by first | omega | (simp only [] <;> omega)) (by simp only [keysLt, and_true] <;> omega)
          case hrest =>
            rintro r H' ⟨N', rfl, rfl, hN'⟩
            have hs : stepS d' (ops.getD k default) = .inr ⟨newD d', []⟩ := by unfold stepS; rw [if_neg h0, if_pos h1]
            simp only [tabB_tabB, List.cons_append, List.nil_append]
            apply w_go
            (next => (simp (maxSteps := 2000000) (disch := omega) only [go_sem, h1] <;> exact rfl))
            repeat (first | (refine aw_seq ?_) | (apply w_region (by rfl); (next => (simp (maxSteps := 2000000) (disch := omega) only [go_sem, (encL_get (f := encOp) default)] <;> exact rfl))) | (refine w_nil ?_) | (refine w_then ?_) | (refine aw_skip ?_) | (apply w_condF; (next => (simp (maxSteps := 2000000) (disch := omega) only [go_sem, (encL_get (f := encOp) default)] <;> done))))
            refine ⟨ops.length - (k + 1), by omega, _, _, ⟨k + 1, ⟨newD d', []⟩, .c (.slice none 0 0), m, none, N' + 1000, rfl, by omega, hinv.next hlt hs (inAll_new d') (newD_len d') (by simp), Cav.nil0, by omega, by omega, .inl rfl, rfl, rfl⟩, ?_⟩
            refine holds_cons (by rfl) (holds_cons (by rfl) (holds_cons (by rfl) (holds_cons (by rfl) (holds_cons (by rfl) (holds_cons (by rfl) (holds_nil (by simp only []; omega) (subB hG (sB_none (sB_cons (by (first | rfl | (simp (disch := omega) only [go_sem, encD]; done) | (simp (disch := omega) only [go_sem, encD]; rfl))) (sB_cons (by (first | rfl | (simp (disch := omega) only [go_sem, encD]; done) | (simp (disch := omega) only [go_sem, encD]; rfl))) (sB_none (sB_nil))))) (by simp only [keysOK, memK, or_false, false_or, or_true, true_or, and_true, true_and, Nat.le_refl] <;> omega))))))))
        · have hs : stepS d' (ops.getD k default) = .inl 1 := by unfold stepS; rw [if_neg h0, if_neg h1]
          have hr := hinv.bad hlt hs
          by_cases h2 : (ops.getD k default).kind < 0
          · repeat (first | (refine aw_seq ?_) | (apply w_region (by rfl); (next => (simp (maxSteps := 2000000) (disch := omega) only [go_sem, (encL_get (f := encOp) default)] <;> exact rfl))) | (refine w_nil ?_) | (refine w_hold2 ?_) | (refine w_then ?_) | (refine w_thenR ?_) | (refine w_blockR ?_) | (refine aw_skip ?_) | (refine aw_ret ?_) | (refine aw_block ?_) | (apply w_end; (next => (simp (maxSteps := 2000000) (disch := omega) only [go_sem, (encL_get (f := encOp) default), Try.f47] <;> exact rfl))) | (apply w_condT; (next => (simp (maxSteps := 2000000) (disch := omega) only [go_sem, (encL_get (f := encOp) default)] <;> done))))
            refine ⟨_, ⟨?_, ?_⟩, N2 + 1000, none, m, none, by rw [hr], rfl, by omega, by omega, .inl rfl, fun h => by rw [hr] at h; cases h⟩
            · simp only []; omega
            · exact (subB hG (sB_none (sB_none (sB_none (sB_nil)))) (by simp only [keysOK, memK, or_false, false_or, or_true, true_or, and_true, true_and, Nat.le_refl] <;> omega))

          · repeat (first | (refine aw_seq ?_) | (apply w_region (by rfl); (next => (simp (maxSteps := 2000000) (disch := omega) only [go_sem, (encL_get (f := encOp) default)] <;> exact rfl))) | (refine w_nil ?_) | (refine w_hold2 ?_) | (refine w_then ?_) | (refine w_thenR ?_) | (refine w_blockR ?_) | (refine aw_skip ?_) | (refine aw_ret ?_) | (refine aw_block ?_) | (apply w_end; (next => (simp (maxSteps := 2000000) (disch := omega) only [go_sem, (encL_get (f := encOp) default), Try.f47] <;> exact rfl))) | (apply w_condT; (next => (simp (maxSteps := 2000000) (disch := omega) only [go_sem, (encL_get (f := encOp) default)] <;> done))))
            refine ⟨_, ⟨?_, ?_⟩, N2 + 1000, none, m, none, by rw [hr], rfl, by omega, by omega, .inl rfl, fun h => by rw [hr] at h; cases h⟩
            · simp only []; omega
            · exact (subB hG (sB_none (sB_none (sB_none (sB_nil)))) (by simp only [keysOK, memK, or_false, false_or, or_true, true_or, and_true, true_and, Nat.le_refl] <;> omega))

    · obtain rfl : k = ops.length := by omega
      have hr := hinv.fin rfl
      repeat (first | (refine aw_seq ?_) | (apply w_region (by rfl); (next => (simp (maxSteps := 2000000) (disch := omega) only [go_sem, (encL_get (f := encOp) default)] <;> exact rfl))) | (refine w_nil ?_) | (refine w_hold2 ?_) | (refine w_then ?_) | (refine aw_ret ?_) | (refine aw_exit ?_) | (apply w_end; (next => (simp (maxSteps := 2000000) (disch := omega) only [go_sem, (encL_get (f := encOp) default), Try.f47] <;> exact rfl))) | (apply w_condF; (next => (simp (maxSteps := 2000000) (disch := omega) only [go_sem, (encL_get (f := encOp) default)] <;> done))))
      refine ⟨_, ⟨?_, ?_⟩, N2 + 1000, some (.cells 91 2 [[.snap (encL encSec d'.st), cav2]] true false), m2, mb2, by rw [hr], rfl, by omega, by omega, by omega, fun _ => ⟨cav2, by rw [hr], by rw [hr]; exact hcav2⟩⟩
      · simp only []; omega
      · exact (subB hG (sB_cons (by (first | rfl | (simp (disch := omega) only [go_sem, encD]; done) | (simp (disch := omega) only [go_sem, encD]; rfl))) (sB_cons (by (first | rfl | (simp (disch := omega) only [go_sem, encD]; done) | (simp (disch := omega) only [go_sem, encD]; rfl))) (sB_none (sB_nil)))) (by simp only [keysOK, memK, or_false, false_or, or_true, true_or, and_true, true_and, Nat.le_refl] <;> omega))

end Go.Proofs.Ytniccdnhjbnaeaa

namespace Go.Proofs.Ytniccdnhjbnaeaa
open Go.Proofs Go.AL
set_option maxRecDepth 100000
set_option maxHeartbeats 1000000
set_option linter.unusedVariables false
set_option linter.unusedSimpArgs false
attribute [local irreducible] endA
attribute [local go_sem] dec_ltT dec_ltF dec_leT dec_leF beq_T beq_F bne_T bne_F encD


theorem runL_err {e : Int} : ∀ (ops : List Opr) (d : Dsk) (k : Nat), (runL d ops k).2.2 = e → e ≠ 0 → (runL d ops k).1 = Dsk.empty
  | [], d, k, h, hne => absurd h.symm hne
  | o :: r, d, k, h, hne => by
    simp only [runL] at h ⊢
    split at h
    · rename_i d' hs; exact runL_err r d' (k + 1) h hne
    · rfl

theorem run_1 (d : Dsk) (ops : List Opr) (hL : d.st.length ≤ 4096) (hC : d.ca.length + ops.length * 4096 ≤ 400000) (hc : checkD d = 0) (hne : d.ca ≠ []) (hO : ops.length ≤ 1000) : PCall Try.prog 20 [.agg (encD d), .snap (encL encOp ops)] (· = .tup [.agg (encD (runS d ops).1), zV (runS d ops).2.1, zV (runS d ops).2.2]) := by
  refine PCall.wk ?_ (res_noId _ _ _)
  refine pcall Try.func20 rfl (by kernel_rfl) (by simp [Try.ntmps20]) ?_
  rw [Try.ntmps20]
  have hin := (inAll_of hc).1
  repeat (first | (refine aw_seq ?_) | (apply w_region (by rfl); (next => (simp (maxSteps := 2000000) (disch := omega) only [go_sem, hc, (encL_get (f := encOp) default)] <;> exact rfl))) | (apply w_draw (by kernel_rfl) (by kernel_rfl) (by rfl); (case hr => (repeat (apply d_run; (next => (simp (maxSteps := 2000000) (disch := omega) only [go_sem, hc, (encL_get (f := encOp) default)] <;> exact rfl)); first | exact d_nil | (apply d_callP (hop := rfl) (hg := rfl) (hp := (cloneS_p d.st (by omega))); (next => (simp (maxSteps := 2000000) (disch := omega) only [go_sem, hc, (encL_get (f := encOp) default)] <;> exact rfl)); (next => (simp [noId_c, noId_agg, noId_snap, noId_tup,encD,sec_noIdE,encL_noId,encL_noIdE,encCa,encOp,encExt]; done))) | (apply d_callO (hop := rfl) (hg := rfl) (hp := (cloneC_o d.ca hne (by omega))); (next => (simp (maxSteps := 2000000) (disch := omega) only [go_sem, hc, (encL_get (f := encOp) default)] <;> exact rfl)); (next => (simp (maxSteps := 2000000) (disch := omega) only [go_sem, hc, (encL_get (f := encOp) default)] <;> exact rfl)))))); (case hdyn => (simp (maxSteps := 2000000) (disch := omega) only [go_sem, nbeq_F, nbeq_T, hc, (encL_get (f := encOp) default)] <;> kernel_rfl))) | (refine w_nil ?_) | (refine w_hold2 ?_) | (refine w_then ?_) | (refine aw_skip ?_) | (refine aw_ret ?_) | (apply w_endI; (next => (simp (maxSteps := 2000000) (disch := omega) only [go_sem, hc, (encL_get (f := encOp) default), Try.f20, Try.f46] <;> exact rfl)); (next => (simp (maxSteps := 2000000) (disch := omega) only [go_sem, hc, (encL_get (f := encOp) default)] <;> exact rfl))) | (apply w_condF; (next => (simp (maxSteps := 2000000) (disch := omega) only [go_sem, hc, (encL_get (f := encOp) default)] <;> done))) | (apply w_callP (hop := rfl) (hg := rfl) (hp := (check_p d (by omega) (by omega))); (next => (simp (maxSteps := 2000000) (disch := omega) only [go_sem, hc, (encL_get (f := encOp) default)] <;> exact rfl)); (next => (simp [noId_c, noId_agg, noId_snap, noId_tup,encD,sec_noIdE,encL_noId,encL_noIdE,encCa,encOp,encExt]; done)); (next => (simp (maxSteps := 2000000) (disch := omega) only [go_sem, hc, (encL_get (f := encOp) default)] <;> exact rfl))) | (apply w_callI Try.func46 rfl (by kernel_rfl) Try.ntmps46 (hop := rfl) (hg := rfl); (next => (simp (maxSteps := 2000000) (disch := omega) only [go_sem, hc, (encL_get (f := encOp) default)] <;> exact rfl)); (next => (simp; done))))
  refine w_callA (args := [.ptr 12 0 0, .snap (encL encOp ops)]) (n := 47) rfl rfl ?hc (run_m 12 9 _ _ d.st d.ca _ _ ?ha ?hb (Cav.mk (w := true) rfl) ?hd ?he (by omega) ?hg (by omega) ops hO hC hin) ?hrest
  case hc => (first | rfl | (simp (disch := omega) only [go_sem, encD]; done) | (simp (disch := omega) only [go_sem, encD]; rfl))
  case ha => (first | rfl | (simp (disch := omega) only [go_sem, encD]; done) | (simp (disch := omega) only [go_sem, encD]; rfl))
  case hb => (first | rfl | (simp (disch := omega) only [go_sem, encD]; done) | (simp (disch := omega) only [go_sem, encD]; rfl))
  case hd => exact (by first | omega | (simp only [] <;> omega))
  case he => exact (by first | omega | (simp only [] <;> omega))
  case hg => exact tabG_free (by simp only [keysLt, and_true] <;> omega)
  case hrest =>
    rintro r H' ⟨N', xb, m', mb', rfl, rfl, hN', hm', hmm, hfin⟩
    have hS : runS d ops = runL d ops 0 := by unfold runS; rw [if_pos hc]
    have herr := runL_err ops d 0 (e := (runL d ops 0).2.2) rfl
    rw [hS]
    generalize hq : runL d ops 0 = q at *
    obtain ⟨d', n, e⟩ := q
    simp only [] at hfin herr ⊢
    by_cases he : e = 0
    · subst he
      obtain ⟨cav', rfl, hcav'⟩ := hfin rfl
      rcases hcav' with ⟨w, rfl, rfl⟩ | ⟨a', rfl, rfl, hca'⟩
      · apply w_go
        (next => (simp (maxSteps := 2000000) (disch := omega) only [go_sem] <;> exact rfl))
        repeat (first | (refine aw_seq ?_) | (apply w_region (by rfl); (next => (simp (maxSteps := 2000000) (disch := omega) only [go_sem, hc, (encL_get (f := encOp) default)] <;> exact rfl))) | (refine w_nil ?_) | (refine w_hold2 ?_) | (refine w_then ?_) | (refine aw_skip ?_) | (refine aw_ret ?_) | (apply w_end; (next => (simp (maxSteps := 2000000) (disch := omega) only [go_sem, hc, (encL_get (f := encOp) default), Try.f20, Try.f46] <;> exact rfl))) | (apply w_condF; (next => (simp (maxSteps := 2000000) (disch := omega) only [go_sem, hc, (encL_get (f := encOp) default)] <;> done))))
        (simp (maxSteps := 2000000) (disch := omega) only [go_sem, noId_c, noId_agg, noId_tup, noId_snap, encL_noIdE, sec_noIdE, List.drop_zero, List.take_length]; (repeat (first | exact .refl _ | exact .nil | exact wks_nil | refine wks_cons ?_ ?_ | refine wk_tup ?_ | refine wk_agg ?_)))
      · apply w_go
        (next => (simp (maxSteps := 2000000) (disch := omega) only [go_sem] <;> exact rfl))
        repeat (first | (refine aw_seq ?_) | (apply w_region (by rfl); (next => (simp (maxSteps := 2000000) (disch := omega) only [go_sem, hc, (encL_get (f := encOp) default)] <;> exact rfl))) | (refine w_nil ?_) | (refine w_hold2 ?_) | (refine w_then ?_) | (refine aw_skip ?_) | (refine aw_ret ?_) | (apply w_end; (next => (simp (maxSteps := 2000000) (disch := omega) only [go_sem, hc, (encL_get (f := encOp) default), Try.f20, Try.f46] <;> exact rfl))) | (apply w_condF; (next => (simp (maxSteps := 2000000) (disch := omega) only [go_sem, hc, (encL_get (f := encOp) default)] <;> done))))
        (simp (maxSteps := 2000000) (disch := omega) only [go_sem, noId_c, noId_agg, noId_tup, noId_snap, encL_noIdE, sec_noIdE, List.drop_zero, List.take_length, hca', encL_nil]; (repeat (first | exact .refl _ | exact .nil | exact wks_nil | refine wks_cons ?_ ?_ | refine wk_tup ?_ | refine wk_agg ?_)))
    · have hd' := herr he
      subst hd'
      apply w_go
      (next => (simp (maxSteps := 2000000) (disch := omega) only [go_sem] <;> exact rfl))
      have hb1 : (e != 0) = true := bne_T he
      repeat (first | (refine aw_seq ?_) | (apply w_region (by rfl); (next => (simp (maxSteps := 2000000) (disch := omega) only [go_sem, hc, (encL_get (f := encOp) default), hb1] <;> exact rfl))) | (refine w_nil ?_) | (refine w_hold2 ?_) | (refine w_then ?_) | (refine w_thenR ?_) | (refine aw_ret ?_) | (apply w_end; (next => (simp (maxSteps := 2000000) (disch := omega) only [go_sem, hc, (encL_get (f := encOp) default), hb1, Try.f20, Try.f46] <;> exact rfl))) | (apply w_condT; (next => (simp (maxSteps := 2000000) (disch := omega) only [go_sem, hc, (encL_get (f := encOp) default), hb1] <;> done))))
      (simp (maxSteps := 2000000) (disch := omega) only [go_sem, noId_c, noId_agg, noId_tup, noId_snap, encL_noIdE, sec_noIdE, List.drop_zero, List.take_length, Dsk.empty, encL_nil]; (repeat (first | exact .refl _ | exact .nil | exact wks_nil | refine wks_cons ?_ ?_ | refine wk_tup ?_ | refine wk_agg ?_)))


theorem check_x0 (st : List Sec) (a : Option Addr) (cap : Nat) (hL : st.length ≤ 1000000) (hc : checkD ⟨st, []⟩ = 0) : PCall Try.prog 33 [.agg [.snap (encL encSec st), .c (.slice a 0 cap)]] (· = zV 0) := by
  have := check_x st a cap hL
  rwa [hc] at this

theorem run_2 (st : List Sec) (ops : List Opr) (hL : st.length ≤ 4096) (hC : 0 + ops.length * 4096 ≤ 400000) (hc : checkD ⟨st, []⟩ = 0) (hO : ops.length ≤ 1000) (cap : Nat) : PCall Try.prog 20 [.agg [.snap (encL encSec st), .c (.slice none 0 cap)], .snap (encL encOp ops)] (· = .tup [.agg (encD (runS ⟨st, []⟩ ops).1), zV (runS ⟨st, []⟩ ops).2.1, zV (runS ⟨st, []⟩ ops).2.2]) := by
  refine PCall.wk ?_ (res_noId _ _ _)
  refine pcall Try.func20 rfl (by kernel_rfl) (by simp [Try.ntmps20]) ?_
  rw [Try.ntmps20]
  have hin := (inAll_of hc).1
  repeat (first | (refine aw_seq ?_) | (apply w_region (by rfl); (next => (simp (maxSteps := 2000000) (disch := omega) only [go_sem, hc, (encL_get (f := encOp) default)] <;> exact rfl))) | (apply w_draw (by kernel_rfl) (by kernel_rfl) (by rfl); (case hr => (repeat (apply d_run; (next => (simp (maxSteps := 2000000) (disch := omega) only [go_sem, hc, (encL_get (f := encOp) default)] <;> exact rfl)); first | exact d_nil | (apply d_callP (hop := rfl) (hg := rfl) (hp := (cloneS_p st (by omega))); (next => (simp (maxSteps := 2000000) (disch := omega) only [go_sem, hc, (encL_get (f := encOp) default)] <;> exact rfl)); (next => (simp [noId_c, noId_agg, noId_snap, noId_tup,encD,sec_noIdE,encL_noId,encL_noIdE,encCa,encOp,encExt]; done))) | (apply d_callP (hop := rfl) (hg := rfl) (hp := (cloneC_n cap)); (next => (simp (maxSteps := 2000000) (disch := omega) only [go_sem, hc, (encL_get (f := encOp) default)] <;> exact rfl)); (next => (simp [noId_c, noId_agg, noId_snap, noId_tup,encD,sec_noIdE,encL_noId,encL_noIdE,encCa,encOp,encExt]; done)))))); (case hdyn => (simp (maxSteps := 2000000) (disch := omega) only [go_sem, nbeq_F, nbeq_T, hc, (encL_get (f := encOp) default)] <;> kernel_rfl))) | (refine w_nil ?_) | (refine w_hold2 ?_) | (refine w_then ?_) | (refine aw_skip ?_) | (refine aw_ret ?_) | (apply w_endI; (next => (simp (maxSteps := 2000000) (disch := omega) only [go_sem, hc, (encL_get (f := encOp) default), Try.f20, Try.f46] <;> exact rfl)); (next => (simp (maxSteps := 2000000) (disch := omega) only [go_sem, hc, (encL_get (f := encOp) default)] <;> exact rfl))) | (apply w_condF; (next => (simp (maxSteps := 2000000) (disch := omega) only [go_sem, hc, (encL_get (f := encOp) default)] <;> done))) | (apply w_callP (hop := rfl) (hg := rfl) (hp := (check_x0 st none cap (by omega) hc)); (next => (simp (maxSteps := 2000000) (disch := omega) only [go_sem, hc, (encL_get (f := encOp) default)] <;> exact rfl)); (next => (simp [noId_c, noId_agg, noId_snap, noId_tup,encD,sec_noIdE,encL_noId,encL_noIdE,encCa,encOp,encExt]; done)); (next => (simp (maxSteps := 2000000) (disch := omega) only [go_sem, hc, (encL_get (f := encOp) default)] <;> exact rfl))) | (apply w_callI Try.func46 rfl (by kernel_rfl) Try.ntmps46 (hop := rfl) (hg := rfl); (next => (simp (maxSteps := 2000000) (disch := omega) only [go_sem, hc, (encL_get (f := encOp) default)] <;> exact rfl)); (next => (simp; done))))
  refine w_callA (args := [.ptr 12 0 0, .snap (encL encOp ops)]) (n := 47) rfl rfl ?hc (run_m 12 5 _ _ st [] _ none ?ha ?hb (Cav.nil0 (a := none)) ?hd ?he (by omega) ?hg (by omega) ops hO hC hin) ?hrest
  case hc => (first | rfl | (simp (disch := omega) only [go_sem, encD]; done) | (simp (disch := omega) only [go_sem, encD]; rfl))
  case ha => (first | rfl | (simp (disch := omega) only [go_sem, encD]; done) | (simp (disch := omega) only [go_sem, encD]; rfl))
  case hb => (first | rfl | (simp (disch := omega) only [go_sem, encD]; done) | (simp (disch := omega) only [go_sem, encD]; rfl))
  case hd => exact (by first | omega | (simp only [] <;> omega))
  case he => exact (by first | omega | (simp only [] <;> omega))
  case hg => exact tabG_free (by simp only [keysLt, and_true] <;> omega)
  case hrest =>
    rintro r H' ⟨N', xb, m', mb', rfl, rfl, hN', hm', hmm, hfin⟩
    have hS : runS ⟨st, []⟩ ops = runL ⟨st, []⟩ ops 0 := by unfold runS; rw [if_pos hc]
    have herr := runL_err ops ⟨st, []⟩ 0 (e := (runL ⟨st, []⟩ ops 0).2.2) rfl
    rw [hS]
    generalize hq : runL ⟨st, []⟩ ops 0 = q at *
    obtain ⟨d', n, e⟩ := q
    simp only [] at hfin herr ⊢
    by_cases he : e = 0
    · subst he
      obtain ⟨cav', rfl, hcav'⟩ := hfin rfl
      rcases hcav' with ⟨w, rfl, rfl⟩ | ⟨a', rfl, rfl, hca'⟩
      · apply w_go
        (next => (simp (maxSteps := 2000000) (disch := omega) only [go_sem] <;> exact rfl))
        repeat (first | (refine aw_seq ?_) | (apply w_region (by rfl); (next => (simp (maxSteps := 2000000) (disch := omega) only [go_sem, hc, (encL_get (f := encOp) default)] <;> exact rfl))) | (refine w_nil ?_) | (refine w_hold2 ?_) | (refine w_then ?_) | (refine aw_skip ?_) | (refine aw_ret ?_) | (apply w_end; (next => (simp (maxSteps := 2000000) (disch := omega) only [go_sem, hc, (encL_get (f := encOp) default), Try.f20, Try.f46] <;> exact rfl))) | (apply w_condF; (next => (simp (maxSteps := 2000000) (disch := omega) only [go_sem, hc, (encL_get (f := encOp) default)] <;> done))))
        (simp (maxSteps := 2000000) (disch := omega) only [go_sem, noId_c, noId_agg, noId_tup, noId_snap, encL_noIdE, sec_noIdE, List.drop_zero, List.take_length]; (repeat (first | exact .refl _ | exact .nil | exact wks_nil | refine wks_cons ?_ ?_ | refine wk_tup ?_ | refine wk_agg ?_)))
      · apply w_go
        (next => (simp (maxSteps := 2000000) (disch := omega) only [go_sem] <;> exact rfl))
        repeat (first | (refine aw_seq ?_) | (apply w_region (by rfl); (next => (simp (maxSteps := 2000000) (disch := omega) only [go_sem, hc, (encL_get (f := encOp) default)] <;> exact rfl))) | (refine w_nil ?_) | (refine w_hold2 ?_) | (refine w_then ?_) | (refine aw_skip ?_) | (refine aw_ret ?_) | (apply w_end; (next => (simp (maxSteps := 2000000) (disch := omega) only [go_sem, hc, (encL_get (f := encOp) default), Try.f20, Try.f46] <;> exact rfl))) | (apply w_condF; (next => (simp (maxSteps := 2000000) (disch := omega) only [go_sem, hc, (encL_get (f := encOp) default)] <;> done))))
        (simp (maxSteps := 2000000) (disch := omega) only [go_sem, noId_c, noId_agg, noId_tup, noId_snap, encL_noIdE, sec_noIdE, List.drop_zero, List.take_length, hca', encL_nil]; (repeat (first | exact .refl _ | exact .nil | exact wks_nil | refine wks_cons ?_ ?_ | refine wk_tup ?_ | refine wk_agg ?_)))
    · have hd' := herr he
      subst hd'
      apply w_go
      (next => (simp (maxSteps := 2000000) (disch := omega) only [go_sem] <;> exact rfl))
      have hb1 : (e != 0) = true := bne_T he
      repeat (first | (refine aw_seq ?_) | (apply w_region (by rfl); (next => (simp (maxSteps := 2000000) (disch := omega) only [go_sem, hc, (encL_get (f := encOp) default), hb1] <;> exact rfl))) | (refine w_nil ?_) | (refine w_hold2 ?_) | (refine w_then ?_) | (refine w_thenR ?_) | (refine aw_ret ?_) | (apply w_end; (next => (simp (maxSteps := 2000000) (disch := omega) only [go_sem, hc, (encL_get (f := encOp) default), hb1, Try.f20, Try.f46] <;> exact rfl))) | (apply w_condT; (next => (simp (maxSteps := 2000000) (disch := omega) only [go_sem, hc, (encL_get (f := encOp) default), hb1] <;> done))))
      (simp (maxSteps := 2000000) (disch := omega) only [go_sem, noId_c, noId_agg, noId_tup, noId_snap, encL_noIdE, sec_noIdE, List.drop_zero, List.take_length, Dsk.empty, encL_nil]; (repeat (first | exact .refl _ | exact .nil | exact wks_nil | refine wks_cons ?_ ?_ | refine wk_tup ?_ | refine wk_agg ?_)))

theorem run_3 (st : List Sec) (ops : List Opr) (hL : st.length ≤ 4096) (hC : 0 + ops.length * 4096 ≤ 400000) (hc : checkD ⟨st, []⟩ = 0) (hO : ops.length ≤ 1000) (cap : Nat) (a : Addr) : PCall Try.prog 20 [.agg [.snap (encL encSec st), .c (.slice (some a) 0 cap)], .snap (encL encOp ops)] (· = .tup [.agg (encD (runS ⟨st, []⟩ ops).1), zV (runS ⟨st, []⟩ ops).2.1, zV (runS ⟨st, []⟩ ops).2.2]) := by
  refine PCall.wk ?_ (res_noId _ _ _)
  refine pcall Try.func20 rfl (by kernel_rfl) (by simp [Try.ntmps20]) ?_
  rw [Try.ntmps20]
  have hin := (inAll_of hc).1
  repeat (first | (refine aw_seq ?_) | (apply w_region (by rfl); (next => (simp (maxSteps := 2000000) (disch := omega) only [go_sem, hc, (encL_get (f := encOp) default)] <;> exact rfl))) | (apply w_draw (by kernel_rfl) (by kernel_rfl) (by rfl); (case hr => (repeat (apply d_run; (next => (simp (maxSteps := 2000000) (disch := omega) only [go_sem, hc, (encL_get (f := encOp) default)] <;> exact rfl)); first | exact d_nil | (apply d_callP (hop := rfl) (hg := rfl) (hp := (cloneS_p st (by omega))); (next => (simp (maxSteps := 2000000) (disch := omega) only [go_sem, hc, (encL_get (f := encOp) default)] <;> exact rfl)); (next => (simp [noId_c, noId_agg, noId_snap, noId_tup,encD,sec_noIdE,encL_noId,encL_noIdE,encCa,encOp,encExt]; done))) | (apply d_callO (hop := rfl) (hg := rfl) (hp := (cloneC_s a cap)); (next => (simp (maxSteps := 2000000) (disch := omega) only [go_sem, hc, (encL_get (f := encOp) default)] <;> exact rfl)); (next => (simp (maxSteps := 2000000) (disch := omega) only [go_sem, hc, (encL_get (f := encOp) default)] <;> exact rfl)))))); (case hdyn => (simp (maxSteps := 2000000) (disch := omega) only [go_sem, nbeq_F, nbeq_T, hc, (encL_get (f := encOp) default)] <;> kernel_rfl))) | (refine w_nil ?_) | (refine w_hold2 ?_) | (refine w_then ?_) | (refine aw_skip ?_) | (refine aw_ret ?_) | (apply w_endI; (next => (simp (maxSteps := 2000000) (disch := omega) only [go_sem, hc, (encL_get (f := encOp) default), Try.f20, Try.f46] <;> exact rfl)); (next => (simp (maxSteps := 2000000) (disch := omega) only [go_sem, hc, (encL_get (f := encOp) default)] <;> exact rfl))) | (apply w_condF; (next => (simp (maxSteps := 2000000) (disch := omega) only [go_sem, hc, (encL_get (f := encOp) default)] <;> done))) | (apply w_callP (hop := rfl) (hg := rfl) (hp := (check_x0 st (some a) cap (by omega) hc)); (next => (simp (maxSteps := 2000000) (disch := omega) only [go_sem, hc, (encL_get (f := encOp) default)] <;> exact rfl)); (next => (simp [noId_c, noId_agg, noId_snap, noId_tup,encD,sec_noIdE,encL_noId,encL_noIdE,encCa,encOp,encExt]; done)); (next => (simp (maxSteps := 2000000) (disch := omega) only [go_sem, hc, (encL_get (f := encOp) default)] <;> exact rfl))) | (apply w_callI Try.func46 rfl (by kernel_rfl) Try.ntmps46 (hop := rfl) (hg := rfl); (next => (simp (maxSteps := 2000000) (disch := omega) only [go_sem, hc, (encL_get (f := encOp) default)] <;> exact rfl)); (next => (simp; done))))
  refine w_callA (args := [.ptr 12 0 0, .snap (encL encOp ops)]) (n := 47) rfl rfl ?hc (run_m 12 9 _ _ st [] _ _ ?ha ?hb (Cav.mk (w := true) rfl) ?hd ?he (by omega) ?hg (by omega) ops hO hC hin) ?hrest
  case hc => (first | rfl | (simp (disch := omega) only [go_sem, encD]; done) | (simp (disch := omega) only [go_sem, encD]; rfl))
  case ha => (first | rfl | (simp (disch := omega) only [go_sem, encD]; done) | (simp (disch := omega) only [go_sem, encD]; rfl))
  case hb => (first | rfl | (simp (disch := omega) only [go_sem, encD]; done) | (simp (disch := omega) only [go_sem, encD]; rfl))
  case hd => exact (by first | omega | (simp only [] <;> omega))
  case he => exact (by first | omega | (simp only [] <;> omega))
  case hg => exact tabG_free (by simp only [keysLt, and_true] <;> omega)
  case hrest =>
    rintro r H' ⟨N', xb, m', mb', rfl, rfl, hN', hm', hmm, hfin⟩
    have hS : runS ⟨st, []⟩ ops = runL ⟨st, []⟩ ops 0 := by unfold runS; rw [if_pos hc]
    have herr := runL_err ops ⟨st, []⟩ 0 (e := (runL ⟨st, []⟩ ops 0).2.2) rfl
    rw [hS]
    generalize hq : runL ⟨st, []⟩ ops 0 = q at *
    obtain ⟨d', n, e⟩ := q
    simp only [] at hfin herr ⊢
    by_cases he : e = 0
    · subst he
      obtain ⟨cav', rfl, hcav'⟩ := hfin rfl
      rcases hcav' with ⟨w, rfl, rfl⟩ | ⟨a', rfl, rfl, hca'⟩
      · apply w_go
        (next => (simp (maxSteps := 2000000) (disch := omega) only [go_sem] <;> exact rfl))
        repeat (first | (refine aw_seq ?_) | (apply w_region (by rfl); (next => (simp (maxSteps := 2000000) (disch := omega) only [go_sem, hc, (encL_get (f := encOp) default)] <;> exact rfl))) | (refine w_nil ?_) | (refine w_hold2 ?_) | (refine w_then ?_) | (refine aw_skip ?_) | (refine aw_ret ?_) | (apply w_end; (next => (simp (maxSteps := 2000000) (disch := omega) only [go_sem, hc, (encL_get (f := encOp) default), Try.f20, Try.f46] <;> exact rfl))) | (apply w_condF; (next => (simp (maxSteps := 2000000) (disch := omega) only [go_sem, hc, (encL_get (f := encOp) default)] <;> done))))
        (simp (maxSteps := 2000000) (disch := omega) only [go_sem, noId_c, noId_agg, noId_tup, noId_snap, encL_noIdE, sec_noIdE, List.drop_zero, List.take_length]; (repeat (first | exact .refl _ | exact .nil | exact wks_nil | refine wks_cons ?_ ?_ | refine wk_tup ?_ | refine wk_agg ?_)))
      · apply w_go
        (next => (simp (maxSteps := 2000000) (disch := omega) only [go_sem] <;> exact rfl))
        repeat (first | (refine aw_seq ?_) | (apply w_region (by rfl); (next => (simp (maxSteps := 2000000) (disch := omega) only [go_sem, hc, (encL_get (f := encOp) default)] <;> exact rfl))) | (refine w_nil ?_) | (refine w_hold2 ?_) | (refine w_then ?_) | (refine aw_skip ?_) | (refine aw_ret ?_) | (apply w_end; (next => (simp (maxSteps := 2000000) (disch := omega) only [go_sem, hc, (encL_get (f := encOp) default), Try.f20, Try.f46] <;> exact rfl))) | (apply w_condF; (next => (simp (maxSteps := 2000000) (disch := omega) only [go_sem, hc, (encL_get (f := encOp) default)] <;> done))))
        (simp (maxSteps := 2000000) (disch := omega) only [go_sem, noId_c, noId_agg, noId_tup, noId_snap, encL_noIdE, sec_noIdE, List.drop_zero, List.take_length, hca', encL_nil]; (repeat (first | exact .refl _ | exact .nil | exact wks_nil | refine wks_cons ?_ ?_ | refine wk_tup ?_ | refine wk_agg ?_)))
    · have hd' := herr he
      subst hd'
      apply w_go
      (next => (simp (maxSteps := 2000000) (disch := omega) only [go_sem] <;> exact rfl))
      have hb1 : (e != 0) = true := bne_T he
      repeat (first | (refine aw_seq ?_) | (apply w_region (by rfl); (next => (simp (maxSteps := 2000000) (disch := omega) only [go_sem, hc, (encL_get (f := encOp) default), hb1] <;> exact rfl))) | (refine w_nil ?_) | (refine w_hold2 ?_) | (refine w_then ?_) | (refine w_thenR ?_) | (refine aw_ret ?_) | (apply w_end; (next => (simp (maxSteps := 2000000) (disch := omega) only [go_sem, hc, (encL_get (f := encOp) default), hb1, Try.f20, Try.f46] <;> exact rfl))) | (apply w_condT; (next => (simp (maxSteps := 2000000) (disch := omega) only [go_sem, hc, (encL_get (f := encOp) default), hb1] <;> done))))
      (simp (maxSteps := 2000000) (disch := omega) only [go_sem, noId_c, noId_agg, noId_tup, noId_snap, encL_noIdE, sec_noIdE, List.drop_zero, List.take_length, Dsk.empty, encL_nil]; (repeat (first | exact .refl _ | exact .nil | exact wks_nil | refine wks_cons ?_ ?_ | refine wk_tup ?_ | refine wk_agg ?_)))

theorem run_e (d : Dsk) (ops : List Opr) (hL : d.st.length ≤ 1000000) (hC : d.ca.length ≤ 1000000) (hc : checkD d ≠ 0) : PCall Try.prog 20 [.agg (encD d), .snap (encL encOp ops)] (· = .tup [.agg (encD (runS d ops).1), zV (runS d ops).2.1, zV (runS d ops).2.2]) := by
  refine PCall.wk ?_ (res_noId _ _ _)
  refine pcall Try.func20 rfl (by kernel_rfl) (by simp [Try.ntmps20]) ?_
  rw [Try.ntmps20]
  have hS : runS d ops = (Dsk.empty, 0, checkD d) := by unfold runS; rw [if_neg hc]
  have hb1 : (checkD d != 0) = true := bne_T hc
  rw [hS]
  repeat (first | (refine aw_seq ?_) | (apply w_region (by rfl); (next => (simp (maxSteps := 2000000) (disch := omega) only [go_sem, hb1] <;> exact rfl))) | (refine w_nil ?_) | (refine w_hold2 ?_) | (refine w_then ?_) | (refine w_thenR ?_) | (refine aw_ret ?_) | (apply w_end; (next => (simp (maxSteps := 2000000) (disch := omega) only [go_sem, hb1, Try.f20, Try.f46] <;> exact rfl))) | (apply w_condT; (next => (simp (maxSteps := 2000000) (disch := omega) only [go_sem, hb1] <;> done))) | (apply w_callP (hop := rfl) (hg := rfl) (hp := (check_p d (by omega) (by omega))); (next => (simp (maxSteps := 2000000) (disch := omega) only [go_sem, hb1] <;> exact rfl)); (next => (simp [noId_c, noId_agg, noId_snap, noId_tup,encD,sec_noIdE,encL_noId,encL_noIdE,encCa,encOp,encExt]; done)); (next => (simp (maxSteps := 2000000) (disch := omega) only [go_sem, hb1] <;> exact rfl))))
  (simp (maxSteps := 2000000) (disch := omega) only [go_sem, noId_c, noId_agg, noId_tup, noId_snap, encL_noIdE, sec_noIdE, List.drop_zero, List.take_length, Dsk.empty, encL_nil]; (repeat (first | exact .refl _ | exact .nil | exact wks_nil | refine wks_cons ?_ ?_ | refine wk_tup ?_ | refine wk_agg ?_)))


/-- Run. -/
theorem run_p (d : Dsk) (ops : List Opr) (hL : d.st.length ≤ 1000000) (hC : d.ca.length + ops.length * 4096 ≤ 400000) (hO : ops.length ≤ 1000) : PCall Try.prog 20 [.agg (encD d), .snap (encL encOp ops)] (· = .tup [.agg (encD (runS d ops).1), zV (runS d ops).2.1, zV (runS d ops).2.2]) := by
  by_cases hc : checkD d = 0
  · have hL2 := (inAll_of hc).2
    by_cases hne : d.ca = []
    · obtain ⟨st, ca⟩ := d
      simp only at hne
      subst hne
      refine PCall.nilF (pre := [.snap (encL encSec st)]) (post := []) fun a cap => ?_
      cases a with
      | none => exact run_2 st ops hL2 hC hc hO cap
      | some a => exact run_3 st ops hL2 hC hc hO cap a
    · exact run_1 d ops hL2 hC hc hne hO
  · exact run_e d ops hL (by omega) hc

end Go.Proofs.Ytniccdnhjbnaeaa

namespace Go.Proofs.Ytniccdnhjbnaeaa
open Go.Proofs Go.AL
set_option maxRecDepth 100000
set_option maxHeartbeats 1000000
set_option linter.unusedVariables false
set_option linter.unusedSimpArgs false
attribute [local irreducible] endA
attribute [local go_sem] dec_ltT dec_ltF dec_leT dec_leF beq_T beq_F bne_T bne_F encD


theorem d_noId' (d : Dsk) : NoId (.agg (encD d)) := d_noId d
theorem de_noId (d : Dsk) (e : Int) : NoId (.tup [.agg (encD d), zV e]) := noId_tup.2 fun x hx => by
  simp only [List.mem_cons, List.not_mem_nil, or_false] at hx
  rcases hx with rfl | rfl
  · exact d_noId d
  · exact .c _
theorem se_noId (l : List Sec) (e : Int) : NoId (.tup [.snap (encL encSec l), zV e]) := noId_tup.2 fun x hx => by
  simp only [List.mem_cons, List.not_mem_nil, or_false] at hx
  rcases hx with rfl | rfl
  · exact encL_noId l
  · exact .c _
def syncS (d : Dsk) : Dsk := if checkD d = 0 then ⟨newD d, []⟩ else d
def writeS (d : Dsk) (a : Int) (data : List Sec) : Dsk × Int :=
  if checkD d = 0 then (if insideB d.st.length a data.length = true then (⟨d.st, putS d.ca a data data.length⟩, 0) else (Dsk.empty, 2)) else (Dsk.empty, checkD d)
def readS (d : Dsk) (s c : Int) : List Sec × Int :=
  if checkD d = 0 then (if insideB d.st.length s c = true then (((newD d).drop s.toNat).take c.toNat, 0) else ([], 2)) else ([], checkD d)

theorem copy_p (d : Dsk) (hL : d.st.length ≤ 1000000) (hC : d.ca.length ≤ 1000000) : PCall Try.prog 42 [.agg (encD d)] (· = .agg (encD d)) := by
  refine PCall.wk ?_ (d_noId _)
  refine pcall Try.func42 rfl (by kernel_rfl) (by simp [Try.ntmps42]) ?_
  rw [Try.ntmps42]
  obtain ⟨st, ca⟩ := d
  have hL' : st.length ≤ 1000000 := hL
  have hC' : ca.length ≤ 1000000 := hC
  cases hs : st.isEmpty <;> cases hc : ca.isEmpty
  · repeat (first | (refine aw_seq ?_) | (apply w_region (by rfl); (next => (simp (maxSteps := 2000000) (disch := omega) only [go_sem, hs, hc] <;> exact rfl))) | (refine w_nil ?_) | (refine w_hold2 ?_) | (refine w_then ?_) | (refine aw_ret ?_) | (apply w_end; (next => (simp (maxSteps := 2000000) (disch := omega) only [go_sem, hs, hc, Try.f42] <;> exact rfl))))
    (simp (maxSteps := 2000000) (disch := omega) only [go_sem, noId_c, noId_agg, noId_tup, noId_snap, encL_noIdE, sec_noIdE, List.drop_zero, List.take_length]; (repeat (first | exact .refl _ | exact .nil | exact wks_nil | refine wks_cons ?_ ?_ | refine wk_tup ?_ | refine wk_agg ?_)))
  · repeat (first | (refine aw_seq ?_) | (apply w_region (by rfl); (next => (simp (maxSteps := 2000000) (disch := omega) only [go_sem, hs, hc] <;> exact rfl))) | (refine w_nil ?_) | (refine w_hold2 ?_) | (refine w_then ?_) | (refine aw_ret ?_) | (apply w_end; (next => (simp (maxSteps := 2000000) (disch := omega) only [go_sem, hs, hc, Try.f42] <;> exact rfl))))
    obtain rfl : ca = [] := by simpa using hc
    (simp (maxSteps := 2000000) (disch := omega) only [go_sem, noId_c, noId_agg, noId_tup, noId_snap, encL_noIdE, sec_noIdE, List.drop_zero, List.take_length, encL_nil]; (repeat (first | exact .refl _ | exact .nil | exact wks_nil | refine wks_cons ?_ ?_ | refine wk_tup ?_ | refine wk_agg ?_)))
  · repeat (first | (refine aw_seq ?_) | (apply w_region (by rfl); (next => (simp (maxSteps := 2000000) (disch := omega) only [go_sem, hs, hc] <;> exact rfl))) | (refine w_nil ?_) | (refine w_hold2 ?_) | (refine w_then ?_) | (refine aw_ret ?_) | (apply w_end; (next => (simp (maxSteps := 2000000) (disch := omega) only [go_sem, hs, hc, Try.f42] <;> exact rfl))))
    obtain rfl : st = [] := by simpa using hs
    (simp (maxSteps := 2000000) (disch := omega) only [go_sem, noId_c, noId_agg, noId_tup, noId_snap, encL_noIdE, sec_noIdE, List.drop_zero, List.take_length, encL_nil]; (repeat (first | exact .refl _ | exact .nil | exact wks_nil | refine wks_cons ?_ ?_ | refine wk_tup ?_ | refine wk_agg ?_)))
  · repeat (first | (refine aw_seq ?_) | (apply w_region (by rfl); (next => (simp (maxSteps := 2000000) (disch := omega) only [go_sem, hs, hc] <;> exact rfl))) | (refine w_nil ?_) | (refine w_hold2 ?_) | (refine w_then ?_) | (refine aw_ret ?_) | (apply w_end; (next => (simp (maxSteps := 2000000) (disch := omega) only [go_sem, hs, hc, Try.f42] <;> exact rfl))))
    obtain rfl : ca = [] := by simpa using hc
    obtain rfl : st = [] := by simpa using hs
    (simp (maxSteps := 2000000) (disch := omega) only [go_sem, noId_c, noId_agg, noId_tup, noId_snap, encL_noIdE, sec_noIdE, List.drop_zero, List.take_length, encL_nil]; (repeat (first | exact .refl _ | exact .nil | exact wks_nil | refine wks_cons ?_ ?_ | refine wk_tup ?_ | refine wk_agg ?_)))

theorem sync_p (d : Dsk) (hL : d.st.length ≤ 1000000) (hC : d.ca.length ≤ 1000000) : PCall Try.prog 28 [.agg (encD d)] (· = .agg (encD (syncS d))) := by
  refine PCall.wk ?_ (d_noId _)
  refine pcall Try.func28 rfl (by kernel_rfl) (by simp [Try.ntmps28]) ?_
  rw [Try.ntmps28]
  by_cases hc : checkD d = 0
  · have hin := inAll_of hc
    have hS : syncS d = ⟨newD d, []⟩ := if_pos hc
    rw [hS]
    repeat (first | (refine aw_seq ?_) | (apply w_region (by rfl); (next => (simp (maxSteps := 2000000) (disch := omega) only [go_sem, hc] <;> exact rfl))) | (refine w_nil ?_) | (refine w_hold2 ?_) | (refine w_then ?_) | (refine aw_skip ?_) | (refine aw_ret ?_) | (apply w_end; (next => (simp (maxSteps := 2000000) (disch := omega) only [go_sem, hc, Try.f28] <;> exact rfl))) | (apply w_condF; (next => (simp (maxSteps := 2000000) (disch := omega) only [go_sem, hc] <;> done))) | (apply w_callP (hop := rfl) (hg := rfl) (hp := (check_p d hL hC)); (next => (simp (maxSteps := 2000000) (disch := omega) only [go_sem, hc] <;> exact rfl)); (next => (simp [noId_c, noId_agg, noId_snap, noId_tup,encD,sec_noIdE,encL_noId,encL_noIdE,encCa,encOp,encExt]; done)); (next => (simp (maxSteps := 2000000) (disch := omega) only [go_sem, hc] <;> exact rfl))) | (apply w_callP (hop := rfl) (hg := rfl) (hp := (newest_p d hin.2 hC hin.1)); (next => (simp (maxSteps := 2000000) (disch := omega) only [go_sem, hc] <;> exact rfl)); (next => (simp [noId_c, noId_agg, noId_snap, noId_tup,encD,sec_noIdE,encL_noId,encL_noIdE,encCa,encOp,encExt]; done)); (next => (simp (maxSteps := 2000000) (disch := omega) only [go_sem, hc] <;> exact rfl))))
    (simp (maxSteps := 2000000) (disch := omega) only [go_sem, noId_c, noId_agg, noId_tup, noId_snap, encL_noIdE, sec_noIdE, List.drop_zero, List.take_length, encL_nil]; (repeat (first | exact .refl _ | exact .nil | exact wks_nil | refine wks_cons ?_ ?_ | refine wk_tup ?_ | refine wk_agg ?_)))
  · have hb1 : (checkD d != 0) = true := bne_T hc
    have hS : syncS d = d := if_neg hc
    rw [hS]
    repeat (first | (refine aw_seq ?_) | (apply w_region (by rfl); (next => (simp (maxSteps := 2000000) (disch := omega) only [go_sem, hb1] <;> exact rfl))) | (refine w_nil ?_) | (refine w_hold2 ?_) | (refine w_then ?_) | (refine w_thenR ?_) | (refine aw_ret ?_) | (apply w_end; (next => (simp (maxSteps := 2000000) (disch := omega) only [go_sem, hb1, Try.f28] <;> exact rfl))) | (apply w_condT; (next => (simp (maxSteps := 2000000) (disch := omega) only [go_sem, hb1] <;> done))) | (apply w_callP (hop := rfl) (hg := rfl) (hp := (check_p d hL hC)); (next => (simp (maxSteps := 2000000) (disch := omega) only [go_sem, hb1] <;> exact rfl)); (next => (simp [noId_c, noId_agg, noId_snap, noId_tup,encD,sec_noIdE,encL_noId,encL_noIdE,encCa,encOp,encExt]; done)); (next => (simp (maxSteps := 2000000) (disch := omega) only [go_sem, hb1] <;> exact rfl))))
    (simp (maxSteps := 2000000) (disch := omega) only [go_sem, noId_c, noId_agg, noId_tup, noId_snap, encL_noIdE, sec_noIdE, List.drop_zero, List.take_length]; (repeat (first | exact .refl _ | exact .nil | exact wks_nil | refine wks_cons ?_ ?_ | refine wk_tup ?_ | refine wk_agg ?_)))

theorem rsync_p (d : Dsk) (hL : d.st.length ≤ 1000000) (hC : d.ca.length ≤ 1000000) : PCall Try.prog 35 [.agg (encD d)] (· = .agg (encD (syncS d))) := by
  refine PCall.wk ?_ (d_noId _)
  refine pcall Try.func35 rfl (by kernel_rfl) (by simp [Try.ntmps35]) ?_
  rw [Try.ntmps35]
  by_cases hc : checkD d = 0
  · have hin := inAll_of hc
    have hS : syncS d = ⟨newD d, []⟩ := if_pos hc
    rw [hS]
    repeat (first | (refine aw_seq ?_) | (apply w_region (by rfl); (next => (simp (maxSteps := 2000000) (disch := omega) only [go_sem, hc] <;> exact rfl))) | (refine w_nil ?_) | (refine w_hold2 ?_) | (refine w_then ?_) | (refine aw_skip ?_) | (refine aw_ret ?_) | (apply w_end; (next => (simp (maxSteps := 2000000) (disch := omega) only [go_sem, hc, Try.f35] <;> exact rfl))) | (apply w_condF; (next => (simp (maxSteps := 2000000) (disch := omega) only [go_sem, hc] <;> done))) | (apply w_callP (hop := rfl) (hg := rfl) (hp := (rcheck_p d hL hC)); (next => (simp (maxSteps := 2000000) (disch := omega) only [go_sem, hc] <;> exact rfl)); (next => (simp [noId_c, noId_agg, noId_snap, noId_tup,encD,sec_noIdE,encL_noId,encL_noIdE,encCa,encOp,encExt]; done)); (next => (simp (maxSteps := 2000000) (disch := omega) only [go_sem, hc] <;> exact rfl))) | (apply w_callP (hop := rfl) (hg := rfl) (hp := (rnewest_p d hin.2 hC hin.1)); (next => (simp (maxSteps := 2000000) (disch := omega) only [go_sem, hc] <;> exact rfl)); (next => (simp [noId_c, noId_agg, noId_snap, noId_tup,encD,sec_noIdE,encL_noId,encL_noIdE,encCa,encOp,encExt]; done)); (next => (simp (maxSteps := 2000000) (disch := omega) only [go_sem, hc] <;> exact rfl))))
    (simp (maxSteps := 2000000) (disch := omega) only [go_sem, noId_c, noId_agg, noId_tup, noId_snap, encL_noIdE, sec_noIdE, List.drop_zero, List.take_length, encL_nil]; (repeat (first | exact .refl _ | exact .nil | exact wks_nil | refine wks_cons ?_ ?_ | refine wk_tup ?_ | refine wk_agg ?_)))
  · have hb1 : (checkD d != 0) = true := bne_T hc
    have hS : syncS d = d := if_neg hc
    rw [hS]
    repeat (first | (refine aw_seq ?_) | (apply w_region (by rfl); (next => (simp (maxSteps := 2000000) (disch := omega) only [go_sem, hb1] <;> exact rfl))) | (refine w_nil ?_) | (refine w_hold2 ?_) | (refine w_then ?_) | (refine w_thenR ?_) | (refine aw_ret ?_) | (apply w_end; (next => (simp (maxSteps := 2000000) (disch := omega) only [go_sem, hb1, Try.f35] <;> exact rfl))) | (apply w_condT; (next => (simp (maxSteps := 2000000) (disch := omega) only [go_sem, hb1] <;> done))) | (apply w_callP (hop := rfl) (hg := rfl) (hp := (rcheck_p d hL hC)); (next => (simp (maxSteps := 2000000) (disch := omega) only [go_sem, hb1] <;> exact rfl)); (next => (simp [noId_c, noId_agg, noId_snap, noId_tup,encD,sec_noIdE,encL_noId,encL_noIdE,encCa,encOp,encExt]; done)); (next => (simp (maxSteps := 2000000) (disch := omega) only [go_sem, hb1] <;> exact rfl))))
    (simp (maxSteps := 2000000) (disch := omega) only [go_sem, noId_c, noId_agg, noId_tup, noId_snap, encL_noIdE, sec_noIdE, List.drop_zero, List.take_length]; (repeat (first | exact .refl _ | exact .nil | exact wks_nil | refine wks_cons ?_ ?_ | refine wk_tup ?_ | refine wk_agg ?_)))

theorem read_p (d : Dsk) (s c : Int) (hL : d.st.length ≤ 1000000) (hC : d.ca.length ≤ 1000000) : PCall Try.prog 16 [.agg (encD d), .agg (encExt (s, c))] (· = .tup [.snap (encL encSec (readS d s c).1), zV (readS d s c).2]) := by
  refine PCall.wk ?_ (se_noId _ _)
  refine pcall Try.func16 rfl (by kernel_rfl) (by simp [Try.ntmps16]) ?_
  rw [Try.ntmps16]
  by_cases hc : checkD d = 0
  · have hin := inAll_of hc
    cases hi : insideB d.st.length s c
    ·
      have hS : readS d s c = ([], 2) := by unfold readS; rw [if_pos hc, if_neg (by rw [hi]; simp)]
      rw [hS]
      repeat (first | (refine aw_seq ?_) | (apply w_region (by rfl); (next => (simp (maxSteps := 2000000) (disch := omega) only [go_sem, hc, hi] <;> exact rfl))) | (refine w_nil ?_) | (refine w_hold2 ?_) | (refine w_then ?_) | (refine w_thenR ?_) | (refine aw_skip ?_) | (refine aw_ret ?_) | (apply w_end; (next => (simp (maxSteps := 2000000) (disch := omega) only [go_sem, hc, hi, Try.f16] <;> exact rfl))) | (apply w_condT; (next => (simp (maxSteps := 2000000) (disch := omega) only [go_sem, hc, hi] <;> done))) | (apply w_condF; (next => (simp (maxSteps := 2000000) (disch := omega) only [go_sem, hc, hi] <;> done))) | (apply w_callP (hop := rfl) (hg := rfl) (hp := (check_p d hL hC)); (next => (simp (maxSteps := 2000000) (disch := omega) only [go_sem, hc, hi] <;> exact rfl)); (next => (simp [noId_c, noId_agg, noId_snap, noId_tup,encD,sec_noIdE,encL_noId,encL_noIdE,encCa,encOp,encExt]; done)); (next => (simp (maxSteps := 2000000) (disch := omega) only [go_sem, hc, hi] <;> exact rfl))) | (apply w_callP (hop := rfl) (hg := rfl) (hp := (inside_p d s c (by omega))); (next => (simp (maxSteps := 2000000) (disch := omega) only [go_sem, hc, hi] <;> exact rfl)); (next => (simp [noId_c, noId_agg, noId_snap, noId_tup,encD,sec_noIdE,encL_noId,encL_noIdE,encCa,encOp,encExt]; done)); (next => (simp (maxSteps := 2000000) (disch := omega) only [go_sem, hc, hi] <;> exact rfl))))
      (simp (maxSteps := 2000000) (disch := omega) only [go_sem, noId_c, noId_agg, noId_tup, noId_snap, encL_noIdE, sec_noIdE, List.drop_zero, List.take_length, encL_nil]; (repeat (first | exact .refl _ | exact .nil | exact wks_nil | refine wks_cons ?_ ?_ | refine wk_tup ?_ | refine wk_agg ?_)))
    ·
      have hS : readS d s c = (((newD d).drop s.toNat).take c.toNat, 0) := by unfold readS; rw [if_pos hc, if_pos hi]
      have hb : 0 ≤ s ∧ 0 ≤ c ∧ c ≤ d.st.length ∧ s ≤ d.st.length - c := by
        simp only [insideB, Bool.and_eq_true, decide_eq_true_eq] at hi; omega
      have hl := newD_len d
      have hm : (s + c - s).toNat = c.toNat := by omega
      rw [hS]
      repeat (first | (refine aw_seq ?_) | (apply w_region (by rfl); (next => (simp (maxSteps := 2000000) (disch := omega) only [go_sem, hc, hl, hm, hi] <;> exact rfl))) | (apply w_draw (by kernel_rfl) (by kernel_rfl) (by rfl); (case hr => (repeat (apply d_run; (next => (simp (maxSteps := 2000000) (disch := omega) only [go_sem, hc, hl, hm, hi] <;> exact rfl)); first | exact d_nil | (apply d_callP (hop := rfl) (hg := rfl) (hp := (newest_p d hin.2 hC hin.1)); (next => (simp (maxSteps := 2000000) (disch := omega) only [go_sem, hc, hl, hm, hi] <;> exact rfl)); (next => (simp [noId_c, noId_agg, noId_snap, noId_tup,encD,sec_noIdE,encL_noId,encL_noIdE,encCa,encOp,encExt]; done)))))); (case hdyn => (simp (maxSteps := 2000000) (disch := omega) only [go_sem, nbeq_F, nbeq_T, hc, hl, hm, hi] <;> kernel_rfl))) | (refine w_nil ?_) | (refine w_hold2 ?_) | (refine w_then ?_) | (refine aw_skip ?_) | (refine aw_ret ?_) | (apply w_end; (next => (simp (maxSteps := 2000000) (disch := omega) only [go_sem, hc, hl, hm, hi, Try.f16] <;> exact rfl))) | (apply w_condF; (next => (simp (maxSteps := 2000000) (disch := omega) only [go_sem, hc, hl, hm, hi] <;> done))) | (apply w_callP (hop := rfl) (hg := rfl) (hp := (check_p d hL hC)); (next => (simp (maxSteps := 2000000) (disch := omega) only [go_sem, hc, hl, hm, hi] <;> exact rfl)); (next => (simp [noId_c, noId_agg, noId_snap, noId_tup,encD,sec_noIdE,encL_noId,encL_noIdE,encCa,encOp,encExt]; done)); (next => (simp (maxSteps := 2000000) (disch := omega) only [go_sem, hc, hl, hm, hi] <;> exact rfl))) | (apply w_callP (hop := rfl) (hg := rfl) (hp := (inside_p d s c (by omega))); (next => (simp (maxSteps := 2000000) (disch := omega) only [go_sem, hc, hl, hm, hi] <;> exact rfl)); (next => (simp [noId_c, noId_agg, noId_snap, noId_tup,encD,sec_noIdE,encL_noId,encL_noIdE,encCa,encOp,encExt]; done)); (next => (simp (maxSteps := 2000000) (disch := omega) only [go_sem, hc, hl, hm, hi] <;> exact rfl))))
      (simp (maxSteps := 2000000) (disch := omega) only [go_sem, noId_c, noId_agg, noId_tup, noId_snap, encL_noIdE, sec_noIdE, List.drop_zero, List.take_length]; (repeat (first | exact .refl _ | exact .nil | exact wks_nil | refine wks_cons ?_ ?_ | refine wk_tup ?_ | refine wk_agg ?_)))
  · have hb1 : (checkD d != 0) = true := bne_T hc
    have hS : readS d s c = ([], checkD d) := if_neg hc
    rw [hS]
    repeat (first | (refine aw_seq ?_) | (apply w_region (by rfl); (next => (simp (maxSteps := 2000000) (disch := omega) only [go_sem, hb1] <;> exact rfl))) | (refine w_nil ?_) | (refine w_hold2 ?_) | (refine w_then ?_) | (refine w_thenR ?_) | (refine aw_ret ?_) | (apply w_end; (next => (simp (maxSteps := 2000000) (disch := omega) only [go_sem, hb1, Try.f16] <;> exact rfl))) | (apply w_condT; (next => (simp (maxSteps := 2000000) (disch := omega) only [go_sem, hb1] <;> done))) | (apply w_callP (hop := rfl) (hg := rfl) (hp := (check_p d hL hC)); (next => (simp (maxSteps := 2000000) (disch := omega) only [go_sem, hb1] <;> exact rfl)); (next => (simp [noId_c, noId_agg, noId_snap, noId_tup,encD,sec_noIdE,encL_noId,encL_noIdE,encCa,encOp,encExt]; done)); (next => (simp (maxSteps := 2000000) (disch := omega) only [go_sem, hb1] <;> exact rfl))))
    (simp (maxSteps := 2000000) (disch := omega) only [go_sem, noId_c, noId_agg, noId_tup, noId_snap, encL_noIdE, sec_noIdE, List.drop_zero, List.take_length, encL_nil]; (repeat (first | exact .refl _ | exact .nil | exact wks_nil | refine wks_cons ?_ ?_ | refine wk_tup ?_ | refine wk_agg ?_)))

theorem rread_p (d : Dsk) (s c : Int) (hL : d.st.length ≤ 1000000) (hC : d.ca.length ≤ 1000000) : PCall Try.prog 17 [.agg (encD d), .agg (encExt (s, c))] (· = .tup [.snap (encL encSec (readS d s c).1), zV (readS d s c).2]) := by
  refine PCall.wk ?_ (se_noId _ _)
  refine pcall Try.func17 rfl (by kernel_rfl) (by simp [Try.ntmps17]) ?_
  rw [Try.ntmps17]
  by_cases hc : checkD d = 0
  · have hin := inAll_of hc
    cases hi : insideB d.st.length s c
    ·
      have hS : readS d s c = ([], 2) := by unfold readS; rw [if_pos hc, if_neg (by rw [hi]; simp)]
      rw [hS]
      by_cases g1 : 0 ≤ s
      · by_cases g2 : 0 ≤ c
        · by_cases g3 : c ≤ d.st.length
          · have g4 : ¬ s ≤ d.st.length - c := by
              intro h; simp [insideB, g1, g2, g3, h] at hi
            repeat (first | (refine aw_seq ?_) | (apply w_region (by rfl); (next => (simp (maxSteps := 2000000) (disch := omega) only [go_sem, hc] <;> exact rfl))) | (refine w_nil ?_) | (refine w_hold2 ?_) | (refine w_then ?_) | (refine w_thenR ?_) | (refine aw_skip ?_) | (refine aw_ret ?_) | (apply w_end; (next => (simp (maxSteps := 2000000) (disch := omega) only [go_sem, hc, Try.f17] <;> exact rfl))) | (apply w_condT; (next => (simp (maxSteps := 2000000) (disch := omega) only [go_sem, hc] <;> done))) | (apply w_condF; (next => (simp (maxSteps := 2000000) (disch := omega) only [go_sem, hc] <;> done))) | (apply w_callP (hop := rfl) (hg := rfl) (hp := (rcheck_p d hL hC)); (next => (simp (maxSteps := 2000000) (disch := omega) only [go_sem, hc] <;> exact rfl)); (next => (simp [noId_c, noId_agg, noId_snap, noId_tup,encD,sec_noIdE,encL_noId,encL_noIdE,encCa,encOp,encExt]; done)); (next => (simp (maxSteps := 2000000) (disch := omega) only [go_sem, hc] <;> exact rfl))))
            (simp (maxSteps := 2000000) (disch := omega) only [go_sem, noId_c, noId_agg, noId_tup, noId_snap, encL_noIdE, sec_noIdE, List.drop_zero, List.take_length, encL_nil]; (repeat (first | exact .refl _ | exact .nil | exact wks_nil | refine wks_cons ?_ ?_ | refine wk_tup ?_ | refine wk_agg ?_)))
          · repeat (first | (refine aw_seq ?_) | (apply w_region (by rfl); (next => (simp (maxSteps := 2000000) (disch := omega) only [go_sem, hc] <;> exact rfl))) | (refine w_nil ?_) | (refine w_hold2 ?_) | (refine w_then ?_) | (refine w_thenR ?_) | (refine aw_skip ?_) | (refine aw_ret ?_) | (apply w_end; (next => (simp (maxSteps := 2000000) (disch := omega) only [go_sem, hc, Try.f17] <;> exact rfl))) | (apply w_condT; (next => (simp (maxSteps := 2000000) (disch := omega) only [go_sem, hc] <;> done))) | (apply w_condF; (next => (simp (maxSteps := 2000000) (disch := omega) only [go_sem, hc] <;> done))) | (apply w_callP (hop := rfl) (hg := rfl) (hp := (rcheck_p d hL hC)); (next => (simp (maxSteps := 2000000) (disch := omega) only [go_sem, hc] <;> exact rfl)); (next => (simp [noId_c, noId_agg, noId_snap, noId_tup,encD,sec_noIdE,encL_noId,encL_noIdE,encCa,encOp,encExt]; done)); (next => (simp (maxSteps := 2000000) (disch := omega) only [go_sem, hc] <;> exact rfl))))
            (simp (maxSteps := 2000000) (disch := omega) only [go_sem, noId_c, noId_agg, noId_tup, noId_snap, encL_noIdE, sec_noIdE, List.drop_zero, List.take_length, encL_nil]; (repeat (first | exact .refl _ | exact .nil | exact wks_nil | refine wks_cons ?_ ?_ | refine wk_tup ?_ | refine wk_agg ?_)))
        · repeat (first | (refine aw_seq ?_) | (apply w_region (by rfl); (next => (simp (maxSteps := 2000000) (disch := omega) only [go_sem, hc] <;> exact rfl))) | (refine w_nil ?_) | (refine w_hold2 ?_) | (refine w_then ?_) | (refine w_thenR ?_) | (refine aw_skip ?_) | (refine aw_ret ?_) | (apply w_end; (next => (simp (maxSteps := 2000000) (disch := omega) only [go_sem, hc, Try.f17] <;> exact rfl))) | (apply w_condT; (next => (simp (maxSteps := 2000000) (disch := omega) only [go_sem, hc] <;> done))) | (apply w_condF; (next => (simp (maxSteps := 2000000) (disch := omega) only [go_sem, hc] <;> done))) | (apply w_callP (hop := rfl) (hg := rfl) (hp := (rcheck_p d hL hC)); (next => (simp (maxSteps := 2000000) (disch := omega) only [go_sem, hc] <;> exact rfl)); (next => (simp [noId_c, noId_agg, noId_snap, noId_tup,encD,sec_noIdE,encL_noId,encL_noIdE,encCa,encOp,encExt]; done)); (next => (simp (maxSteps := 2000000) (disch := omega) only [go_sem, hc] <;> exact rfl))))
          (simp (maxSteps := 2000000) (disch := omega) only [go_sem, noId_c, noId_agg, noId_tup, noId_snap, encL_noIdE, sec_noIdE, List.drop_zero, List.take_length, encL_nil]; (repeat (first | exact .refl _ | exact .nil | exact wks_nil | refine wks_cons ?_ ?_ | refine wk_tup ?_ | refine wk_agg ?_)))
      · repeat (first | (refine aw_seq ?_) | (apply w_region (by rfl); (next => (simp (maxSteps := 2000000) (disch := omega) only [go_sem, hc] <;> exact rfl))) | (refine w_nil ?_) | (refine w_hold2 ?_) | (refine w_then ?_) | (refine w_thenR ?_) | (refine aw_skip ?_) | (refine aw_ret ?_) | (apply w_end; (next => (simp (maxSteps := 2000000) (disch := omega) only [go_sem, hc, Try.f17] <;> exact rfl))) | (apply w_condT; (next => (simp (maxSteps := 2000000) (disch := omega) only [go_sem, hc] <;> done))) | (apply w_condF; (next => (simp (maxSteps := 2000000) (disch := omega) only [go_sem, hc] <;> done))) | (apply w_callP (hop := rfl) (hg := rfl) (hp := (rcheck_p d hL hC)); (next => (simp (maxSteps := 2000000) (disch := omega) only [go_sem, hc] <;> exact rfl)); (next => (simp [noId_c, noId_agg, noId_snap, noId_tup,encD,sec_noIdE,encL_noId,encL_noIdE,encCa,encOp,encExt]; done)); (next => (simp (maxSteps := 2000000) (disch := omega) only [go_sem, hc] <;> exact rfl))))
        (simp (maxSteps := 2000000) (disch := omega) only [go_sem, noId_c, noId_agg, noId_tup, noId_snap, encL_noIdE, sec_noIdE, List.drop_zero, List.take_length, encL_nil]; (repeat (first | exact .refl _ | exact .nil | exact wks_nil | refine wks_cons ?_ ?_ | refine wk_tup ?_ | refine wk_agg ?_)))
    ·
      have hS : readS d s c = (((newD d).drop s.toNat).take c.toNat, 0) := by unfold readS; rw [if_pos hc, if_pos hi]
      have hb : 0 ≤ s ∧ 0 ≤ c ∧ c ≤ d.st.length ∧ s ≤ d.st.length - c := by
        simp only [insideB, Bool.and_eq_true, decide_eq_true_eq] at hi; omega
      have hl := newD_len d
      have hm : (s + c - s).toNat = c.toNat := by omega
      rw [hS]
      repeat (first | (refine aw_seq ?_) | (apply w_region (by rfl); (next => (simp (maxSteps := 2000000) (disch := omega) only [go_sem, hc, hl, hm] <;> exact rfl))) | (apply w_draw (by kernel_rfl) (by kernel_rfl) (by rfl); (case hr => (repeat (apply d_run; (next => (simp (maxSteps := 2000000) (disch := omega) only [go_sem, hc, hl, hm] <;> exact rfl)); first | exact d_nil | (apply d_callP (hop := rfl) (hg := rfl) (hp := (rnewest_p d hin.2 hC hin.1)); (next => (simp (maxSteps := 2000000) (disch := omega) only [go_sem, hc, hl, hm] <;> exact rfl)); (next => (simp [noId_c, noId_agg, noId_snap, noId_tup,encD,sec_noIdE,encL_noId,encL_noIdE,encCa,encOp,encExt]; done)))))); (case hdyn => (simp (maxSteps := 2000000) (disch := omega) only [go_sem, nbeq_F, nbeq_T, hc, hl, hm] <;> kernel_rfl))) | (refine w_nil ?_) | (refine w_hold2 ?_) | (refine w_then ?_) | (refine aw_skip ?_) | (refine aw_ret ?_) | (apply w_end; (next => (simp (maxSteps := 2000000) (disch := omega) only [go_sem, hc, hl, hm, Try.f17] <;> exact rfl))) | (apply w_condF; (next => (simp (maxSteps := 2000000) (disch := omega) only [go_sem, hc, hl, hm] <;> done))) | (apply w_callP (hop := rfl) (hg := rfl) (hp := (rcheck_p d hL hC)); (next => (simp (maxSteps := 2000000) (disch := omega) only [go_sem, hc, hl, hm] <;> exact rfl)); (next => (simp [noId_c, noId_agg, noId_snap, noId_tup,encD,sec_noIdE,encL_noId,encL_noIdE,encCa,encOp,encExt]; done)); (next => (simp (maxSteps := 2000000) (disch := omega) only [go_sem, hc, hl, hm] <;> exact rfl))))
      (simp (maxSteps := 2000000) (disch := omega) only [go_sem, noId_c, noId_agg, noId_tup, noId_snap, encL_noIdE, sec_noIdE, List.drop_zero, List.take_length]; (repeat (first | exact .refl _ | exact .nil | exact wks_nil | refine wks_cons ?_ ?_ | refine wk_tup ?_ | refine wk_agg ?_)))
  · have hb1 : (checkD d != 0) = true := bne_T hc
    have hS : readS d s c = ([], checkD d) := if_neg hc
    rw [hS]
    repeat (first | (refine aw_seq ?_) | (apply w_region (by rfl); (next => (simp (maxSteps := 2000000) (disch := omega) only [go_sem, hb1] <;> exact rfl))) | (refine w_nil ?_) | (refine w_hold2 ?_) | (refine w_then ?_) | (refine w_thenR ?_) | (refine aw_ret ?_) | (apply w_end; (next => (simp (maxSteps := 2000000) (disch := omega) only [go_sem, hb1, Try.f17] <;> exact rfl))) | (apply w_condT; (next => (simp (maxSteps := 2000000) (disch := omega) only [go_sem, hb1] <;> done))) | (apply w_callP (hop := rfl) (hg := rfl) (hp := (rcheck_p d hL hC)); (next => (simp (maxSteps := 2000000) (disch := omega) only [go_sem, hb1] <;> exact rfl)); (next => (simp [noId_c, noId_agg, noId_snap, noId_tup,encD,sec_noIdE,encL_noId,encL_noIdE,encCa,encOp,encExt]; done)); (next => (simp (maxSteps := 2000000) (disch := omega) only [go_sem, hb1] <;> exact rfl))))
    (simp (maxSteps := 2000000) (disch := omega) only [go_sem, noId_c, noId_agg, noId_tup, noId_snap, encL_noIdE, sec_noIdE, List.drop_zero, List.take_length, encL_nil]; (repeat (first | exact .refl _ | exact .nil | exact wks_nil | refine wks_cons ?_ ?_ | refine wk_tup ?_ | refine wk_agg ?_)))

end Go.Proofs.Ytniccdnhjbnaeaa
