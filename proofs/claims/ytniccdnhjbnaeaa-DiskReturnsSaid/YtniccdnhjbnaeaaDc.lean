/- Write, Run and Crash of the reference; Interrupt; the law's own functions. No condition but those named. -/
import Derived.Test.YtniccdnhjbnaeaaDb
import Derived.KernelRfl
namespace Go.Proofs.Ytniccdnhjbnaeaa
open Go.Proofs Go.AL
set_option maxRecDepth 100000
set_option maxHeartbeats 1000000
set_option linter.unusedVariables false
set_option linter.unusedSimpArgs false
attribute [local irreducible] endA
attribute [local go_sem] dec_ltT dec_ltF dec_leT dec_leF beq_T beq_F bne_T bne_F encD


def HeadX (stv : AV) (s : Nat) (sb : Option Blk) (T : Nat) (ca : List (Int × Sec)) (a : Int) (data : List Sec) (n : Nat) (env : List (Nat × Bool × AV)) (H : Heap) : Prop :=
  ∃ j cav m mb N, n = data.length - j ∧ j ≤ data.length ∧ Cav cav m mb (putS ca a data j) ∧ m < N ∧ T < N ∧ s < N ∧ 15 ≤ N ∧ m ≠ 1 ∧ m ≠ T ∧ m ≠ s ∧
    env = [(10, true, zV (j : Int)), (9, true, .ptr T 0 0), (6, true, .ptr 1 0 0), (2, true, .snap (encL encSec data)), (1, true, zV a)] ∧
    H = ⟨N, tabG [(m, mb), (1, some (.cells 25 2 [[.c (.slice none 0 0), .c (.slice none 0 0)]] true false)), (T, some (.cells 25 2 [[stv, cav]] true false)), (s, sb)]⟩

theorem rwrite_1 (st : List Sec) (ca : List (Int × Sec)) (a : Int) (data : List Sec) (hL : st.length ≤ 4096) (hC : ca.length ≤ 500000) (hc : checkD ⟨st, ca⟩ = 0) (hi : insideB st.length a data.length = true) (hs : st.isEmpty = false) (hc0 : ca.isEmpty = false) : PCall Try.prog 15 [.agg (encD ⟨st, ca⟩), zV a, .snap (encL encSec data)] (· = .tup [.agg (encD ⟨st, putS ca a data data.length⟩), zV 0]) := by
  refine PCall.wk ?_ (de_noId _ _)
  refine pcall Try.func15 rfl (by kernel_rfl) (by simp [Try.ntmps15]) ?_
  rw [Try.ntmps15]
  have hb : 0 ≤ a ∧ a ≤ 4096 ∧ (data.length : Int) ≤ st.length ∧ a ≤ (st.length : Int) - data.length := by
    simp only [insideB, Bool.and_eq_true, decide_eq_true_eq] at hi; omega
  repeat (first | (refine aw_seq ?_) | (apply w_region (by rfl); (next => (simp (maxSteps := 2000000) (disch := omega) only [go_sem, hs, hc0, hc] <;> exact rfl))) | (refine w_nil ?_) | (refine w_hold2 ?_) | (refine w_then ?_) | (refine aw_skip ?_) | (refine aw_ret ?_) | (refine aw_block ?_) | (apply w_endI; (next => (simp (maxSteps := 2000000) (disch := omega) only [go_sem, hs, hc0, hc, Try.f15, Try.f42] <;> exact rfl)); (next => (simp (maxSteps := 2000000) (disch := omega) only [go_sem, hs, hc0, hc] <;> exact rfl))) | (apply w_condF; (next => (simp (maxSteps := 2000000) (disch := omega) only [go_sem, hs, hc0, hc] <;> done))) | (apply w_callP (hop := rfl) (hg := rfl) (hp := (rcheck_p ⟨st, ca⟩ (by show st.length ≤ 1000000; omega) (by show ca.length ≤ 1000000; omega))); (next => (simp (maxSteps := 2000000) (disch := omega) only [go_sem, hs, hc0, hc] <;> exact rfl)); (next => (simp [noId_c, noId_agg, noId_snap, noId_tup,encD,sec_noIdE,encL_noId,encL_noIdE,encCa,encOp,encExt]; done)); (next => (simp (maxSteps := 2000000) (disch := omega) only [go_sem, hs, hc0, hc] <;> exact rfl))) | (apply w_callI Try.func42 rfl (by kernel_rfl) Try.ntmps42 (hop := rfl) (hg := rfl); (next => (simp (maxSteps := 2000000) (disch := omega) only [go_sem, hs, hc0, hc] <;> exact rfl)); (next => (simp; done))))
  refine w_loop (HeadX (.own 5 0 st.length) 5 (some (.cells 65 8 (encL encSec st) true true)) 10 ca a data) data.length ?_ ?_
  · refine ⟨_, _, ⟨0, _, 7, _, 1000, by omega, by omega, (by rw [putS_0]; exact Cav.mk (w := true) rfl), by omega, by omega, by omega, by omega, by omega, by omega, by omega, rfl, rfl⟩, ?_⟩
    refine holds_cons (by rfl) (holds_cons (by rfl) (holds_cons (by rfl) (holds_cons (by rfl) (holds_cons (by rfl) (holds_nil (by simp only []; omega) (sub_cons (by (first | rfl | (simp (disch := omega) only [go_sem, encD]; done) | (simp (disch := omega) only [go_sem, encD]; rfl))) (sub_cons (by (first | rfl | (simp (disch := omega) only [go_sem, encD]; done) | (simp (disch := omega) only [go_sem, encD]; rfl))) (sub_cons (by (first | rfl | (simp (disch := omega) only [go_sem, encD]; done) | (simp (disch := omega) only [go_sem, encD]; rfl))) (sub_cons (by (first | rfl | (simp (disch := omega) only [go_sem, encD]; done) | (simp (disch := omega) only [go_sem, encD]; rfl))) (sub_nil))))))))))
  · rintro n env H ⟨j, cav, m, mb, N, rfl, hj, hcav, hm, hT, hs0, hN, hm1, hmT, hms, rfl, rfl⟩
    by_cases hjl : j < data.length
    · rcases hcav with ⟨w2, rfl, rfl⟩ | ⟨a2, rfl, rfl, hca2⟩
      · repeat (first | (refine aw_seq ?_) | (apply w_region (by rfl); (next => (simp (maxSteps := 2000000) (disch := omega) only [go_sem, hs, hc0, putS_len, putS_succ, (encL_get zSec)] <;> exact rfl))) | (apply w_draw (by kernel_rfl) (by kernel_rfl) (by rfl); (case hr => (apply d_run; (next => (simp (maxSteps := 2000000) (disch := omega) only [go_sem, hs, hc0, putS_len, putS_succ, (encL_get zSec)] <;> exact rfl)); exact d_nil)); (case hdyn => (simp (maxSteps := 2000000) (disch := omega) only [go_sem, nbeq_F, nbeq_T, hs, hc0, putS_len, putS_succ, (encL_get zSec)] <;> kernel_rfl))) | (refine w_nil ?_) | (refine w_then ?_) | (refine aw_skip ?_) | (refine aw_block ?_) | (apply w_condT; (next => (simp (maxSteps := 2000000) (disch := omega) only [go_sem, hs, hc0, putS_len, putS_succ, (encL_get zSec)] <;> done))))
        refine ⟨data.length - (j + 1), by omega, _, _, ⟨j + 1, .own (N + 11) 0 (ca.length + j + 1), N + 11, _, N + 1000, rfl, by omega, Cav.mk (w := w2) (by rw [putS_len]; omega), by omega, by omega, by omega, by omega, by omega, by omega, by omega, rfl, rfl⟩, ?_⟩
        refine holds_cons (by rfl) (holds_cons (by rfl) (holds_cons (by rfl) (holds_cons (by rfl) (holds_cons (by rfl) (holds_nil (by simp only []; omega) (sub_cons (by (first | rfl | (simp (disch := omega) only [go_sem, encD]; done) | (simp (disch := omega) only [go_sem, encD]; rfl))) (sub_cons (by (first | rfl | (simp (disch := omega) only [go_sem, encD]; done) | (simp (disch := omega) only [go_sem, encD]; rfl))) (sub_cons (by (first | rfl | (simp (disch := omega) only [go_sem, encD]; done) | (simp (disch := omega) only [go_sem, encD]; rfl))) (sub_cons (by (first | rfl | (simp (disch := omega) only [go_sem, encD]; done) | (simp (disch := omega) only [go_sem, encD]; rfl))) (sub_nil))))))))))
      · have e : putS ca a data (j + 1) = [(a + (j : Int), data.getD j zSec)] := by rw [← putS_succ, hca2]; rfl
        repeat (first | (refine aw_seq ?_) | (apply w_region (by rfl); (next => (simp (maxSteps := 2000000) (disch := omega) only [go_sem, hs, hc0, (encL_get zSec)] <;> exact rfl))) | (apply w_draw (by kernel_rfl) (by kernel_rfl) (by rfl); (case hr => (apply d_run; (next => (simp (maxSteps := 2000000) (disch := omega) only [go_sem, hs, hc0, (encL_get zSec)] <;> exact rfl)); exact d_nil)); (case hdyn => (simp (maxSteps := 2000000) (disch := omega) only [go_sem, nbeq_F, nbeq_T, hs, hc0, (encL_get zSec)] <;> kernel_rfl))) | (refine w_nil ?_) | (refine w_then ?_) | (refine aw_skip ?_) | (refine aw_block ?_) | (apply w_condT; (next => (simp (maxSteps := 2000000) (disch := omega) only [go_sem, hs, hc0, (encL_get zSec)] <;> done))))
        refine ⟨data.length - (j + 1), by omega, _, _, ⟨j + 1, .own (N + 11) 0 1, N + 11, _, N + 1000, rfl, by omega, (by rw [e]; exact Cav.mk (w := true) rfl), by omega, by omega, by omega, by omega, by omega, by omega, by omega, rfl, rfl⟩, ?_⟩
        refine holds_cons (by rfl) (holds_cons (by rfl) (holds_cons (by rfl) (holds_cons (by rfl) (holds_cons (by rfl) (holds_nil (by simp only []; omega) (sub_cons (by (first | rfl | (simp (disch := omega) only [go_sem, encD]; done) | (simp (disch := omega) only [go_sem, encD]; rfl))) (sub_cons (by (first | rfl | (simp (disch := omega) only [go_sem, encD]; done) | (simp (disch := omega) only [go_sem, encD]; rfl))) (sub_cons (by (first | rfl | (simp (disch := omega) only [go_sem, encD]; done) | (simp (disch := omega) only [go_sem, encD]; rfl))) (sub_cons (by (first | rfl | (simp (disch := omega) only [go_sem, encD]; done) | (simp (disch := omega) only [go_sem, encD]; rfl))) (sub_nil))))))))))
    · obtain rfl : j = data.length := by omega
      rcases hcav with ⟨w2, rfl, rfl⟩ | ⟨a2, rfl, rfl, hca2⟩
      · repeat (first | (refine aw_seq ?_) | (apply w_region (by rfl); (next => (simp (maxSteps := 2000000) (disch := omega) only [go_sem, hs, hc0] <;> exact rfl))) | (refine w_nil ?_) | (refine w_hold2 ?_) | (refine w_then ?_) | (refine aw_ret ?_) | (refine aw_exit ?_) | (apply w_end; (next => (simp (maxSteps := 2000000) (disch := omega) only [go_sem, hs, hc0, Try.f15, Try.f42] <;> exact rfl))) | (apply w_condF; (next => (simp (maxSteps := 2000000) (disch := omega) only [go_sem, hs, hc0] <;> done))))
        (simp (maxSteps := 2000000) (disch := omega) only [go_sem, noId_c, noId_agg, noId_tup, noId_snap, encL_noIdE, sec_noIdE, List.drop_zero, List.take_length]; (repeat (first | exact .refl _ | exact .nil | exact wks_nil | refine wks_cons ?_ ?_ | refine wk_tup ?_ | refine wk_agg ?_)))
      · repeat (first | (refine aw_seq ?_) | (apply w_region (by rfl); (next => (simp (maxSteps := 2000000) (disch := omega) only [go_sem, hs, hc0] <;> exact rfl))) | (refine w_nil ?_) | (refine w_hold2 ?_) | (refine w_then ?_) | (refine aw_ret ?_) | (refine aw_exit ?_) | (apply w_end; (next => (simp (maxSteps := 2000000) (disch := omega) only [go_sem, hs, hc0, Try.f15, Try.f42] <;> exact rfl))) | (apply w_condF; (next => (simp (maxSteps := 2000000) (disch := omega) only [go_sem, hs, hc0] <;> done))))
        (simp (maxSteps := 2000000) (disch := omega) only [go_sem, noId_c, noId_agg, noId_tup, noId_snap, encL_noIdE, sec_noIdE, List.drop_zero, List.take_length, hca2, encL_nil]; (repeat (first | exact .refl _ | exact .nil | exact wks_nil | refine wks_cons ?_ ?_ | refine wk_tup ?_ | refine wk_agg ?_)))

theorem rwrite_2 (st : List Sec) (ca : List (Int × Sec)) (a : Int) (data : List Sec) (hL : st.length ≤ 4096) (hC : ca.length ≤ 500000) (hc : checkD ⟨st, ca⟩ = 0) (hi : insideB st.length a data.length = true) (hs : st.isEmpty = false) (hc0 : ca.isEmpty = true) : PCall Try.prog 15 [.agg (encD ⟨st, ca⟩), zV a, .snap (encL encSec data)] (· = .tup [.agg (encD ⟨st, putS ca a data data.length⟩), zV 0]) := by
  refine PCall.wk ?_ (de_noId _ _)
  refine pcall Try.func15 rfl (by kernel_rfl) (by simp [Try.ntmps15]) ?_
  rw [Try.ntmps15]
  have hb : 0 ≤ a ∧ a ≤ 4096 ∧ (data.length : Int) ≤ st.length ∧ a ≤ (st.length : Int) - data.length := by
    simp only [insideB, Bool.and_eq_true, decide_eq_true_eq] at hi; omega
  repeat (first | (refine aw_seq ?_) | (apply w_region (by rfl); (next => (simp (maxSteps := 2000000) (disch := omega) only [go_sem, hs, hc0, hc] <;> exact rfl))) | (refine w_nil ?_) | (refine w_hold2 ?_) | (refine w_then ?_) | (refine aw_skip ?_) | (refine aw_ret ?_) | (refine aw_block ?_) | (apply w_endI; (next => (simp (maxSteps := 2000000) (disch := omega) only [go_sem, hs, hc0, hc, Try.f15, Try.f42] <;> exact rfl)); (next => (simp (maxSteps := 2000000) (disch := omega) only [go_sem, hs, hc0, hc] <;> exact rfl))) | (apply w_condF; (next => (simp (maxSteps := 2000000) (disch := omega) only [go_sem, hs, hc0, hc] <;> done))) | (apply w_callP (hop := rfl) (hg := rfl) (hp := (rcheck_p ⟨st, ca⟩ (by show st.length ≤ 1000000; omega) (by show ca.length ≤ 1000000; omega))); (next => (simp (maxSteps := 2000000) (disch := omega) only [go_sem, hs, hc0, hc] <;> exact rfl)); (next => (simp [noId_c, noId_agg, noId_snap, noId_tup,encD,sec_noIdE,encL_noId,encL_noIdE,encCa,encOp,encExt]; done)); (next => (simp (maxSteps := 2000000) (disch := omega) only [go_sem, hs, hc0, hc] <;> exact rfl))) | (apply w_callI Try.func42 rfl (by kernel_rfl) Try.ntmps42 (hop := rfl) (hg := rfl); (next => (simp (maxSteps := 2000000) (disch := omega) only [go_sem, hs, hc0, hc] <;> exact rfl)); (next => (simp; done))))
  refine w_loop (HeadX (.own 5 0 st.length) 5 (some (.cells 65 8 (encL encSec st) true true)) 9 ca a data) data.length ?_ ?_
  · refine ⟨_, _, ⟨0, _, 0, none, 1000, by omega, by omega, (by rw [putS_0]; rw [show ca = [] by simpa using hc0]; exact Cav.nil0 (a := none)), by omega, by omega, by omega, by omega, by omega, by omega, by omega, rfl, rfl⟩, ?_⟩
    refine holds_cons (by rfl) (holds_cons (by rfl) (holds_cons (by rfl) (holds_cons (by rfl) (holds_cons (by rfl) (holds_nil (by simp only []; omega) (sub_none (sub_cons (by (first | rfl | (simp (disch := omega) only [go_sem, encD]; done) | (simp (disch := omega) only [go_sem, encD]; rfl))) (sub_cons (by (first | rfl | (simp (disch := omega) only [go_sem, encD]; done) | (simp (disch := omega) only [go_sem, encD]; rfl))) (sub_cons (by (first | rfl | (simp (disch := omega) only [go_sem, encD]; done) | (simp (disch := omega) only [go_sem, encD]; rfl))) (sub_nil))))))))))
  · rintro n env H ⟨j, cav, m, mb, N, rfl, hj, hcav, hm, hT, hs0, hN, hm1, hmT, hms, rfl, rfl⟩
    by_cases hjl : j < data.length
    · rcases hcav with ⟨w2, rfl, rfl⟩ | ⟨a2, rfl, rfl, hca2⟩
      · repeat (first | (refine aw_seq ?_) | (apply w_region (by rfl); (next => (simp (maxSteps := 2000000) (disch := omega) only [go_sem, hs, hc0, putS_len, putS_succ, (encL_get zSec)] <;> exact rfl))) | (apply w_draw (by kernel_rfl) (by kernel_rfl) (by rfl); (case hr => (apply d_run; (next => (simp (maxSteps := 2000000) (disch := omega) only [go_sem, hs, hc0, putS_len, putS_succ, (encL_get zSec)] <;> exact rfl)); exact d_nil)); (case hdyn => (simp (maxSteps := 2000000) (disch := omega) only [go_sem, nbeq_F, nbeq_T, hs, hc0, putS_len, putS_succ, (encL_get zSec)] <;> kernel_rfl))) | (refine w_nil ?_) | (refine w_then ?_) | (refine aw_skip ?_) | (refine aw_block ?_) | (apply w_condT; (next => (simp (maxSteps := 2000000) (disch := omega) only [go_sem, hs, hc0, putS_len, putS_succ, (encL_get zSec)] <;> done))))
        refine ⟨data.length - (j + 1), by omega, _, _, ⟨j + 1, .own (N + 11) 0 (ca.length + j + 1), N + 11, _, N + 1000, rfl, by omega, Cav.mk (w := w2) (by rw [putS_len]; omega), by omega, by omega, by omega, by omega, by omega, by omega, by omega, rfl, rfl⟩, ?_⟩
        refine holds_cons (by rfl) (holds_cons (by rfl) (holds_cons (by rfl) (holds_cons (by rfl) (holds_cons (by rfl) (holds_nil (by simp only []; omega) (sub_cons (by (first | rfl | (simp (disch := omega) only [go_sem, encD]; done) | (simp (disch := omega) only [go_sem, encD]; rfl))) (sub_cons (by (first | rfl | (simp (disch := omega) only [go_sem, encD]; done) | (simp (disch := omega) only [go_sem, encD]; rfl))) (sub_cons (by (first | rfl | (simp (disch := omega) only [go_sem, encD]; done) | (simp (disch := omega) only [go_sem, encD]; rfl))) (sub_cons (by (first | rfl | (simp (disch := omega) only [go_sem, encD]; done) | (simp (disch := omega) only [go_sem, encD]; rfl))) (sub_nil))))))))))
      · have e : putS ca a data (j + 1) = [(a + (j : Int), data.getD j zSec)] := by rw [← putS_succ, hca2]; rfl
        repeat (first | (refine aw_seq ?_) | (apply w_region (by rfl); (next => (simp (maxSteps := 2000000) (disch := omega) only [go_sem, hs, hc0, (encL_get zSec)] <;> exact rfl))) | (apply w_draw (by kernel_rfl) (by kernel_rfl) (by rfl); (case hr => (apply d_run; (next => (simp (maxSteps := 2000000) (disch := omega) only [go_sem, hs, hc0, (encL_get zSec)] <;> exact rfl)); exact d_nil)); (case hdyn => (simp (maxSteps := 2000000) (disch := omega) only [go_sem, nbeq_F, nbeq_T, hs, hc0, (encL_get zSec)] <;> kernel_rfl))) | (refine w_nil ?_) | (refine w_then ?_) | (refine aw_skip ?_) | (refine aw_block ?_) | (apply w_condT; (next => (simp (maxSteps := 2000000) (disch := omega) only [go_sem, hs, hc0, (encL_get zSec)] <;> done))))
        refine ⟨data.length - (j + 1), by omega, _, _, ⟨j + 1, .own (N + 11) 0 1, N + 11, _, N + 1000, rfl, by omega, (by rw [e]; exact Cav.mk (w := true) rfl), by omega, by omega, by omega, by omega, by omega, by omega, by omega, rfl, rfl⟩, ?_⟩
        refine holds_cons (by rfl) (holds_cons (by rfl) (holds_cons (by rfl) (holds_cons (by rfl) (holds_cons (by rfl) (holds_nil (by simp only []; omega) (sub_cons (by (first | rfl | (simp (disch := omega) only [go_sem, encD]; done) | (simp (disch := omega) only [go_sem, encD]; rfl))) (sub_cons (by (first | rfl | (simp (disch := omega) only [go_sem, encD]; done) | (simp (disch := omega) only [go_sem, encD]; rfl))) (sub_cons (by (first | rfl | (simp (disch := omega) only [go_sem, encD]; done) | (simp (disch := omega) only [go_sem, encD]; rfl))) (sub_cons (by (first | rfl | (simp (disch := omega) only [go_sem, encD]; done) | (simp (disch := omega) only [go_sem, encD]; rfl))) (sub_nil))))))))))
    · obtain rfl : j = data.length := by omega
      rcases hcav with ⟨w2, rfl, rfl⟩ | ⟨a2, rfl, rfl, hca2⟩
      · repeat (first | (refine aw_seq ?_) | (apply w_region (by rfl); (next => (simp (maxSteps := 2000000) (disch := omega) only [go_sem, hs, hc0] <;> exact rfl))) | (refine w_nil ?_) | (refine w_hold2 ?_) | (refine w_then ?_) | (refine aw_ret ?_) | (refine aw_exit ?_) | (apply w_end; (next => (simp (maxSteps := 2000000) (disch := omega) only [go_sem, hs, hc0, Try.f15, Try.f42] <;> exact rfl))) | (apply w_condF; (next => (simp (maxSteps := 2000000) (disch := omega) only [go_sem, hs, hc0] <;> done))))
        (simp (maxSteps := 2000000) (disch := omega) only [go_sem, noId_c, noId_agg, noId_tup, noId_snap, encL_noIdE, sec_noIdE, List.drop_zero, List.take_length]; (repeat (first | exact .refl _ | exact .nil | exact wks_nil | refine wks_cons ?_ ?_ | refine wk_tup ?_ | refine wk_agg ?_)))
      · repeat (first | (refine aw_seq ?_) | (apply w_region (by rfl); (next => (simp (maxSteps := 2000000) (disch := omega) only [go_sem, hs, hc0] <;> exact rfl))) | (refine w_nil ?_) | (refine w_hold2 ?_) | (refine w_then ?_) | (refine aw_ret ?_) | (refine aw_exit ?_) | (apply w_end; (next => (simp (maxSteps := 2000000) (disch := omega) only [go_sem, hs, hc0, Try.f15, Try.f42] <;> exact rfl))) | (apply w_condF; (next => (simp (maxSteps := 2000000) (disch := omega) only [go_sem, hs, hc0] <;> done))))
        (simp (maxSteps := 2000000) (disch := omega) only [go_sem, noId_c, noId_agg, noId_tup, noId_snap, encL_noIdE, sec_noIdE, List.drop_zero, List.take_length, hca2, encL_nil]; (repeat (first | exact .refl _ | exact .nil | exact wks_nil | refine wks_cons ?_ ?_ | refine wk_tup ?_ | refine wk_agg ?_)))

theorem rwrite_3 (st : List Sec) (ca : List (Int × Sec)) (a : Int) (data : List Sec) (hL : st.length ≤ 4096) (hC : ca.length ≤ 500000) (hc : checkD ⟨st, ca⟩ = 0) (hi : insideB st.length a data.length = true) (hs : st.isEmpty = true) (hc0 : ca.isEmpty = true) : PCall Try.prog 15 [.agg (encD ⟨st, ca⟩), zV a, .snap (encL encSec data)] (· = .tup [.agg (encD ⟨st, putS ca a data data.length⟩), zV 0]) := by
  refine PCall.wk ?_ (de_noId _ _)
  refine pcall Try.func15 rfl (by kernel_rfl) (by simp [Try.ntmps15]) ?_
  rw [Try.ntmps15]
  have hb : 0 ≤ a ∧ a ≤ 4096 ∧ (data.length : Int) ≤ st.length ∧ a ≤ (st.length : Int) - data.length := by
    simp only [insideB, Bool.and_eq_true, decide_eq_true_eq] at hi; omega
  repeat (first | (refine aw_seq ?_) | (apply w_region (by rfl); (next => (simp (maxSteps := 2000000) (disch := omega) only [go_sem, hs, hc0, hc] <;> exact rfl))) | (refine w_nil ?_) | (refine w_hold2 ?_) | (refine w_then ?_) | (refine aw_skip ?_) | (refine aw_ret ?_) | (refine aw_block ?_) | (apply w_endI; (next => (simp (maxSteps := 2000000) (disch := omega) only [go_sem, hs, hc0, hc, Try.f15, Try.f42] <;> exact rfl)); (next => (simp (maxSteps := 2000000) (disch := omega) only [go_sem, hs, hc0, hc] <;> exact rfl))) | (apply w_condF; (next => (simp (maxSteps := 2000000) (disch := omega) only [go_sem, hs, hc0, hc] <;> done))) | (apply w_callP (hop := rfl) (hg := rfl) (hp := (rcheck_p ⟨st, ca⟩ (by show st.length ≤ 1000000; omega) (by show ca.length ≤ 1000000; omega))); (next => (simp (maxSteps := 2000000) (disch := omega) only [go_sem, hs, hc0, hc] <;> exact rfl)); (next => (simp [noId_c, noId_agg, noId_snap, noId_tup,encD,sec_noIdE,encL_noId,encL_noIdE,encCa,encOp,encExt]; done)); (next => (simp (maxSteps := 2000000) (disch := omega) only [go_sem, hs, hc0, hc] <;> exact rfl))) | (apply w_callI Try.func42 rfl (by kernel_rfl) Try.ntmps42 (hop := rfl) (hg := rfl); (next => (simp (maxSteps := 2000000) (disch := omega) only [go_sem, hs, hc0, hc] <;> exact rfl)); (next => (simp; done))))
  refine w_loop (HeadX (.c (.slice none 0 0)) 0 none 8 ca a data) data.length ?_ ?_
  · refine ⟨_, _, ⟨0, _, 2, none, 1000, by omega, by omega, (by rw [putS_0]; rw [show ca = [] by simpa using hc0]; exact Cav.nil0 (a := none)), by omega, by omega, by omega, by omega, by omega, by omega, by omega, rfl, rfl⟩, ?_⟩
    refine holds_cons (by rfl) (holds_cons (by rfl) (holds_cons (by rfl) (holds_cons (by rfl) (holds_cons (by rfl) (holds_nil (by simp only []; omega) (sub_none (sub_cons (by (first | rfl | (simp (disch := omega) only [go_sem, encD]; done) | (simp (disch := omega) only [go_sem, encD]; rfl))) (sub_cons (by (first | rfl | (simp (disch := omega) only [go_sem, encD]; done) | (simp (disch := omega) only [go_sem, encD]; rfl))) (sub_none (sub_nil))))))))))
  · rintro n env H ⟨j, cav, m, mb, N, rfl, hj, hcav, hm, hT, hs0, hN, hm1, hmT, hms, rfl, rfl⟩
    by_cases hjl : j < data.length
    · rcases hcav with ⟨w2, rfl, rfl⟩ | ⟨a2, rfl, rfl, hca2⟩
      · repeat (first | (refine aw_seq ?_) | (apply w_region (by rfl); (next => (simp (maxSteps := 2000000) (disch := omega) only [go_sem, hs, hc0, putS_len, putS_succ, (encL_get zSec)] <;> exact rfl))) | (apply w_draw (by kernel_rfl) (by kernel_rfl) (by rfl); (case hr => (apply d_run; (next => (simp (maxSteps := 2000000) (disch := omega) only [go_sem, hs, hc0, putS_len, putS_succ, (encL_get zSec)] <;> exact rfl)); exact d_nil)); (case hdyn => (simp (maxSteps := 2000000) (disch := omega) only [go_sem, nbeq_F, nbeq_T, hs, hc0, putS_len, putS_succ, (encL_get zSec)] <;> kernel_rfl))) | (refine w_nil ?_) | (refine w_then ?_) | (refine aw_skip ?_) | (refine aw_block ?_) | (apply w_condT; (next => (simp (maxSteps := 2000000) (disch := omega) only [go_sem, hs, hc0, putS_len, putS_succ, (encL_get zSec)] <;> done))))
        refine ⟨data.length - (j + 1), by omega, _, _, ⟨j + 1, .own (N + 11) 0 (ca.length + j + 1), N + 11, _, N + 1000, rfl, by omega, Cav.mk (w := w2) (by rw [putS_len]; omega), by omega, by omega, by omega, by omega, by omega, by omega, by omega, rfl, rfl⟩, ?_⟩
        refine holds_cons (by rfl) (holds_cons (by rfl) (holds_cons (by rfl) (holds_cons (by rfl) (holds_cons (by rfl) (holds_nil (by simp only []; omega) (sub_cons (by (first | rfl | (simp (disch := omega) only [go_sem, encD]; done) | (simp (disch := omega) only [go_sem, encD]; rfl))) (sub_cons (by (first | rfl | (simp (disch := omega) only [go_sem, encD]; done) | (simp (disch := omega) only [go_sem, encD]; rfl))) (sub_cons (by (first | rfl | (simp (disch := omega) only [go_sem, encD]; done) | (simp (disch := omega) only [go_sem, encD]; rfl))) (sub_none (sub_nil))))))))))
      · have e : putS ca a data (j + 1) = [(a + (j : Int), data.getD j zSec)] := by rw [← putS_succ, hca2]; rfl
        repeat (first | (refine aw_seq ?_) | (apply w_region (by rfl); (next => (simp (maxSteps := 2000000) (disch := omega) only [go_sem, hs, hc0, (encL_get zSec)] <;> exact rfl))) | (apply w_draw (by kernel_rfl) (by kernel_rfl) (by rfl); (case hr => (apply d_run; (next => (simp (maxSteps := 2000000) (disch := omega) only [go_sem, hs, hc0, (encL_get zSec)] <;> exact rfl)); exact d_nil)); (case hdyn => (simp (maxSteps := 2000000) (disch := omega) only [go_sem, nbeq_F, nbeq_T, hs, hc0, (encL_get zSec)] <;> kernel_rfl))) | (refine w_nil ?_) | (refine w_then ?_) | (refine aw_skip ?_) | (refine aw_block ?_) | (apply w_condT; (next => (simp (maxSteps := 2000000) (disch := omega) only [go_sem, hs, hc0, (encL_get zSec)] <;> done))))
        refine ⟨data.length - (j + 1), by omega, _, _, ⟨j + 1, .own (N + 11) 0 1, N + 11, _, N + 1000, rfl, by omega, (by rw [e]; exact Cav.mk (w := true) rfl), by omega, by omega, by omega, by omega, by omega, by omega, by omega, rfl, rfl⟩, ?_⟩
        refine holds_cons (by rfl) (holds_cons (by rfl) (holds_cons (by rfl) (holds_cons (by rfl) (holds_cons (by rfl) (holds_nil (by simp only []; omega) (sub_cons (by (first | rfl | (simp (disch := omega) only [go_sem, encD]; done) | (simp (disch := omega) only [go_sem, encD]; rfl))) (sub_cons (by (first | rfl | (simp (disch := omega) only [go_sem, encD]; done) | (simp (disch := omega) only [go_sem, encD]; rfl))) (sub_cons (by (first | rfl | (simp (disch := omega) only [go_sem, encD]; done) | (simp (disch := omega) only [go_sem, encD]; rfl))) (sub_none (sub_nil))))))))))
    · obtain rfl : j = data.length := by omega
      rcases hcav with ⟨w2, rfl, rfl⟩ | ⟨a2, rfl, rfl, hca2⟩
      · repeat (first | (refine aw_seq ?_) | (apply w_region (by rfl); (next => (simp (maxSteps := 2000000) (disch := omega) only [go_sem, hs, hc0] <;> exact rfl))) | (refine w_nil ?_) | (refine w_hold2 ?_) | (refine w_then ?_) | (refine aw_ret ?_) | (refine aw_exit ?_) | (apply w_end; (next => (simp (maxSteps := 2000000) (disch := omega) only [go_sem, hs, hc0, Try.f15, Try.f42] <;> exact rfl))) | (apply w_condF; (next => (simp (maxSteps := 2000000) (disch := omega) only [go_sem, hs, hc0] <;> done))))
        (simp (maxSteps := 2000000) (disch := omega) only [go_sem, noId_c, noId_agg, noId_tup, noId_snap, encL_noIdE, sec_noIdE, List.drop_zero, List.take_length, show st = [] by simpa using hs, encL_nil]; (repeat (first | exact .refl _ | exact .nil | exact wks_nil | refine wks_cons ?_ ?_ | refine wk_tup ?_ | refine wk_agg ?_)))
      · repeat (first | (refine aw_seq ?_) | (apply w_region (by rfl); (next => (simp (maxSteps := 2000000) (disch := omega) only [go_sem, hs, hc0] <;> exact rfl))) | (refine w_nil ?_) | (refine w_hold2 ?_) | (refine w_then ?_) | (refine aw_ret ?_) | (refine aw_exit ?_) | (apply w_end; (next => (simp (maxSteps := 2000000) (disch := omega) only [go_sem, hs, hc0, Try.f15, Try.f42] <;> exact rfl))) | (apply w_condF; (next => (simp (maxSteps := 2000000) (disch := omega) only [go_sem, hs, hc0] <;> done))))
        (simp (maxSteps := 2000000) (disch := omega) only [go_sem, noId_c, noId_agg, noId_tup, noId_snap, encL_noIdE, sec_noIdE, List.drop_zero, List.take_length, show st = [] by simpa using hs, encL_nil, hca2, encL_nil]; (repeat (first | exact .refl _ | exact .nil | exact wks_nil | refine wks_cons ?_ ?_ | refine wk_tup ?_ | refine wk_agg ?_)))

end Go.Proofs.Ytniccdnhjbnaeaa

namespace Go.Proofs.Ytniccdnhjbnaeaa
open Go.Proofs Go.AL
set_option maxRecDepth 100000
set_option maxHeartbeats 1000000
set_option linter.unusedVariables false
set_option linter.unusedSimpArgs false
attribute [local irreducible] endA
attribute [local go_sem] dec_ltT dec_ltF dec_leT dec_leF beq_T beq_F bne_T bne_F encD

theorem rwrite_e (d : Dsk) (a : Int) (data : List Sec) (hL : d.st.length ≤ 1000000) (hC : d.ca.length ≤ 1000000) (hc : checkD d ≠ 0) : PCall Try.prog 15 [.agg (encD d), zV a, .snap (encL encSec data)] (· = .tup [.agg (encD Dsk.empty), zV (checkD d)]) := by
  refine PCall.wk ?_ (de_noId _ _)
  refine pcall Try.func15 rfl (by kernel_rfl) (by simp [Try.ntmps15]) ?_
  rw [Try.ntmps15]
  have hb1 : (checkD d != 0) = true := bne_T hc
  repeat (first | (refine aw_seq ?_) | (apply w_region (by rfl); (next => (simp (maxSteps := 2000000) (disch := omega) only [go_sem, hb1] <;> exact rfl))) | (refine w_nil ?_) | (refine w_hold2 ?_) | (refine w_then ?_) | (refine w_thenR ?_) | (refine aw_ret ?_) | (apply w_end; (next => (simp (maxSteps := 2000000) (disch := omega) only [go_sem, hb1, Try.f15] <;> exact rfl))) | (apply w_condT; (next => (simp (maxSteps := 2000000) (disch := omega) only [go_sem, hb1] <;> done))) | (apply w_callP (hop := rfl) (hg := rfl) (hp := (rcheck_p d (by omega) (by omega))); (next => (simp (maxSteps := 2000000) (disch := omega) only [go_sem, hb1] <;> exact rfl)); (next => (simp [noId_c, noId_agg, noId_snap, noId_tup,encD,sec_noIdE,encL_noId,encL_noIdE,encCa,encOp,encExt]; done)); (next => (simp (maxSteps := 2000000) (disch := omega) only [go_sem, hb1] <;> exact rfl))))
  (simp (maxSteps := 2000000) (disch := omega) only [go_sem, noId_c, noId_agg, noId_tup, noId_snap, encL_noIdE, sec_noIdE, List.drop_zero, List.take_length, Dsk.empty, encL_nil]; (repeat (first | exact .refl _ | exact .nil | exact wks_nil | refine wks_cons ?_ ?_ | refine wk_tup ?_ | refine wk_agg ?_)))

theorem rwrite_i (d : Dsk) (a : Int) (data : List Sec) (hL : d.st.length ≤ 1000000) (hC : d.ca.length ≤ 1000000) (hc : checkD d = 0) (hi : insideB d.st.length a data.length = false) : PCall Try.prog 15 [.agg (encD d), zV a, .snap (encL encSec data)] (· = .tup [.agg (encD Dsk.empty), zV 2]) := by
  refine PCall.wk ?_ (de_noId _ _)
  refine pcall Try.func15 rfl (by kernel_rfl) (by simp [Try.ntmps15]) ?_
  rw [Try.ntmps15]
  by_cases g1 : 0 ≤ a
  · by_cases g3 : (data.length : Int) ≤ d.st.length
    · have g4 : ¬ a ≤ (d.st.length : Int) - data.length := by
        intro h; simp [insideB, g1, g3, h] at hi
      repeat (first | (refine aw_seq ?_) | (apply w_region (by rfl); (next => (simp (maxSteps := 2000000) (disch := omega) only [go_sem, hc] <;> exact rfl))) | (refine w_nil ?_) | (refine w_hold2 ?_) | (refine w_then ?_) | (refine w_thenR ?_) | (refine aw_skip ?_) | (refine aw_ret ?_) | (apply w_end; (next => (simp (maxSteps := 2000000) (disch := omega) only [go_sem, hc, Try.f15] <;> exact rfl))) | (apply w_condT; (next => (simp (maxSteps := 2000000) (disch := omega) only [go_sem, hc] <;> done))) | (apply w_condF; (next => (simp (maxSteps := 2000000) (disch := omega) only [go_sem, hc] <;> done))) | (apply w_callP (hop := rfl) (hg := rfl) (hp := (rcheck_p d (by omega) (by omega))); (next => (simp (maxSteps := 2000000) (disch := omega) only [go_sem, hc] <;> exact rfl)); (next => (simp [noId_c, noId_agg, noId_snap, noId_tup,encD,sec_noIdE,encL_noId,encL_noIdE,encCa,encOp,encExt]; done)); (next => (simp (maxSteps := 2000000) (disch := omega) only [go_sem, hc] <;> exact rfl))))
      (simp (maxSteps := 2000000) (disch := omega) only [go_sem, noId_c, noId_agg, noId_tup, noId_snap, encL_noIdE, sec_noIdE, List.drop_zero, List.take_length, Dsk.empty, encL_nil]; (repeat (first | exact .refl _ | exact .nil | exact wks_nil | refine wks_cons ?_ ?_ | refine wk_tup ?_ | refine wk_agg ?_)))
    · repeat (first | (refine aw_seq ?_) | (apply w_region (by rfl); (next => (simp (maxSteps := 2000000) (disch := omega) only [go_sem, hc] <;> exact rfl))) | (refine w_nil ?_) | (refine w_hold2 ?_) | (refine w_then ?_) | (refine w_thenR ?_) | (refine aw_skip ?_) | (refine aw_ret ?_) | (apply w_end; (next => (simp (maxSteps := 2000000) (disch := omega) only [go_sem, hc, Try.f15] <;> exact rfl))) | (apply w_condT; (next => (simp (maxSteps := 2000000) (disch := omega) only [go_sem, hc] <;> done))) | (apply w_condF; (next => (simp (maxSteps := 2000000) (disch := omega) only [go_sem, hc] <;> done))) | (apply w_callP (hop := rfl) (hg := rfl) (hp := (rcheck_p d (by omega) (by omega))); (next => (simp (maxSteps := 2000000) (disch := omega) only [go_sem, hc] <;> exact rfl)); (next => (simp [noId_c, noId_agg, noId_snap, noId_tup,encD,sec_noIdE,encL_noId,encL_noIdE,encCa,encOp,encExt]; done)); (next => (simp (maxSteps := 2000000) (disch := omega) only [go_sem, hc] <;> exact rfl))))
      (simp (maxSteps := 2000000) (disch := omega) only [go_sem, noId_c, noId_agg, noId_tup, noId_snap, encL_noIdE, sec_noIdE, List.drop_zero, List.take_length, Dsk.empty, encL_nil]; (repeat (first | exact .refl _ | exact .nil | exact wks_nil | refine wks_cons ?_ ?_ | refine wk_tup ?_ | refine wk_agg ?_)))
  · repeat (first | (refine aw_seq ?_) | (apply w_region (by rfl); (next => (simp (maxSteps := 2000000) (disch := omega) only [go_sem, hc] <;> exact rfl))) | (refine w_nil ?_) | (refine w_hold2 ?_) | (refine w_then ?_) | (refine w_thenR ?_) | (refine aw_skip ?_) | (refine aw_ret ?_) | (apply w_end; (next => (simp (maxSteps := 2000000) (disch := omega) only [go_sem, hc, Try.f15] <;> exact rfl))) | (apply w_condT; (next => (simp (maxSteps := 2000000) (disch := omega) only [go_sem, hc] <;> done))) | (apply w_condF; (next => (simp (maxSteps := 2000000) (disch := omega) only [go_sem, hc] <;> done))) | (apply w_callP (hop := rfl) (hg := rfl) (hp := (rcheck_p d (by omega) (by omega))); (next => (simp (maxSteps := 2000000) (disch := omega) only [go_sem, hc] <;> exact rfl)); (next => (simp [noId_c, noId_agg, noId_snap, noId_tup,encD,sec_noIdE,encL_noId,encL_noIdE,encCa,encOp,encExt]; done)); (next => (simp (maxSteps := 2000000) (disch := omega) only [go_sem, hc] <;> exact rfl))))
    (simp (maxSteps := 2000000) (disch := omega) only [go_sem, noId_c, noId_agg, noId_tup, noId_snap, encL_noIdE, sec_noIdE, List.drop_zero, List.take_length, Dsk.empty, encL_nil]; (repeat (first | exact .refl _ | exact .nil | exact wks_nil | refine wks_cons ?_ ?_ | refine wk_tup ?_ | refine wk_agg ?_)))


theorem rwrite_p (d : Dsk) (a : Int) (data : List Sec) (hL : d.st.length ≤ 1000000) (hC : d.ca.length ≤ 500000) : PCall Try.prog 15 [.agg (encD d), zV a, .snap (encL encSec data)] (· = .tup [.agg (encD (writeS d a data).1), zV (writeS d a data).2]) := by
  unfold writeS
  by_cases hc : checkD d = 0
  · rw [if_pos hc]
    have hin := inAll_of hc
    cases hi : insideB d.st.length a data.length
    · rw [if_neg (by simp)]
      exact rwrite_i d a data hL (by omega) hc hi
    · rw [if_pos rfl]
      obtain ⟨st, ca⟩ := d
      cases hs : st.isEmpty <;> cases hc0 : ca.isEmpty
      · exact rwrite_1 st ca a data hin.2 hC hc hi hs hc0
      · exact rwrite_2 st ca a data hin.2 hC hc hi hs hc0
      · have := inAll_nil hin.1 (show st = [] by simpa using hs)
        simp at this
        simp [this] at hc0
      · exact rwrite_3 st ca a data hin.2 hC hc hi hs hc0
  · rw [if_neg hc]
    exact rwrite_e d a data hL (by omega) hc
theorem checkD_of {d : Dsk} (h : inAll d) (hL : d.st.length ≤ 4096) : checkD d = 0 := if_pos ⟨hL, List.all_eq_true.2 fun c hc => by have := h c hc; simp [inD, this]⟩
def HeadRR (d : Dsk) (ops : List Opr) (n : Nat) (env : List (Nat × Bool × AV)) (H : Heap) : Prop :=
  ∃ k d' N, n = ops.length - k ∧ k ≤ ops.length ∧ RunInv d ops k d' ∧ 2 ≤ N ∧
    env = [(8, true, zV (k : Int)), (4, true, .ptr 1 0 0), (2, true, .ptr 0 0 0), (1, true, .snap (encL encOp ops))] ∧
    H = ⟨N, tabG [(0, some (.cells 25 2 [encD d'] true false)), (1, some (.cells 25 2 [[.c (.slice none 0 0), .c (.slice none 0 0)]] true false))]⟩

theorem rrun_0 (d : Dsk) (ops : List Opr) (hL : d.st.length ≤ 4096) (hC : d.ca.length + ops.length * 4096 ≤ 400000) (hc : checkD d = 0) (hO : ops.length ≤ 1000) : PCall Try.prog 21 [.agg (encD d), .snap (encL encOp ops)] (· = .tup [.agg (encD (runS d ops).1), zV (runS d ops).2.1, zV (runS d ops).2.2]) := by
  refine PCall.wk ?_ (res_noId _ _ _)
  refine pcall Try.func21 rfl (by kernel_rfl) (by simp [Try.ntmps21]) ?_
  rw [Try.ntmps21]
  have hin := (inAll_of hc).1
  have hS : runS d ops = runL d ops 0 := if_pos hc
  rw [hS]
  repeat (first | (refine aw_seq ?_) | (apply w_region (by rfl); (next => (simp (maxSteps := 2000000) (disch := omega) only [go_sem, (encL_get (f := encOp) default), hc] <;> exact rfl))) | (refine w_nil ?_) | (refine w_then ?_) | (refine aw_skip ?_) | (refine aw_block ?_) | (apply w_condF; (next => (simp (maxSteps := 2000000) (disch := omega) only [go_sem, (encL_get (f := encOp) default), hc] <;> done))) | (apply w_callP (hop := rfl) (hg := rfl) (hp := (rcheck_p d (by omega) (by omega))); (next => (simp (maxSteps := 2000000) (disch := omega) only [go_sem, (encL_get (f := encOp) default), hc] <;> exact rfl)); (next => (simp [noId_c, noId_agg, noId_snap, noId_tup,encD,sec_noIdE,encL_noId,encL_noIdE,encCa,encOp,encExt]; done)); (next => (simp (maxSteps := 2000000) (disch := omega) only [go_sem, (encL_get (f := encOp) default), hc] <;> exact rfl))) | (apply w_callP (hop := rfl) (hg := rfl) (hp := (copy_p d (by omega) (by omega))); (next => (simp (maxSteps := 2000000) (disch := omega) only [go_sem, (encL_get (f := encOp) default), hc] <;> exact rfl)); (next => (simp [noId_c, noId_agg, noId_snap, noId_tup,encD,sec_noIdE,encL_noId,encL_noIdE,encCa,encOp,encExt]; done)); (next => (simp (maxSteps := 2000000) (disch := omega) only [go_sem, (encL_get (f := encOp) default), hc] <;> exact rfl))))
  refine w_loop (HeadRR d ops) ops.length ?_ ?_
  · refine ⟨_, _, ⟨0, d, 1000, by omega, by omega, .start hin, by omega, rfl, rfl⟩, ?_⟩
    refine holds_cons (by rfl) (holds_cons (by rfl) (holds_cons (by rfl) (holds_cons (by rfl) (holds_nil (by simp only []; omega) (sub_cons (by (first | rfl | (simp (disch := omega) only [go_sem, encD]; done) | (simp (disch := omega) only [go_sem, encD]; rfl))) (sub_cons (by (first | rfl | (simp (disch := omega) only [go_sem, encD]; done) | (simp (disch := omega) only [go_sem, encD]; rfl))) (sub_nil)))))))
  · rintro n env H ⟨k, d', N, rfl, hk, hinv, hN, rfl, rfl⟩
    have hcl := hinv.ca
    have hst := hinv.st
    by_cases hlt : k < ops.length
    · have hck := checkD_of hinv.ok (by omega)
      have hw := rwrite_p d' (ops.getD k default).at_ (ops.getD k default).data (by omega) (by omega)
      have hy := rsync_p d' (by omega) (by omega)
      have hsy : syncS d' = ⟨newD d', []⟩ := if_pos hck
      rw [hsy] at hy
      by_cases h0 : (ops.getD k default).kind = 0
      · cases hi : insideB d'.st.length (ops.getD k default).at_ (ops.getD k default).data.length
        · have hs : stepS d' (ops.getD k default) = .inl 2 := by unfold stepS; rw [if_pos h0, if_neg (by rw [hi]; simp)]
          have hr := hinv.bad hlt hs
          have hws : writeS d' (ops.getD k default).at_ (ops.getD k default).data = (Dsk.empty, 2) := by unfold writeS; rw [if_pos hck, if_neg (by rw [hi]; simp)]
          rw [hws] at hw
          repeat (first | (refine aw_seq ?_) | (apply w_region (by rfl); (next => (simp (maxSteps := 2000000) (disch := omega) only [go_sem, (encL_get (f := encOp) default), h0] <;> exact rfl))) | (apply w_draw (by kernel_rfl) (by kernel_rfl) (by rfl); (case hr => (repeat (apply d_run; (next => (simp (maxSteps := 2000000) (disch := omega) only [go_sem, (encL_get (f := encOp) default), h0] <;> exact rfl)); first | exact d_nil | (apply d_callP (hop := rfl) (hg := rfl) (hp := hw); (next => (simp (maxSteps := 2000000) (disch := omega) only [go_sem, (encL_get (f := encOp) default), h0] <;> exact rfl)); (next => (simp [noId_c, noId_agg, noId_snap, noId_tup,encD,sec_noIdE,encL_noId,encL_noIdE,encCa,encOp,encExt]; done)))))); (case hdyn => (simp (maxSteps := 2000000) (disch := omega) only [go_sem, nbeq_F, nbeq_T, (encL_get (f := encOp) default), h0] <;> kernel_rfl))) | (refine w_nil ?_) | (refine w_hold2 ?_) | (refine w_then ?_) | (refine w_thenR ?_) | (refine w_blockR ?_) | (refine aw_skip ?_) | (refine aw_ret ?_) | (refine aw_block ?_) | (apply w_end; (next => (simp (maxSteps := 2000000) (disch := omega) only [go_sem, (encL_get (f := encOp) default), h0, Try.f21] <;> exact rfl))) | (apply w_condT; (next => (simp (maxSteps := 2000000) (disch := omega) only [go_sem, (encL_get (f := encOp) default), h0] <;> done))))
          (simp (maxSteps := 2000000) (disch := omega) only [go_sem, noId_c, noId_agg, noId_tup, noId_snap, encL_noIdE, sec_noIdE, List.drop_zero, List.take_length, hr, Dsk.empty, encL_nil]; (repeat (first | exact .refl _ | exact .nil | exact wks_nil | refine wks_cons ?_ ?_ | refine wk_tup ?_ | refine wk_agg ?_)))
        · have hs : stepS d' (ops.getD k default) = .inr ⟨d'.st, putS d'.ca (ops.getD k default).at_ (ops.getD k default).data (ops.getD k default).data.length⟩ := by unfold stepS; rw [if_pos h0, if_pos hi]
          have hws : writeS d' (ops.getD k default).at_ (ops.getD k default).data = (⟨d'.st, putS d'.ca (ops.getD k default).at_ (ops.getD k default).data (ops.getD k default).data.length⟩, 0) := by unfold writeS; rw [if_pos hck, if_pos hi]
          rw [hws] at hw
          repeat (first | (refine aw_seq ?_) | (apply w_region (by rfl); (next => (simp (maxSteps := 2000000) (disch := omega) only [go_sem, (encL_get (f := encOp) default), h0] <;> exact rfl))) | (apply w_draw (by kernel_rfl) (by kernel_rfl) (by rfl); (case hr => (repeat (apply d_run; (next => (simp (maxSteps := 2000000) (disch := omega) only [go_sem, (encL_get (f := encOp) default), h0] <;> exact rfl)); first | exact d_nil | (apply d_callP (hop := rfl) (hg := rfl) (hp := hw); (next => (simp (maxSteps := 2000000) (disch := omega) only [go_sem, (encL_get (f := encOp) default), h0] <;> exact rfl)); (next => (simp [noId_c, noId_agg, noId_snap, noId_tup,encD,sec_noIdE,encL_noId,encL_noIdE,encCa,encOp,encExt]; done)))))); (case hdyn => (simp (maxSteps := 2000000) (disch := omega) only [go_sem, nbeq_F, nbeq_T, (encL_get (f := encOp) default), h0] <;> kernel_rfl))) | (refine w_nil ?_) | (refine w_then ?_) | (refine aw_skip ?_) | (refine aw_block ?_) | (apply w_condT; (next => (simp (maxSteps := 2000000) (disch := omega) only [go_sem, (encL_get (f := encOp) default), h0] <;> done))) | (apply w_condF; (next => (simp (maxSteps := 2000000) (disch := omega) only [go_sem, (encL_get (f := encOp) default), h0] <;> done))))
          refine ⟨ops.length - (k + 1), by omega, _, _, ⟨k + 1, ⟨d'.st, putS d'.ca (ops.getD k default).at_ (ops.getD k default).data (ops.getD k default).data.length⟩, N + 1000, rfl, by omega, hinv.next hlt hs (inAll_put hinv.ok hi) rfl (by have := inside_len hi; rw [putS_len]; omega), by omega, rfl, rfl⟩, ?_⟩
          refine holds_cons (by rfl) (holds_cons (by rfl) (holds_cons (by rfl) (holds_cons (by rfl) (holds_nil (by simp only []; omega) (sub_cons (by (first | rfl | (simp (disch := omega) only [go_sem, encD]; done) | (simp (disch := omega) only [go_sem, encD]; rfl))) (sub_cons (by (first | rfl | (simp (disch := omega) only [go_sem, encD]; done) | (simp (disch := omega) only [go_sem, encD]; rfl))) (sub_nil)))))))
      · by_cases h1 : (ops.getD k default).kind = 1
        · have hs : stepS d' (ops.getD k default) = .inr ⟨newD d', []⟩ := by unfold stepS; rw [if_neg h0, if_pos h1]
          repeat (first | (refine aw_seq ?_) | (apply w_region (by rfl); (next => (simp (maxSteps := 2000000) (disch := omega) only [go_sem, (encL_get (f := encOp) default), h1] <;> exact rfl))) | (refine w_nil ?_) | (refine w_then ?_) | (refine aw_skip ?_) | (refine aw_block ?_) | (apply w_condT; (next => (simp (maxSteps := 2000000) (disch := omega) only [go_sem, (encL_get (f := encOp) default), h1] <;> done))) | (apply w_condF; (next => (simp (maxSteps := 2000000) (disch := omega) only [go_sem, (encL_get (f := encOp) default), h1] <;> done))) | (apply w_callP (hop := rfl) (hg := rfl) (hp := hy); (next => (simp (maxSteps := 2000000) (disch := omega) only [go_sem, (encL_get (f := encOp) default), h1] <;> exact rfl)); (next => (simp [noId_c, noId_agg, noId_snap, noId_tup,encD,sec_noIdE,encL_noId,encL_noIdE,encCa,encOp,encExt]; done)); (next => (simp (maxSteps := 2000000) (disch := omega) only [go_sem, (encL_get (f := encOp) default), h1] <;> exact rfl))))
          refine ⟨ops.length - (k + 1), by omega, _, _, ⟨k + 1, ⟨newD d', []⟩, N + 1000, rfl, by omega, hinv.next hlt hs (inAll_new d') (newD_len d') (by simp), by omega, rfl, rfl⟩, ?_⟩
          refine holds_cons (by rfl) (holds_cons (by rfl) (holds_cons (by rfl) (holds_cons (by rfl) (holds_nil (by simp only []; omega) (sub_cons (by (first | rfl | (simp (disch := omega) only [go_sem, encD]; done) | (simp (disch := omega) only [go_sem, encD]; rfl))) (sub_cons (by (first | rfl | (simp (disch := omega) only [go_sem, encD]; done) | (simp (disch := omega) only [go_sem, encD]; rfl))) (sub_nil)))))))
        · have hs : stepS d' (ops.getD k default) = .inl 1 := by unfold stepS; rw [if_neg h0, if_neg h1]
          have hr := hinv.bad hlt hs
          repeat (first | (refine aw_seq ?_) | (apply w_region (by rfl); (next => (simp (maxSteps := 2000000) (disch := omega) only [go_sem, (encL_get (f := encOp) default)] <;> exact rfl))) | (refine w_nil ?_) | (refine w_hold2 ?_) | (refine w_then ?_) | (refine w_thenR ?_) | (refine w_blockR ?_) | (refine aw_skip ?_) | (refine aw_ret ?_) | (refine aw_block ?_) | (apply w_end; (next => (simp (maxSteps := 2000000) (disch := omega) only [go_sem, (encL_get (f := encOp) default), Try.f21] <;> exact rfl))) | (apply w_condT; (next => (simp (maxSteps := 2000000) (disch := omega) only [go_sem, (encL_get (f := encOp) default)] <;> done))) | (apply w_condF; (next => (simp (maxSteps := 2000000) (disch := omega) only [go_sem, (encL_get (f := encOp) default)] <;> done))))
          (simp (maxSteps := 2000000) (disch := omega) only [go_sem, noId_c, noId_agg, noId_tup, noId_snap, encL_noIdE, sec_noIdE, List.drop_zero, List.take_length, hr, Dsk.empty, encL_nil]; (repeat (first | exact .refl _ | exact .nil | exact wks_nil | refine wks_cons ?_ ?_ | refine wk_tup ?_ | refine wk_agg ?_)))
    · obtain rfl : k = ops.length := by omega
      have hr := hinv.fin rfl
      repeat (first | (refine aw_seq ?_) | (apply w_region (by rfl); (next => (simp (maxSteps := 2000000) (disch := omega) only [go_sem, (encL_get (f := encOp) default)] <;> exact rfl))) | (refine w_nil ?_) | (refine w_hold2 ?_) | (refine w_then ?_) | (refine aw_ret ?_) | (refine aw_exit ?_) | (apply w_end; (next => (simp (maxSteps := 2000000) (disch := omega) only [go_sem, (encL_get (f := encOp) default), Try.f21] <;> exact rfl))) | (apply w_condF; (next => (simp (maxSteps := 2000000) (disch := omega) only [go_sem, (encL_get (f := encOp) default)] <;> done))))
      (simp (maxSteps := 2000000) (disch := omega) only [go_sem, noId_c, noId_agg, noId_tup, noId_snap, encL_noIdE, sec_noIdE, List.drop_zero, List.take_length, hr]; (repeat (first | exact .refl _ | exact .nil | exact wks_nil | refine wks_cons ?_ ?_ | refine wk_tup ?_ | refine wk_agg ?_)))

theorem rrun_e (d : Dsk) (ops : List Opr) (hL : d.st.length ≤ 1000000) (hC : d.ca.length ≤ 1000000) (hc : checkD d ≠ 0) : PCall Try.prog 21 [.agg (encD d), .snap (encL encOp ops)] (· = .tup [.agg (encD (runS d ops).1), zV (runS d ops).2.1, zV (runS d ops).2.2]) := by
  refine PCall.wk ?_ (res_noId _ _ _)
  refine pcall Try.func21 rfl (by kernel_rfl) (by simp [Try.ntmps21]) ?_
  rw [Try.ntmps21]
  have hS : runS d ops = (Dsk.empty, 0, checkD d) := by unfold runS; rw [if_neg hc]
  have hb1 : (checkD d != 0) = true := bne_T hc
  rw [hS]
  repeat (first | (refine aw_seq ?_) | (apply w_region (by rfl); (next => (simp (maxSteps := 2000000) (disch := omega) only [go_sem, hb1] <;> exact rfl))) | (refine w_nil ?_) | (refine w_hold2 ?_) | (refine w_then ?_) | (refine w_thenR ?_) | (refine aw_ret ?_) | (apply w_end; (next => (simp (maxSteps := 2000000) (disch := omega) only [go_sem, hb1, Try.f21] <;> exact rfl))) | (apply w_condT; (next => (simp (maxSteps := 2000000) (disch := omega) only [go_sem, hb1] <;> done))) | (apply w_callP (hop := rfl) (hg := rfl) (hp := (rcheck_p d (by omega) (by omega))); (next => (simp (maxSteps := 2000000) (disch := omega) only [go_sem, hb1] <;> exact rfl)); (next => (simp [noId_c, noId_agg, noId_snap, noId_tup,encD,sec_noIdE,encL_noId,encL_noIdE,encCa,encOp,encExt]; done)); (next => (simp (maxSteps := 2000000) (disch := omega) only [go_sem, hb1] <;> exact rfl))))
  (simp (maxSteps := 2000000) (disch := omega) only [go_sem, noId_c, noId_agg, noId_tup, noId_snap, encL_noIdE, sec_noIdE, List.drop_zero, List.take_length, Dsk.empty, encL_nil]; (repeat (first | exact .refl _ | exact .nil | exact wks_nil | refine wks_cons ?_ ?_ | refine wk_tup ?_ | refine wk_agg ?_)))


theorem rrun_p (d : Dsk) (ops : List Opr) (hL : d.st.length ≤ 1000000) (hC : d.ca.length + ops.length * 4096 ≤ 400000) (hO : ops.length ≤ 1000) : PCall Try.prog 21 [.agg (encD d), .snap (encL encOp ops)] (· = .tup [.agg (encD (runS d ops).1), zV (runS d ops).2.1, zV (runS d ops).2.2]) := by
  by_cases hc : checkD d = 0
  · exact rrun_0 d ops (inAll_of hc).2 hC hc hO
  · exact rrun_e d ops hL (by omega) hc


theorem run1 (d : Dsk) (a : Int) (data : List Sec) : writeS d a data = ((runS d [⟨0, a, data⟩]).1, (runS d [⟨0, a, data⟩]).2.2) := by
  unfold writeS runS
  by_cases hc : checkD d = 0
  · rw [if_pos hc, if_pos hc]
    have hs : stepS d ⟨0, a, data⟩ = if insideB d.st.length a data.length = true then .inr ⟨d.st, putS d.ca a data data.length⟩ else .inl 2 := rfl
    simp only [runL, hs]
    split <;> rfl
  · rw [if_neg hc, if_neg hc]

theorem write_p (d : Dsk) (a : Int) (data : List Sec) (hL : d.st.length ≤ 1000000) (hC : d.ca.length ≤ 300000) : PCall Try.prog 14 [.agg (encD d), zV a, .snap (encL encSec data)] (· = .tup [.agg (encD (writeS d a data).1), zV (writeS d a data).2]) := by
  refine PCall.wk ?_ (de_noId _ _)
  refine pcall Try.func14 rfl (by kernel_rfl) (by simp [Try.ntmps14]) ?_
  rw [Try.ntmps14]
  have hr : PCall Try.prog 20 [.agg (encD d), .snap [[zV 0, zV a, .snap (encL encSec data)]]] (· = .tup [.agg (encD (runS d [⟨0, a, data⟩]).1), zV (runS d [⟨0, a, data⟩]).2.1, zV (runS d [⟨0, a, data⟩]).2.2]) := run_p d [⟨0, a, data⟩] hL (by simp; omega) (by simp)
  rw [run1]
  generalize runS d [⟨0, a, data⟩] = q at hr
  obtain ⟨d', n, e⟩ := q
  repeat (first | (refine aw_seq ?_) | (apply w_region (by rfl); (next => (simp (maxSteps := 2000000) (disch := omega) only [go_sem] <;> exact rfl))) | (refine w_nil ?_) | (refine w_hold2 ?_) | (refine w_then ?_) | (refine aw_ret ?_) | (apply w_end; (next => (simp (maxSteps := 2000000) (disch := omega) only [go_sem, Try.f14] <;> exact rfl))) | (apply w_callX (hop := rfl) (hg := rfl) (hp := hr); (next => (simp (maxSteps := 2000000) (disch := omega) only [go_sem] <;> exact rfl)); (next => (simp (maxSteps := 2000000) (disch := omega) only [go_sem] <;> exact rfl)); (next => (simp [noId_c, noId_agg, noId_snap, noId_tup,encD,sec_noIdE,encL_noId,encL_noIdE,encCa,encOp,encExt]; done)); (next => (simp (maxSteps := 2000000) (disch := omega) only [go_sem] <;> exact rfl)); (next => (simp (maxSteps := 2000000) (disch := omega) only [go_sem] <;> exact rfl))))
  (simp (maxSteps := 2000000) (disch := omega) only [go_sem, noId_c, noId_agg, noId_tup, noId_snap, encL_noIdE, sec_noIdE, List.drop_zero, List.take_length]; (repeat (first | exact .refl _ | exact .nil | exact wks_nil | refine wks_cons ?_ ?_ | refine wk_tup ?_ | refine wk_agg ?_)))

end Go.Proofs.Ytniccdnhjbnaeaa

namespace Go.Proofs.Ytniccdnhjbnaeaa
open Go.Proofs Go.AL
set_option maxRecDepth 100000
set_option maxHeartbeats 1000000
set_option linter.unusedVariables false
set_option linter.unusedSimpArgs false
attribute [local irreducible] endA
attribute [local go_sem] dec_ltT dec_ltF dec_leT dec_leF beq_T beq_F bne_T bne_F encD


/-- A decision: the next choice, modulo n. -/
def decN (c : List Int) (n : Int) : Int × List Int := if c.length = 0 then (0, []) else (c.getD 0 0 % n, c.drop 1)
theorem dec2 {x n : Int} (hn : 0 < n) : (x.tmod n + n) % n = x % n := by
  have h := dec1 (x := x) hn
  have h2 := tm_lo (x := x) hn
  rwa [Int.tmod_eq_emod_of_nonneg (by omega)] at h
theorem dec3 {x n : Int} (hn : 0 < n) (h : x.tmod n < 0) : x.tmod n + n = x % n := by
  have h1 := dec2 (x := x) hn
  have h2 := tm_lo (x := x) hn
  rw [← h1, Int.emod_eq_of_lt (by omega) (by omega)]
theorem dec4 {x n : Int} (hn : 0 < n) (h : ¬ x.tmod n < 0) : x.tmod n = x % n := by
  have h1 := dec2 (x := x) hn
  have h2 := tm_lo (x := x) hn
  rw [← h1, Int.add_emod_right, Int.emod_eq_of_lt (by omega) (by omega)]
theorem di_noId (n : Int) (l : List Int) : NoId (.tup [zV n, .snap (encL intRow l)]) := noId_tup.2 fun x hx => by
  simp only [List.mem_cons, List.not_mem_nil, or_false] at hx
  rcases hx with rfl | rfl
  · exact .c _
  · exact encL_noId l

theorem dec_p (c : List Int) (n : Int) (hn : 0 < n) (hn2 : n ≤ 1000000) (hL : c.length ≤ 1000000) : PCall Try.prog 51 [.snap (encL intRow c), zV n] (· = .tup [zV (decN c n).1, .snap (encL intRow (decN c n).2)]) := by
  refine PCall.wk ?_ (di_noId _ _)
  refine pcall Try.func51 rfl (by kernel_rfl) (by simp [Try.ntmps51]) ?_
  rw [Try.ntmps51]
  by_cases h0 : c.length = 0
  · have hS : decN c n = (0, []) := if_pos h0
    rw [hS]
    repeat (first | (refine aw_seq ?_) | (apply w_region (by rfl); (next => (simp (maxSteps := 2000000) (disch := omega) only [go_sem] <;> exact rfl))) | (refine w_nil ?_) | (refine w_hold2 ?_) | (refine w_then ?_) | (refine w_thenR ?_) | (refine aw_ret ?_) | (apply w_end; (next => (simp (maxSteps := 2000000) (disch := omega) only [go_sem, Try.f51] <;> exact rfl))) | (apply w_condT; (next => (simp (maxSteps := 2000000) (disch := omega) only [go_sem] <;> done))))
    (simp (maxSteps := 2000000) (disch := omega) only [go_sem, noId_c, noId_agg, noId_tup, noId_snap, encL_noIdE, sec_noIdE, List.drop_zero, List.take_length, encL_nil]; (repeat (first | exact .refl _ | exact .nil | exact wks_nil | refine wks_cons ?_ ?_ | refine wk_tup ?_ | refine wk_agg ?_)))
  · have hS : decN c n = (c.getD 0 0 % n, c.drop 1) := if_neg h0
    have hb := tm_lo (x := c.getD 0 0) hn
    have h2 := dec2 (x := c.getD 0 0) hn
    have h3 := dec3 (x := c.getD 0 0) hn
    have h4 := dec4 (x := c.getD 0 0) hn
    have htk : (c.drop 1).take (c.length - 1) = c.drop 1 := List.take_of_length_le (by simp)
    rw [hS]
    repeat (first | (refine aw_seq ?_) | (apply w_region (by rfl); (next => (simp (maxSteps := 2000000) (disch := omega) only [go_sem, (encL_get (f := intRow) (0 : Int)), h2, htk] <;> exact rfl))) | (apply w_draw (by kernel_rfl) (by kernel_rfl) (by rfl); (case hr => (apply d_run; (next => (simp (maxSteps := 2000000) (disch := omega) only [go_sem, (encL_get (f := intRow) (0 : Int)), h2, htk] <;> exact rfl)); exact d_nil)); (case hdyn => (simp (maxSteps := 2000000) (disch := omega) only [go_sem, nbeq_F, nbeq_T, (encL_get (f := intRow) (0 : Int)), h2, htk] <;> kernel_rfl))) | (refine w_nil ?_) | (refine w_hold2 ?_) | (refine w_then ?_) | (refine aw_skip ?_) | (refine aw_ret ?_) | (apply w_end; (next => (simp (maxSteps := 2000000) (disch := omega) only [go_sem, (encL_get (f := intRow) (0 : Int)), h2, htk, Try.f51] <;> exact rfl))) | (apply w_condF; (next => (simp (maxSteps := 2000000) (disch := omega) only [go_sem, (encL_get (f := intRow) (0 : Int)), h2, htk] <;> done))))
    (simp (maxSteps := 2000000) (disch := omega) only [go_sem, noId_c, noId_agg, noId_tup, noId_snap, encL_noIdE, sec_noIdE, List.drop_zero, List.take_length, htk]; (repeat (first | exact .refl _ | exact .nil | exact wks_nil | refine wks_cons ?_ ?_ | refine wk_tup ?_ | refine wk_agg ?_)))

theorem rdec_p (c : List Int) (n : Int) (hn : 0 < n) (hn2 : n ≤ 1000000) (hL : c.length ≤ 1000000) : PCall Try.prog 53 [.snap (encL intRow c), zV n] (· = .tup [zV (decN c n).1, .snap (encL intRow (decN c n).2)]) := by
  refine PCall.wk ?_ (di_noId _ _)
  refine pcall Try.func53 rfl (by kernel_rfl) (by simp [Try.ntmps53]) ?_
  rw [Try.ntmps53]
  by_cases h0 : c.length = 0
  · have hS : decN c n = (0, []) := if_pos h0
    rw [hS]
    repeat (first | (refine aw_seq ?_) | (apply w_region (by rfl); (next => (simp (maxSteps := 2000000) (disch := omega) only [go_sem] <;> exact rfl))) | (refine w_nil ?_) | (refine w_hold2 ?_) | (refine w_then ?_) | (refine w_thenR ?_) | (refine aw_ret ?_) | (apply w_end; (next => (simp (maxSteps := 2000000) (disch := omega) only [go_sem, Try.f53] <;> exact rfl))) | (apply w_condT; (next => (simp (maxSteps := 2000000) (disch := omega) only [go_sem] <;> done))))
    (simp (maxSteps := 2000000) (disch := omega) only [go_sem, noId_c, noId_agg, noId_tup, noId_snap, encL_noIdE, sec_noIdE, List.drop_zero, List.take_length, encL_nil]; (repeat (first | exact .refl _ | exact .nil | exact wks_nil | refine wks_cons ?_ ?_ | refine wk_tup ?_ | refine wk_agg ?_)))
  · have hS : decN c n = (c.getD 0 0 % n, c.drop 1) := if_neg h0
    have hb := tm_lo (x := c.getD 0 0) hn
    have h2 := dec2 (x := c.getD 0 0) hn
    have h3 := dec3 (x := c.getD 0 0) hn
    have h4 := dec4 (x := c.getD 0 0) hn
    have htk : (c.drop 1).take (c.length - 1) = c.drop 1 := List.take_of_length_le (by simp)
    rw [hS]
    by_cases hs : (c.getD 0 0).tmod n < 0
    · have h3' := h3 hs
      repeat (first | (refine aw_seq ?_) | (apply w_region (by rfl); (next => (simp (maxSteps := 2000000) (disch := omega) only [go_sem, (encL_get (f := intRow) (0 : Int)), htk, h3'] <;> exact rfl))) | (apply w_draw (by kernel_rfl) (by kernel_rfl) (by rfl); (case hr => (apply d_run; (next => (simp (maxSteps := 2000000) (disch := omega) only [go_sem, (encL_get (f := intRow) (0 : Int)), htk, h3'] <;> exact rfl)); exact d_nil)); (case hdyn => (simp (maxSteps := 2000000) (disch := omega) only [go_sem, nbeq_F, nbeq_T, (encL_get (f := intRow) (0 : Int)), htk, h3'] <;> kernel_rfl))) | (refine w_nil ?_) | (refine w_hold2 ?_) | (refine w_then ?_) | (refine aw_skip ?_) | (refine aw_ret ?_) | (apply w_end; (next => (simp (maxSteps := 2000000) (disch := omega) only [go_sem, (encL_get (f := intRow) (0 : Int)), htk, h3', Try.f53] <;> exact rfl))) | (apply w_condT; (next => (simp (maxSteps := 2000000) (disch := omega) only [go_sem, (encL_get (f := intRow) (0 : Int)), htk, h3'] <;> done))) | (apply w_condF; (next => (simp (maxSteps := 2000000) (disch := omega) only [go_sem, (encL_get (f := intRow) (0 : Int)), htk, h3'] <;> done))))
      (simp (maxSteps := 2000000) (disch := omega) only [go_sem, noId_c, noId_agg, noId_tup, noId_snap, encL_noIdE, sec_noIdE, List.drop_zero, List.take_length, htk]; (repeat (first | exact .refl _ | exact .nil | exact wks_nil | refine wks_cons ?_ ?_ | refine wk_tup ?_ | refine wk_agg ?_)))
    · have h4' := h4 hs
      repeat (first | (refine aw_seq ?_) | (apply w_region (by rfl); (next => (simp (maxSteps := 2000000) (disch := omega) only [go_sem, (encL_get (f := intRow) (0 : Int)), htk] <;> exact rfl))) | (apply w_draw (by kernel_rfl) (by kernel_rfl) (by rfl); (case hr => (apply d_run; (next => (simp (maxSteps := 2000000) (disch := omega) only [go_sem, (encL_get (f := intRow) (0 : Int)), htk] <;> exact rfl)); exact d_nil)); (case hdyn => (simp (maxSteps := 2000000) (disch := omega) only [go_sem, nbeq_F, nbeq_T, (encL_get (f := intRow) (0 : Int)), htk] <;> kernel_rfl))) | (refine w_nil ?_) | (refine w_hold2 ?_) | (refine w_then ?_) | (refine aw_skip ?_) | (refine aw_ret ?_) | (apply w_end; (next => (simp (maxSteps := 2000000) (disch := omega) only [go_sem, (encL_get (f := intRow) (0 : Int)), htk, Try.f53] <;> exact rfl))) | (apply w_condF; (next => (simp (maxSteps := 2000000) (disch := omega) only [go_sem, (encL_get (f := intRow) (0 : Int)), htk] <;> done))))
      (simp (maxSteps := 2000000) (disch := omega) only [go_sem, noId_c, noId_agg, noId_tup, noId_snap, encL_noIdE, sec_noIdE, List.drop_zero, List.take_length, htk, h4']; (repeat (first | exact .refl _ | exact .nil | exact wks_nil | refine wks_cons ?_ ?_ | refine wk_tup ?_ | refine wk_agg ?_)))

end Go.Proofs.Ytniccdnhjbnaeaa

namespace Go.Proofs.Ytniccdnhjbnaeaa
open Go.Proofs Go.AL
set_option maxRecDepth 100000
set_option maxHeartbeats 1000000
set_option linter.unusedVariables false
set_option linter.unusedSimpArgs false
attribute [local irreducible] endA
attribute [local go_sem] dec_ltT dec_ltF dec_leT dec_leF beq_T beq_F bne_T bne_F encD


/-- The versions of a sector in the cache. -/
def versS (ca : List (Int × Sec)) (i : Int) : List Sec := (ca.filter fun c => c.1 == i).map (·.2)
def crashStep (ca : List (Int × Sec)) (s : List Sec × List Int) (i : Nat) : List Sec × List Int :=
  if (versS ca i).length = 0 then s else
    (if 0 < (decN s.2 ((versS ca i).length + 1)).1 then s.1.set i ((versS ca i).getD ((decN s.2 ((versS ca i).length + 1)).1 - 1).toNat zSec) else s.1, (decN s.2 ((versS ca i).length + 1)).2)
def crashTo (ca : List (Int × Sec)) (st : List Sec) (c : List Int) (k : Nat) : List Sec × List Int := (List.range k).foldl (crashStep ca) (st, c)
/-- A disk after a crash, and the choices that are left. -/
def crashS (d : Dsk) (c : List Int) : Dsk × List Int := if checkD d = 0 then (⟨(crashTo d.ca d.st c d.st.length).1, []⟩, (crashTo d.ca d.st c d.st.length).2) else (d, c)
theorem crashTo_succ (ca : List (Int × Sec)) (st : List Sec) (c : List Int) (k : Nat) : crashTo ca st c (k + 1) = crashStep ca (crashTo ca st c k) k := by
  simp [crashTo, List.range_succ]
theorem crashStep_len (ca : List (Int × Sec)) (s : List Sec × List Int) (i : Nat) : (crashStep ca s i).1.length = s.1.length := by
  unfold crashStep
  split
  · rfl
  · dsimp only
    split
    · rw [List.length_set]
    · rfl
theorem crashTo_len (ca : List (Int × Sec)) (st : List Sec) (c : List Int) : ∀ k, (crashTo ca st c k).1.length = st.length
  | 0 => rfl
  | k + 1 => by rw [crashTo_succ, crashStep_len, crashTo_len ca st c k]
theorem decN_len (c : List Int) (n : Int) : (decN c n).2.length ≤ c.length := by
  unfold decN
  split
  · simp
  · simp
theorem decN_rng (c : List Int) {n : Int} (hn : 0 < n) : 0 ≤ (decN c n).1 ∧ (decN c n).1 < n := by
  unfold decN
  split
  · exact ⟨Int.le_refl _, hn⟩
  · exact ⟨Int.emod_nonneg _ (by omega), Int.emod_lt_of_pos _ hn⟩
theorem crashStep_ch (ca : List (Int × Sec)) (s : List Sec × List Int) (i : Nat) : (crashStep ca s i).2.length ≤ s.2.length := by
  unfold crashStep
  split
  · exact Nat.le_refl _
  · exact decN_len _ _
theorem crashTo_ch (ca : List (Int × Sec)) (st : List Sec) (c : List Int) : ∀ k, (crashTo ca st c k).2.length ≤ c.length
  | 0 => Nat.le_refl _
  | k + 1 => by rw [crashTo_succ]; exact Nat.le_trans (crashStep_ch _ _ _) (crashTo_ch ca st c k)
theorem vers_len (ca : List (Int × Sec)) (i : Int) : (versS ca i).length ≤ ca.length := by
  unfold versS; rw [List.length_map]; exact List.length_filter_le _ _
theorem vers_hit {ca : List (Int × Sec)} {i : Int} {j : Nat} (hj : j < ca.length) (h : (ca.getD j zCa).1 = i) : versS (ca.take j) i ++ [(ca.getD j zCa).2] = versS (ca.take (j + 1)) i := by
  unfold versS
  have h' : ca[j].1 = i := by simpa [hj] using h
  rw [List.take_succ_eq_append_getElem hj, List.filter_append, List.map_append]
  congr 1
  simp [hj, h']
theorem vers_miss {ca : List (Int × Sec)} {i : Int} {j : Nat} (hj : j < ca.length) (h : (ca.getD j zCa).1 ≠ i) : versS (ca.take (j + 1)) i = versS (ca.take j) i := by
  unfold versS
  have h' : ca[j].1 ≠ i := by simpa [hj] using h
  rw [List.take_succ_eq_append_getElem hj, List.filter_append, List.map_append]
  simp [h']
theorem dc_noId (d : Dsk) (l : List Int) : NoId (.tup [.agg (encD d), .snap (encL intRow l)]) := noId_tup.2 fun x hx => by
  simp only [List.mem_cons, List.not_mem_nil, or_false] at hx
  rcases hx with rfl | rfl
  · exact d_noId d
  · exact encL_noId l
def Vav (vv : AV) (m : Nat) (mb : Option Blk) (v : List Sec) : Prop :=
  (∃ w, vv = .own m 0 v.length ∧ mb = some (.cells 65 8 (encL encSec v) w true)) ∨ (vv = .c (.slice none 0 0) ∧ mb = none ∧ v = [])
theorem Vav.mk {m n : Nat} {w : Bool} {v : List Sec} (h : n = v.length) : Vav (.own m 0 n) m (some (.cells 65 8 (encL encSec v) w true)) v := .inl ⟨w, by rw [h], rfl⟩
theorem Vav.nil0 {m : Nat} : Vav (.c (.slice none 0 0)) m none [] := .inr ⟨rfl, rfl, rfl⟩
def B3 (d : Dsk) (w : Bool) (out : List Sec) : List (Nat × Option Blk) := [(0, some (.cells 25 2 [encD d] true false)), (1, some (.cells 25 2 [[.c (.slice none 0 0), .c (.slice none 0 0)]] true false)),
      (2, some (.cells 25 2 [[.own 3 0 d.st.length, .c (.slice none 0 0)]] true false)), (3, some (.cells 65 8 (encL encSec out) true true))]
def HeadK (d : Dsk) (c : List Int) (n : Nat) (env : List (Nat × Bool × AV)) (H : Heap) : Prop :=
  ∃ k N, n = d.st.length - k ∧ k ≤ d.st.length ∧ 4 ≤ N ∧
    env = [(7, true, zV (k : Int)), (6, true, .ptr 2 0 0), (4, true, .ptr 1 0 0), (2, true, .ptr 0 0 0), (1, true, .snap (encL intRow (crashTo d.ca d.st c k).2))] ∧
    H = ⟨N, tabG [(0, some (.cells 25 2 [encD d] true false)), (1, some (.cells 25 2 [[.c (.slice none 0 0), .c (.slice none 0 0)]] true false)),
      (2, some (.cells 25 2 [[.own 3 0 d.st.length, .c (.slice none 0 0)]] true false)), (3, some (.cells 65 8 (encL encSec (crashTo d.ca d.st c k).1) true true))]⟩
def HeadV (d : Dsk) (c : List Int) (k : Nat) (n : Nat) (env : List (Nat × Bool × AV)) (H : Heap) : Prop :=
  ∃ j vv m mb N, n = d.ca.length - j ∧ j ≤ d.ca.length ∧ Vav vv m mb (versS (d.ca.take j) k) ∧ m < N ∧ 4 ≤ m ∧
    env = [(9, true, zV (j : Int)), (8, true, vv), (7, true, zV (k : Int)), (6, true, .ptr 2 0 0), (4, true, .ptr 1 0 0), (2, true, .ptr 0 0 0), (1, true, .snap (encL intRow (crashTo d.ca d.st c k).2))] ∧
    H = ⟨N, tabG [(m, mb), (0, some (.cells 25 2 [encD d] true false)), (1, some (.cells 25 2 [[.c (.slice none 0 0), .c (.slice none 0 0)]] true false)),
      (2, some (.cells 25 2 [[.own 3 0 d.st.length, .c (.slice none 0 0)]] true false)), (3, some (.cells 65 8 (encL encSec (crashTo d.ca d.st c k).1) true true))]⟩

theorem rcrash_0 (st : List Sec) (c : List Int) (hs : st = []) (hL : c.length ≤ 1000000) (hc : checkD ⟨st, []⟩ = 0) : PCall Try.prog 23 [.agg (encD ⟨st, []⟩), .snap (encL intRow c)] (· = .tup [.agg (encD (crashS ⟨st, []⟩ c).1), .snap (encL intRow (crashS ⟨st, []⟩ c).2)]) := by
  refine PCall.wk ?_ (dc_noId _ _)
  refine pcall Try.func23 rfl (by kernel_rfl) (by simp [Try.ntmps23]) ?_
  rw [Try.ntmps23]
  subst hs
  have hS : crashS ⟨[], []⟩ c = (⟨[], []⟩, c) := rfl
  rw [hS]
  repeat (first | (refine aw_seq ?_) | (apply w_region (by rfl); (next => (simp (maxSteps := 2000000) (disch := omega) only [go_sem, hc, encL_nil] <;> exact rfl))) | (refine w_nil ?_) | (refine w_then ?_) | (refine aw_skip ?_) | (refine aw_block ?_) | (apply w_condF; (next => (simp (maxSteps := 2000000) (disch := omega) only [go_sem, hc, encL_nil] <;> done))) | (apply w_callP (hop := rfl) (hg := rfl) (hp := (rcheck_p ⟨[], []⟩ (by simp) (by simp))); (next => (simp (maxSteps := 2000000) (disch := omega) only [go_sem, hc, encL_nil] <;> exact rfl)); (next => (simp [noId_c, noId_agg, noId_snap, noId_tup,encD,sec_noIdE,encL_noId,encL_noIdE,encCa,encOp,encExt]; done)); (next => (simp (maxSteps := 2000000) (disch := omega) only [go_sem, hc, encL_nil] <;> exact rfl))))
  refine w_rounds 1 ?_
  repeat (first | (refine aw_seq ?_) | (apply w_region (by rfl); (next => (simp (maxSteps := 2000000) (disch := omega) only [go_sem, hc, encL_nil] <;> exact rfl))) | (refine w_nil ?_) | (refine w_hold2 ?_) | (refine w_then ?_) | (refine aw_ret ?_) | (refine aw_exit ?_) | (apply w_end; (next => (simp (maxSteps := 2000000) (disch := omega) only [go_sem, hc, encL_nil, Try.f23] <;> exact rfl))) | (apply w_condF; (next => (simp (maxSteps := 2000000) (disch := omega) only [go_sem, hc, encL_nil] <;> done))))
  (simp (maxSteps := 2000000) (disch := omega) only [go_sem, noId_c, noId_agg, noId_tup, noId_snap, encL_noIdE, sec_noIdE, List.drop_zero, List.take_length, encL_nil]; (repeat (first | exact .refl _ | exact .nil | exact wks_nil | refine wks_cons ?_ ?_ | refine wk_tup ?_ | refine wk_agg ?_)))

theorem rcrash_e (d : Dsk) (c : List Int) (hL : c.length ≤ 1000000) (h1 : d.st.length ≤ 1000000) (h2 : d.ca.length ≤ 1000000) (hc : checkD d ≠ 0) : PCall Try.prog 23 [.agg (encD d), .snap (encL intRow c)] (· = .tup [.agg (encD (crashS d c).1), .snap (encL intRow (crashS d c).2)]) := by
  refine PCall.wk ?_ (dc_noId _ _)
  refine pcall Try.func23 rfl (by kernel_rfl) (by simp [Try.ntmps23]) ?_
  rw [Try.ntmps23]
  have hS : crashS d c = (d, c) := if_neg hc
  have hb1 : (checkD d != 0) = true := bne_T hc
  rw [hS]
  repeat (first | (refine aw_seq ?_) | (apply w_region (by rfl); (next => (simp (maxSteps := 2000000) (disch := omega) only [go_sem, hb1] <;> exact rfl))) | (refine w_nil ?_) | (refine w_hold2 ?_) | (refine w_then ?_) | (refine w_thenR ?_) | (refine aw_ret ?_) | (apply w_end; (next => (simp (maxSteps := 2000000) (disch := omega) only [go_sem, hb1, Try.f23] <;> exact rfl))) | (apply w_condT; (next => (simp (maxSteps := 2000000) (disch := omega) only [go_sem, hb1] <;> done))) | (apply w_callP (hop := rfl) (hg := rfl) (hp := (rcheck_p d (by omega) (by omega))); (next => (simp (maxSteps := 2000000) (disch := omega) only [go_sem, hb1] <;> exact rfl)); (next => (simp [noId_c, noId_agg, noId_snap, noId_tup,encD,sec_noIdE,encL_noId,encL_noIdE,encCa,encOp,encExt]; done)); (next => (simp (maxSteps := 2000000) (disch := omega) only [go_sem, hb1] <;> exact rfl))))
  (simp (maxSteps := 2000000) (disch := omega) only [go_sem, noId_c, noId_agg, noId_tup, noId_snap, encL_noIdE, sec_noIdE, List.drop_zero, List.take_length]; (repeat (first | exact .refl _ | exact .nil | exact wks_nil | refine wks_cons ?_ ?_ | refine wk_tup ?_ | refine wk_agg ?_)))

theorem rcrash_1 (d : Dsk) (c : List Int) (hs : d.st.isEmpty = false) (hL : c.length ≤ 1000000) (hC : d.ca.length ≤ 400000) (hc : checkD d = 0) : PCall Try.prog 23 [.agg (encD d), .snap (encL intRow c)] (· = .tup [.agg (encD (crashS d c).1), .snap (encL intRow (crashS d c).2)]) := by
  refine PCall.wk ?_ (dc_noId _ _)
  refine pcall Try.func23 rfl (by kernel_rfl) (by simp [Try.ntmps23]) ?_
  rw [Try.ntmps23]
  have hin := (inAll_of hc).1
  have hst := (inAll_of hc).2
  have hS : crashS d c = (⟨(crashTo d.ca d.st c d.st.length).1, []⟩, (crashTo d.ca d.st c d.st.length).2) := if_pos hc
  rw [hS]
  repeat (first | (refine aw_seq ?_) | (apply w_region (by rfl); (next => (simp (maxSteps := 2000000) (disch := omega) only [go_sem, hc, hs] <;> exact rfl))) | (refine w_nil ?_) | (refine w_then ?_) | (refine aw_skip ?_) | (refine aw_block ?_) | (apply w_condF; (next => (simp (maxSteps := 2000000) (disch := omega) only [go_sem, hc, hs] <;> done))) | (apply w_callP (hop := rfl) (hg := rfl) (hp := (rcheck_p d (by omega) (by omega))); (next => (simp (maxSteps := 2000000) (disch := omega) only [go_sem, hc, hs] <;> exact rfl)); (next => (simp [noId_c, noId_agg, noId_snap, noId_tup,encD,sec_noIdE,encL_noId,encL_noIdE,encCa,encOp,encExt]; done)); (next => (simp (maxSteps := 2000000) (disch := omega) only [go_sem, hc, hs] <;> exact rfl))))
  refine w_loop (HeadK d c) d.st.length ?_ ?_
  · refine ⟨_, _, ⟨0, 1000, by omega, by omega, by omega, rfl, rfl⟩, ?_⟩
    refine holds_cons (by rfl) (holds_cons (by rfl) (holds_cons (by rfl) (holds_cons (by rfl) (holds_cons (by rfl) (holds_nil (by simp only []; omega) (sub_cons (by (first | rfl | (simp (disch := omega) only [go_sem, encD]; done) | (simp (disch := omega) only [go_sem, encD]; rfl))) (sub_cons (by (first | rfl | (simp (disch := omega) only [go_sem, encD]; done) | (simp (disch := omega) only [go_sem, encD]; rfl))) (sub_cons (by (first | rfl | (simp (disch := omega) only [go_sem, encD]; done) | (simp (disch := omega) only [go_sem, encD]; rfl))) (sub_cons (by (first | rfl | (simp (disch := omega) only [go_sem, encD]; done) | (simp (disch := omega) only [go_sem, encD]; rfl))) (sub_nil))))))))))
  · rintro n env H ⟨k, N, rfl, hk, hN, rfl, rfl⟩
    have hlen := crashTo_len d.ca d.st c k
    have hch := crashTo_ch d.ca d.st c k
    by_cases hlt : k < d.st.length
    · repeat (first | (refine aw_seq ?_) | (apply w_region (by rfl); (next => (simp (maxSteps := 2000000) (disch := omega) only [go_sem] <;> exact rfl))) | (refine w_nil ?_) | (refine w_then ?_) | (refine aw_skip ?_) | (refine aw_block ?_) | (apply w_condT; (next => (simp (maxSteps := 2000000) (disch := omega) only [go_sem] <;> done))))
      refine w_loop (HeadV d c k) d.ca.length ?_ ?_
      · refine ⟨_, _, ⟨0, _, 4, none, N + 1000, by omega, by omega, Vav.nil0, by omega, by omega, rfl, rfl⟩, ?_⟩
        refine holds_cons (by rfl) (holds_cons (by rfl) (holds_cons (by rfl) (holds_cons (by rfl) (holds_cons (by rfl) (holds_cons (by rfl) (holds_cons (by rfl) (holds_nil (by simp only []; omega) (sub_none (sub_cons (by (first | rfl | (simp (disch := omega) only [go_sem, encD]; done) | (simp (disch := omega) only [go_sem, encD]; rfl))) (sub_cons (by (first | rfl | (simp (disch := omega) only [go_sem, encD]; done) | (simp (disch := omega) only [go_sem, encD]; rfl))) (sub_cons (by (first | rfl | (simp (disch := omega) only [go_sem, encD]; done) | (simp (disch := omega) only [go_sem, encD]; rfl))) (sub_cons (by (first | rfl | (simp (disch := omega) only [go_sem, encD]; done) | (simp (disch := omega) only [go_sem, encD]; rfl))) (sub_nil)))))))))))))
      · rintro n2 env H ⟨j, vv, m, mb, N2, rfl, hj, hvv, hm, hm4, rfl, rfl⟩
        by_cases hjl : j < d.ca.length
        · by_cases hat : (d.ca.getD j zCa).1 = k
          · have hv := vers_hit hjl hat
            have hvl : (versS (d.ca.take (j + 1)) k).length = (versS (d.ca.take j) k).length + 1 := by rw [← hv]; simp
            have hvb : (versS (d.ca.take j) k).length ≤ 1000000 := Nat.le_trans (vers_len _ _) (by simp; omega)
            rcases hvv with ⟨w, rfl, rfl⟩ | ⟨rfl, rfl, hv0⟩
            · repeat (first | (refine aw_seq ?_) | (apply w_region (by rfl); (next => (simp (maxSteps := 2000000) (disch := omega) only [go_sem, (encL_get (f := encCa) zCa), hv] <;> exact rfl))) | (refine w_nil ?_) | (refine w_then ?_) | (refine aw_skip ?_) | (refine aw_block ?_) | (apply w_condT; (next => (simp (maxSteps := 2000000) (disch := omega) only [go_sem, (encL_get (f := encCa) zCa), hv] <;> done))))
              refine ⟨d.ca.length - (j + 1), by omega, _, _, ⟨j + 1, .own (N2 + 1) 0 ((versS (d.ca.take j) k).length + 1), N2 + 1, _, N2 + 1000, rfl, by omega, Vav.mk (w := w) hvl.symm, by omega, by omega, rfl, rfl⟩, ?_⟩
              refine holds_cons (by rfl) (holds_cons (by rfl) (holds_cons (by rfl) (holds_cons (by rfl) (holds_cons (by rfl) (holds_cons (by rfl) (holds_cons (by rfl) (holds_nil (by simp only []; omega) (sub_cons (by (first | rfl | (simp (disch := omega) only [go_sem, encD]; done) | (simp (disch := omega) only [go_sem, encD]; rfl))) (sub_cons (by (first | rfl | (simp (disch := omega) only [go_sem, encD]; done) | (simp (disch := omega) only [go_sem, encD]; rfl))) (sub_cons (by (first | rfl | (simp (disch := omega) only [go_sem, encD]; done) | (simp (disch := omega) only [go_sem, encD]; rfl))) (sub_cons (by (first | rfl | (simp (disch := omega) only [go_sem, encD]; done) | (simp (disch := omega) only [go_sem, encD]; rfl))) (sub_cons (by (first | rfl | (simp (disch := omega) only [go_sem, encD]; done) | (simp (disch := omega) only [go_sem, encD]; rfl))) (sub_nil)))))))))))))
            · have hv1 : versS (d.ca.take (j + 1)) k = [(d.ca.getD j zCa).2] := by rw [← hv, hv0]; rfl
              repeat (first | (refine aw_seq ?_) | (apply w_region (by rfl); (next => (simp (maxSteps := 2000000) (disch := omega) only [go_sem, (encL_get (f := encCa) zCa)] <;> exact rfl))) | (refine w_nil ?_) | (refine w_then ?_) | (refine aw_skip ?_) | (refine aw_block ?_) | (apply w_condT; (next => (simp (maxSteps := 2000000) (disch := omega) only [go_sem, (encL_get (f := encCa) zCa)] <;> done))))
              refine ⟨d.ca.length - (j + 1), by omega, _, _, ⟨j + 1, .own (N2 + 1) 0 1, N2 + 1, _, N2 + 1000, rfl, by omega, (by rw [hv1]; exact Vav.mk (w := true) rfl), by omega, by omega, rfl, rfl⟩, ?_⟩
              refine holds_cons (by rfl) (holds_cons (by rfl) (holds_cons (by rfl) (holds_cons (by rfl) (holds_cons (by rfl) (holds_cons (by rfl) (holds_cons (by rfl) (holds_nil (by simp only []; omega) (sub_cons (by (first | rfl | (simp (disch := omega) only [go_sem, encD]; done) | (simp (disch := omega) only [go_sem, encD]; rfl))) (sub_cons (by (first | rfl | (simp (disch := omega) only [go_sem, encD]; done) | (simp (disch := omega) only [go_sem, encD]; rfl))) (sub_cons (by (first | rfl | (simp (disch := omega) only [go_sem, encD]; done) | (simp (disch := omega) only [go_sem, encD]; rfl))) (sub_cons (by (first | rfl | (simp (disch := omega) only [go_sem, encD]; done) | (simp (disch := omega) only [go_sem, encD]; rfl))) (sub_cons (by (first | rfl | (simp (disch := omega) only [go_sem, encD]; done) | (simp (disch := omega) only [go_sem, encD]; rfl))) (sub_nil)))))))))))))
          · have hv := vers_miss hjl hat
            repeat (first | (refine aw_seq ?_) | (apply w_region (by rfl); (next => (simp (maxSteps := 2000000) (disch := omega) only [go_sem, (encL_get (f := encCa) zCa)] <;> exact rfl))) | (refine w_nil ?_) | (refine w_then ?_) | (refine aw_skip ?_) | (refine aw_block ?_) | (apply w_condT; (next => (simp (maxSteps := 2000000) (disch := omega) only [go_sem, (encL_get (f := encCa) zCa)] <;> done))) | (apply w_condF; (next => (simp (maxSteps := 2000000) (disch := omega) only [go_sem, (encL_get (f := encCa) zCa)] <;> done))))
            refine ⟨d.ca.length - (j + 1), by omega, _, _, ⟨j + 1, vv, m, mb, N2 + 1000, rfl, by omega, by rw [hv]; exact hvv, by omega, by omega, rfl, rfl⟩, ?_⟩
            refine holds_cons (by rfl) (holds_cons (by rfl) (holds_cons (by rfl) (holds_cons (by rfl) (holds_cons (by rfl) (holds_cons (by rfl) (holds_cons (by rfl) (holds_nil (by simp only []; omega) (sub_cons (by (first | rfl | (simp (disch := omega) only [go_sem, encD]; done) | (simp (disch := omega) only [go_sem, encD]; rfl))) (sub_cons (by (first | rfl | (simp (disch := omega) only [go_sem, encD]; done) | (simp (disch := omega) only [go_sem, encD]; rfl))) (sub_cons (by (first | rfl | (simp (disch := omega) only [go_sem, encD]; done) | (simp (disch := omega) only [go_sem, encD]; rfl))) (sub_cons (by (first | rfl | (simp (disch := omega) only [go_sem, encD]; done) | (simp (disch := omega) only [go_sem, encD]; rfl))) (sub_cons (by (first | rfl | (simp (disch := omega) only [go_sem, encD]; done) | (simp (disch := omega) only [go_sem, encD]; rfl))) (sub_nil)))))))))))))
        · obtain rfl : j = d.ca.length := by omega
          rw [List.take_length] at hvv
          have hvb := vers_len d.ca (k : Int)
          rcases hvv with ⟨w, rfl, rfl⟩ | ⟨rfl, rfl, hv0⟩
          · by_cases hz : (versS d.ca k).length = 0
            · have hsu : crashTo d.ca d.st c (k + 1) = crashTo d.ca d.st c k := by rw [crashTo_succ]; exact if_pos hz
              repeat (first | (refine aw_seq ?_) | (apply w_region (by rfl); (next => (simp (maxSteps := 2000000) (disch := omega) only [go_sem] <;> exact rfl))) | (refine w_nil ?_) | (refine w_then ?_) | (refine aw_exit ?_) | (apply w_condT; (next => (simp (maxSteps := 2000000) (disch := omega) only [go_sem] <;> done))) | (apply w_condF; (next => (simp (maxSteps := 2000000) (disch := omega) only [go_sem] <;> done))))
              refine ⟨d.st.length - (k + 1), by omega, _, _, ⟨k + 1, N2 + 1000, rfl, by omega, by omega, rfl, rfl⟩, ?_⟩
              rw [hsu]
              refine holds_cons (by rfl) (holds_cons (by rfl) (holds_cons (by rfl) (holds_cons (by rfl) (holds_cons (by rfl) (holds_nil (by simp only []; omega) (sub_cons (by (first | rfl | (simp (disch := omega) only [go_sem, encD]; done) | (simp (disch := omega) only [go_sem, encD]; rfl))) (sub_cons (by (first | rfl | (simp (disch := omega) only [go_sem, encD]; done) | (simp (disch := omega) only [go_sem, encD]; rfl))) (sub_cons (by (first | rfl | (simp (disch := omega) only [go_sem, encD]; done) | (simp (disch := omega) only [go_sem, encD]; rfl))) (sub_cons (by (first | rfl | (simp (disch := omega) only [go_sem, encD]; done) | (simp (disch := omega) only [go_sem, encD]; rfl))) (sub_nil))))))))))
            · have hq := decN_rng (crashTo d.ca d.st c k).2 (n := ((versS d.ca k).length : Int) + 1) (by omega)
              have hql := decN_len (crashTo d.ca d.st c k).2 (((versS d.ca k).length : Int) + 1)
              have hd := (rdec_p (crashTo d.ca d.st c k).2 ((versS d.ca k).length + 1) (by omega) (by omega) (by omega))
              have hsu : crashTo d.ca d.st c (k + 1) = _ := (crashTo_succ _ _ _ _).trans (if_neg hz)
              generalize decN (crashTo d.ca d.st c k).2 (((versS d.ca k).length : Int) + 1) = q at hq hql hd hsu
              by_cases hn : 0 < q.1
              · rw [if_pos hn] at hsu
                repeat (first | (refine aw_seq ?_) | (apply w_region (by rfl); (next => (simp (maxSteps := 2000000) (disch := omega) only [go_sem, (encL_get (f := encSec) zSec), hlen] <;> exact rfl))) | (apply w_draw (by kernel_rfl) (by kernel_rfl) (by rfl); (case hr => (apply d_run; (next => (simp (maxSteps := 2000000) (disch := omega) only [go_sem, (encL_get (f := encSec) zSec), hlen] <;> exact rfl)); exact d_nil)); (case hdyn => (simp (maxSteps := 2000000) (disch := omega) only [go_sem, nbeq_F, nbeq_T, (encL_get (f := encSec) zSec), hlen] <;> kernel_rfl))) | (refine w_nil ?_) | (refine w_then ?_) | (refine aw_skip ?_) | (refine aw_exit ?_) | (apply w_condT; (next => (simp (maxSteps := 2000000) (disch := omega) only [go_sem, (encL_get (f := encSec) zSec), hlen] <;> done))) | (apply w_condF; (next => (simp (maxSteps := 2000000) (disch := omega) only [go_sem, (encL_get (f := encSec) zSec), hlen] <;> done))) | (apply w_callP (hop := rfl) (hg := rfl) (hp := hd); (next => (simp (maxSteps := 2000000) (disch := omega) only [go_sem, (encL_get (f := encSec) zSec), hlen] <;> exact rfl)); (next => (simp [noId_c, noId_agg, noId_snap, noId_tup,encD,sec_noIdE,encL_noId,encL_noIdE,encCa,encOp,encExt]; done)); (next => (simp (maxSteps := 2000000) (disch := omega) only [go_sem, (encL_get (f := encSec) zSec), hlen] <;> exact rfl))))
                refine ⟨d.st.length - (k + 1), by omega, _, _, ⟨k + 1, N2 + 1000, rfl, by omega, by omega, rfl, rfl⟩, ?_⟩
                rw [hsu]
                refine holds_cons (by rfl) (holds_cons (by rfl) (holds_cons (by rfl) (holds_cons (by rfl) (holds_cons (by rfl) (holds_nil (by simp only []; omega) (sub_cons (by (first | rfl | (simp (disch := omega) only [go_sem, encD]; done) | (simp (disch := omega) only [go_sem, encD]; rfl))) (sub_cons (by (first | rfl | (simp (disch := omega) only [go_sem, encD]; done) | (simp (disch := omega) only [go_sem, encD]; rfl))) (sub_cons (by (first | rfl | (simp (disch := omega) only [go_sem, encD]; done) | (simp (disch := omega) only [go_sem, encD]; rfl))) (sub_cons (by (first | rfl | (simp (disch := omega) only [go_sem, encD]; done) | (simp (disch := omega) only [go_sem, encD]; rfl))) (sub_nil))))))))))
              · rw [if_neg hn] at hsu
                repeat (first | (refine aw_seq ?_) | (apply w_region (by rfl); (next => (simp (maxSteps := 2000000) (disch := omega) only [go_sem] <;> exact rfl))) | (refine w_nil ?_) | (refine w_then ?_) | (refine aw_skip ?_) | (refine aw_exit ?_) | (apply w_condF; (next => (simp (maxSteps := 2000000) (disch := omega) only [go_sem] <;> done))) | (apply w_callP (hop := rfl) (hg := rfl) (hp := hd); (next => (simp (maxSteps := 2000000) (disch := omega) only [go_sem] <;> exact rfl)); (next => (simp [noId_c, noId_agg, noId_snap, noId_tup,encD,sec_noIdE,encL_noId,encL_noIdE,encCa,encOp,encExt]; done)); (next => (simp (maxSteps := 2000000) (disch := omega) only [go_sem] <;> exact rfl))))
                refine ⟨d.st.length - (k + 1), by omega, _, _, ⟨k + 1, N2 + 1000, rfl, by omega, by omega, rfl, rfl⟩, ?_⟩
                rw [hsu]
                refine holds_cons (by rfl) (holds_cons (by rfl) (holds_cons (by rfl) (holds_cons (by rfl) (holds_cons (by rfl) (holds_nil (by simp only []; omega) (sub_cons (by (first | rfl | (simp (disch := omega) only [go_sem, encD]; done) | (simp (disch := omega) only [go_sem, encD]; rfl))) (sub_cons (by (first | rfl | (simp (disch := omega) only [go_sem, encD]; done) | (simp (disch := omega) only [go_sem, encD]; rfl))) (sub_cons (by (first | rfl | (simp (disch := omega) only [go_sem, encD]; done) | (simp (disch := omega) only [go_sem, encD]; rfl))) (sub_cons (by (first | rfl | (simp (disch := omega) only [go_sem, encD]; done) | (simp (disch := omega) only [go_sem, encD]; rfl))) (sub_nil))))))))))
          · have hz : (versS d.ca k).length = 0 := by rw [hv0]; rfl
            have hsu : crashTo d.ca d.st c (k + 1) = crashTo d.ca d.st c k := by rw [crashTo_succ]; exact if_pos hz
            repeat (first | (refine aw_seq ?_) | (apply w_region (by rfl); (next => (simp (maxSteps := 2000000) (disch := omega) only [go_sem] <;> exact rfl))) | (refine w_nil ?_) | (refine w_then ?_) | (refine aw_exit ?_) | (apply w_condT; (next => (simp (maxSteps := 2000000) (disch := omega) only [go_sem] <;> done))) | (apply w_condF; (next => (simp (maxSteps := 2000000) (disch := omega) only [go_sem] <;> done))))
            refine ⟨d.st.length - (k + 1), by omega, _, _, ⟨k + 1, N2 + 1000, rfl, by omega, by omega, rfl, rfl⟩, ?_⟩
            rw [hsu]
            refine holds_cons (by rfl) (holds_cons (by rfl) (holds_cons (by rfl) (holds_cons (by rfl) (holds_cons (by rfl) (holds_nil (by simp only []; omega) (sub_cons (by (first | rfl | (simp (disch := omega) only [go_sem, encD]; done) | (simp (disch := omega) only [go_sem, encD]; rfl))) (sub_cons (by (first | rfl | (simp (disch := omega) only [go_sem, encD]; done) | (simp (disch := omega) only [go_sem, encD]; rfl))) (sub_cons (by (first | rfl | (simp (disch := omega) only [go_sem, encD]; done) | (simp (disch := omega) only [go_sem, encD]; rfl))) (sub_cons (by (first | rfl | (simp (disch := omega) only [go_sem, encD]; done) | (simp (disch := omega) only [go_sem, encD]; rfl))) (sub_nil))))))))))
    · obtain rfl : k = d.st.length := by omega
      have htk : (crashTo d.ca d.st c d.st.length).1.take d.st.length = (crashTo d.ca d.st c d.st.length).1 := List.take_of_length_le (by omega)
      repeat (first | (refine aw_seq ?_) | (apply w_region (by rfl); (next => (simp (maxSteps := 2000000) (disch := omega) only [go_sem] <;> exact rfl))) | (refine w_nil ?_) | (refine w_hold2 ?_) | (refine w_then ?_) | (refine aw_ret ?_) | (refine aw_exit ?_) | (apply w_end; (next => (simp (maxSteps := 2000000) (disch := omega) only [go_sem, Try.f23] <;> exact rfl))) | (apply w_condF; (next => (simp (maxSteps := 2000000) (disch := omega) only [go_sem] <;> done))))
      (simp (maxSteps := 2000000) (disch := omega) only [go_sem, noId_c, noId_agg, noId_tup, noId_snap, encL_noIdE, sec_noIdE, List.drop_zero, List.take_length, hlen, htk, encL_nil, Nat.le_refl]; (repeat (first | exact .refl _ | exact .nil | exact wks_nil | refine wks_cons ?_ ?_ | refine wk_tup ?_ | refine wk_agg ?_)))


theorem rcrash_p (d : Dsk) (c : List Int) (hL : c.length ≤ 1000000) (h1 : d.st.length ≤ 1000000) (hC : d.ca.length ≤ 400000) : PCall Try.prog 23 [.agg (encD d), .snap (encL intRow c)] (· = .tup [.agg (encD (crashS d c).1), .snap (encL intRow (crashS d c).2)]) := by
  by_cases hc : checkD d = 0
  · cases hs : d.st.isEmpty
    · exact rcrash_1 d c hs hL hC hc
    · have hst : d.st = [] := by simpa using hs
      have hca := inAll_nil (inAll_of hc).1 hst
      obtain ⟨st, ca⟩ := d
      simp only at hst hca
      subst hca
      exact rcrash_0 st c hst hL hc
  · exact rcrash_e d c hL h1 (by omega) hc

end Go.Proofs.Ytniccdnhjbnaeaa

namespace Go.Proofs.Ytniccdnhjbnaeaa
open Go.Proofs Go.AL
set_option maxRecDepth 100000
set_option maxHeartbeats 1000000
set_option linter.unusedVariables false
set_option linter.unusedSimpArgs false
attribute [local irreducible] endA
attribute [local go_sem] dec_ltT dec_ltF dec_leT dec_leF beq_T beq_F bne_T bne_F encD


/-- The contract of Crash. -/
def CrashSaid : Prop := ∀ (d : Dsk) (c : List Int), c.length ≤ 1000000 → d.st.length ≤ 1000000 → d.ca.length ≤ 400000 → PCall Try.prog 22 [.agg (encD d), .snap (encL intRow c)] (· = .tup [.agg (encD (crashS d c).1), .snap (encL intRow (crashS d c).2)])
def interS (d : Dsk) (ops : List Opr) (after : Int) (c : List Int) : Dsk × List Int × Int :=
  if checkD d = 0 then (if 0 ≤ after ∧ after ≤ ops.length then
      (if (runS d (ops.take after.toNat)).2.2 = 0 then ((crashS (runS d (ops.take after.toNat)).1 c).1, (crashS (runS d (ops.take after.toNat)).1 c).2, 0) else (Dsk.empty, [], (runS d (ops.take after.toNat)).2.2))
    else (Dsk.empty, [], 2)) else (Dsk.empty, [], checkD d)
theorem die_noId (d : Dsk) (l : List Int) (e : Int) : NoId (.tup [.agg (encD d), .snap (encL intRow l), zV e]) := noId_tup.2 fun x hx => by
  simp only [List.mem_cons, List.not_mem_nil, or_false] at hx
  rcases hx with rfl | rfl | rfl
  · exact d_noId d
  · exact encL_noId l
  · exact .c _
theorem runL_bd : ∀ (ops : List Opr) (d : Dsk) (k : Nat), d.st.length ≤ 4096 → (runL d ops k).1.st.length ≤ d.st.length ∧ (runL d ops k).1.ca.length ≤ d.ca.length + ops.length * 4096
  | [], d, k, _ => by simp [runL]
  | o :: r, d, k, hd => by
    simp only [runL]
    split
    · rename_i d' hs
      have hb : d'.st.length = d.st.length ∧ d'.ca.length ≤ d.ca.length + 4096 := by
        unfold stepS at hs
        split at hs
        · split at hs
          · rename_i hi
            have := inside_len hi
            injection hs with hs; subst hs; exact ⟨rfl, by rw [putS_len]; omega⟩
          · cases hs
        · split at hs
          · injection hs with hs; subst hs; exact ⟨newD_len d, by simp⟩
          · cases hs
      obtain ⟨h1, h2⟩ := runL_bd r d' (k + 1) (by omega)
      simp only [List.length_cons]
      omega
    · simp [Dsk.empty]
theorem runS_bd (d : Dsk) (ops : List Opr) : (runS d ops).1.st.length ≤ d.st.length ∧ (runS d ops).1.ca.length ≤ d.ca.length + ops.length * 4096 := by
  unfold runS
  split
  · rename_i hc
    exact runL_bd ops d 0 (inAll_of hc).2
  · simp [Dsk.empty]

theorem inter_p (hcr : CrashSaid) (d : Dsk) (ops : List Opr) (after : Int) (c : List Int) (hL : d.st.length ≤ 1000000) (hC : d.ca.length + ops.length * 4096 ≤ 400000) (hO : ops.length ≤ 1000) (hc : c.length ≤ 1000000) : PCall Try.prog 25 [.agg (encD d), .snap (encL encOp ops), zV after, .snap (encL intRow c)] (· = .tup [.agg (encD (interS d ops after c).1), .snap (encL intRow (interS d ops after c).2.1), zV (interS d ops after c).2.2]) := by
  refine PCall.wk ?_ (die_noId _ _ _)
  refine pcall Try.func25 rfl (by kernel_rfl) (by simp [Try.ntmps25]) ?_
  rw [Try.ntmps25]
  by_cases h0 : checkD d = 0
  · by_cases h1 : 0 ≤ after
    · by_cases h2 : after ≤ ops.length
      · have hb := runS_bd d (ops.take after.toNat)
        have hl : (ops.take after.toNat).length ≤ ops.length := by simp; omega
        have hrun := run_p d (ops.take after.toNat) hL (by omega) (by omega)
        have hcrash := hcr (runS d (ops.take after.toNat)).1 c hc (by omega) (by omega)
        have hI : interS d ops after c = (if (runS d (ops.take after.toNat)).2.2 = 0 then ((crashS (runS d (ops.take after.toNat)).1 c).1, (crashS (runS d (ops.take after.toNat)).1 c).2, 0) else (Dsk.empty, [], (runS d (ops.take after.toNat)).2.2)) := by
          unfold interS; rw [if_pos h0, if_pos ⟨h1, h2⟩]
        generalize runS d (ops.take after.toNat) = q at *
        obtain ⟨d', n, e⟩ := q
        simp only [] at hI hrun hcrash hb
        by_cases h3 : e = 0
        · rw [if_pos h3] at hI
          rw [hI]
          subst h3
          repeat (first | (refine aw_seq ?_) | (apply w_region (by rfl); (next => (simp (maxSteps := 2000000) (disch := omega) only [go_sem, h0] <;> exact rfl))) | (apply w_draw (by kernel_rfl) (by kernel_rfl) (by rfl); (case hr => (repeat (apply d_run; (next => (simp (maxSteps := 2000000) (disch := omega) only [go_sem, h0] <;> exact rfl)); first | exact d_nil | (apply d_callP (hop := rfl) (hg := rfl) (hp := hrun); (next => (simp (maxSteps := 2000000) (disch := omega) only [go_sem, h0] <;> exact rfl)); (next => (simp [noId_c, noId_agg, noId_snap, noId_tup,encD,sec_noIdE,encL_noId,encL_noIdE,encCa,encOp,encExt]; done)))))); (case hdyn => (simp (maxSteps := 2000000) (disch := omega) only [go_sem, nbeq_F, nbeq_T, h0] <;> kernel_rfl))) | (refine w_nil ?_) | (refine w_hold2 ?_) | (refine w_then ?_) | (refine aw_skip ?_) | (refine aw_ret ?_) | (apply w_end; (next => (simp (maxSteps := 2000000) (disch := omega) only [go_sem, h0, Try.f25] <;> exact rfl))) | (apply w_condF; (next => (simp (maxSteps := 2000000) (disch := omega) only [go_sem, h0] <;> done))) | (apply w_callP (hop := rfl) (hg := rfl) (hp := (check_p d (by omega) (by omega))); (next => (simp (maxSteps := 2000000) (disch := omega) only [go_sem, h0] <;> exact rfl)); (next => (simp [noId_c, noId_agg, noId_snap, noId_tup,encD,sec_noIdE,encL_noId,encL_noIdE,encCa,encOp,encExt]; done)); (next => (simp (maxSteps := 2000000) (disch := omega) only [go_sem, h0] <;> exact rfl))) | (apply w_callP (hop := rfl) (hg := rfl) (hp := hcrash); (next => (simp (maxSteps := 2000000) (disch := omega) only [go_sem, h0] <;> exact rfl)); (next => (simp [noId_c, noId_agg, noId_snap, noId_tup,encD,sec_noIdE,encL_noId,encL_noIdE,encCa,encOp,encExt]; done)); (next => (simp (maxSteps := 2000000) (disch := omega) only [go_sem, h0] <;> exact rfl))))
          (simp (maxSteps := 2000000) (disch := omega) only [go_sem, noId_c, noId_agg, noId_tup, noId_snap, encL_noIdE, sec_noIdE, List.drop_zero, List.take_length]; (repeat (first | exact .refl _ | exact .nil | exact wks_nil | refine wks_cons ?_ ?_ | refine wk_tup ?_ | refine wk_agg ?_)))
        · rw [if_neg h3] at hI
          rw [hI]
          have hb1 : (e != 0) = true := bne_T h3
          repeat (first | (refine aw_seq ?_) | (apply w_region (by rfl); (next => (simp (maxSteps := 2000000) (disch := omega) only [go_sem, h0, hb1] <;> exact rfl))) | (apply w_draw (by kernel_rfl) (by kernel_rfl) (by rfl); (case hr => (repeat (apply d_run; (next => (simp (maxSteps := 2000000) (disch := omega) only [go_sem, h0, hb1] <;> exact rfl)); first | exact d_nil | (apply d_callP (hop := rfl) (hg := rfl) (hp := hrun); (next => (simp (maxSteps := 2000000) (disch := omega) only [go_sem, h0, hb1] <;> exact rfl)); (next => (simp [noId_c, noId_agg, noId_snap, noId_tup,encD,sec_noIdE,encL_noId,encL_noIdE,encCa,encOp,encExt]; done)))))); (case hdyn => (simp (maxSteps := 2000000) (disch := omega) only [go_sem, nbeq_F, nbeq_T, h0, hb1] <;> kernel_rfl))) | (refine w_nil ?_) | (refine w_hold2 ?_) | (refine w_then ?_) | (refine w_thenR ?_) | (refine aw_skip ?_) | (refine aw_ret ?_) | (apply w_end; (next => (simp (maxSteps := 2000000) (disch := omega) only [go_sem, h0, hb1, Try.f25] <;> exact rfl))) | (apply w_condT; (next => (simp (maxSteps := 2000000) (disch := omega) only [go_sem, h0, hb1] <;> done))) | (apply w_condF; (next => (simp (maxSteps := 2000000) (disch := omega) only [go_sem, h0, hb1] <;> done))) | (apply w_callP (hop := rfl) (hg := rfl) (hp := (check_p d (by omega) (by omega))); (next => (simp (maxSteps := 2000000) (disch := omega) only [go_sem, h0, hb1] <;> exact rfl)); (next => (simp [noId_c, noId_agg, noId_snap, noId_tup,encD,sec_noIdE,encL_noId,encL_noIdE,encCa,encOp,encExt]; done)); (next => (simp (maxSteps := 2000000) (disch := omega) only [go_sem, h0, hb1] <;> exact rfl))))
          (simp (maxSteps := 2000000) (disch := omega) only [go_sem, noId_c, noId_agg, noId_tup, noId_snap, encL_noIdE, sec_noIdE, List.drop_zero, List.take_length, Dsk.empty, encL_nil]; (repeat (first | exact .refl _ | exact .nil | exact wks_nil | refine wks_cons ?_ ?_ | refine wk_tup ?_ | refine wk_agg ?_)))
      · have hI : interS d ops after c = (Dsk.empty, [], 2) := by unfold interS; rw [if_pos h0, if_neg (by omega)]
        rw [hI]
        repeat (first | (refine aw_seq ?_) | (apply w_region (by rfl); (next => (simp (maxSteps := 2000000) (disch := omega) only [go_sem, h0] <;> exact rfl))) | (refine w_nil ?_) | (refine w_hold2 ?_) | (refine w_then ?_) | (refine w_thenR ?_) | (refine aw_skip ?_) | (refine aw_ret ?_) | (apply w_end; (next => (simp (maxSteps := 2000000) (disch := omega) only [go_sem, h0, Try.f25] <;> exact rfl))) | (apply w_condT; (next => (simp (maxSteps := 2000000) (disch := omega) only [go_sem, h0] <;> done))) | (apply w_condF; (next => (simp (maxSteps := 2000000) (disch := omega) only [go_sem, h0] <;> done))) | (apply w_callP (hop := rfl) (hg := rfl) (hp := (check_p d (by omega) (by omega))); (next => (simp (maxSteps := 2000000) (disch := omega) only [go_sem, h0] <;> exact rfl)); (next => (simp [noId_c, noId_agg, noId_snap, noId_tup,encD,sec_noIdE,encL_noId,encL_noIdE,encCa,encOp,encExt]; done)); (next => (simp (maxSteps := 2000000) (disch := omega) only [go_sem, h0] <;> exact rfl))))
        (simp (maxSteps := 2000000) (disch := omega) only [go_sem, noId_c, noId_agg, noId_tup, noId_snap, encL_noIdE, sec_noIdE, List.drop_zero, List.take_length, Dsk.empty, encL_nil]; (repeat (first | exact .refl _ | exact .nil | exact wks_nil | refine wks_cons ?_ ?_ | refine wk_tup ?_ | refine wk_agg ?_)))
    · have hI : interS d ops after c = (Dsk.empty, [], 2) := by unfold interS; rw [if_pos h0, if_neg (by omega)]
      rw [hI]
      repeat (first | (refine aw_seq ?_) | (apply w_region (by rfl); (next => (simp (maxSteps := 2000000) (disch := omega) only [go_sem, h0] <;> exact rfl))) | (refine w_nil ?_) | (refine w_hold2 ?_) | (refine w_then ?_) | (refine w_thenR ?_) | (refine aw_skip ?_) | (refine aw_ret ?_) | (apply w_end; (next => (simp (maxSteps := 2000000) (disch := omega) only [go_sem, h0, Try.f25] <;> exact rfl))) | (apply w_condT; (next => (simp (maxSteps := 2000000) (disch := omega) only [go_sem, h0] <;> done))) | (apply w_condF; (next => (simp (maxSteps := 2000000) (disch := omega) only [go_sem, h0] <;> done))) | (apply w_callP (hop := rfl) (hg := rfl) (hp := (check_p d (by omega) (by omega))); (next => (simp (maxSteps := 2000000) (disch := omega) only [go_sem, h0] <;> exact rfl)); (next => (simp [noId_c, noId_agg, noId_snap, noId_tup,encD,sec_noIdE,encL_noId,encL_noIdE,encCa,encOp,encExt]; done)); (next => (simp (maxSteps := 2000000) (disch := omega) only [go_sem, h0] <;> exact rfl))))
      (simp (maxSteps := 2000000) (disch := omega) only [go_sem, noId_c, noId_agg, noId_tup, noId_snap, encL_noIdE, sec_noIdE, List.drop_zero, List.take_length, Dsk.empty, encL_nil]; (repeat (first | exact .refl _ | exact .nil | exact wks_nil | refine wks_cons ?_ ?_ | refine wk_tup ?_ | refine wk_agg ?_)))
  · have hI : interS d ops after c = (Dsk.empty, [], checkD d) := by unfold interS; rw [if_neg h0]
    have hb1 : (checkD d != 0) = true := bne_T h0
    rw [hI]
    repeat (first | (refine aw_seq ?_) | (apply w_region (by rfl); (next => (simp (maxSteps := 2000000) (disch := omega) only [go_sem, hb1] <;> exact rfl))) | (refine w_nil ?_) | (refine w_hold2 ?_) | (refine w_then ?_) | (refine w_thenR ?_) | (refine aw_ret ?_) | (apply w_end; (next => (simp (maxSteps := 2000000) (disch := omega) only [go_sem, hb1, Try.f25] <;> exact rfl))) | (apply w_condT; (next => (simp (maxSteps := 2000000) (disch := omega) only [go_sem, hb1] <;> done))) | (apply w_callP (hop := rfl) (hg := rfl) (hp := (check_p d (by omega) (by omega))); (next => (simp (maxSteps := 2000000) (disch := omega) only [go_sem, hb1] <;> exact rfl)); (next => (simp [noId_c, noId_agg, noId_snap, noId_tup,encD,sec_noIdE,encL_noId,encL_noIdE,encCa,encOp,encExt]; done)); (next => (simp (maxSteps := 2000000) (disch := omega) only [go_sem, hb1] <;> exact rfl))))
    (simp (maxSteps := 2000000) (disch := omega) only [go_sem, noId_c, noId_agg, noId_tup, noId_snap, encL_noIdE, sec_noIdE, List.drop_zero, List.take_length, Dsk.empty, encL_nil]; (repeat (first | exact .refl _ | exact .nil | exact wks_nil | refine wks_cons ?_ ?_ | refine wk_tup ?_ | refine wk_agg ?_)))

theorem rinter_p (hcr : CrashSaid) (d : Dsk) (ops : List Opr) (after : Int) (c : List Int) (hL : d.st.length ≤ 1000000) (hC : d.ca.length + ops.length * 4096 ≤ 400000) (hO : ops.length ≤ 1000) (hc : c.length ≤ 1000000) : PCall Try.prog 26 [.agg (encD d), .snap (encL encOp ops), zV after, .snap (encL intRow c)] (· = .tup [.agg (encD (interS d ops after c).1), .snap (encL intRow (interS d ops after c).2.1), zV (interS d ops after c).2.2]) := by
  refine PCall.wk ?_ (die_noId _ _ _)
  refine pcall Try.func26 rfl (by kernel_rfl) (by simp [Try.ntmps26]) ?_
  rw [Try.ntmps26]
  by_cases h0 : checkD d = 0
  · by_cases h1 : 0 ≤ after
    · by_cases h2 : after ≤ ops.length
      · have hb := runS_bd d (ops.take after.toNat)
        have hl : (ops.take after.toNat).length ≤ ops.length := by simp; omega
        have hrun := rrun_p d (ops.take after.toNat) hL (by omega) (by omega)
        have hcrash := rcrash_p (runS d (ops.take after.toNat)).1 c hc (by omega) (by omega)
        have hI : interS d ops after c = (if (runS d (ops.take after.toNat)).2.2 = 0 then ((crashS (runS d (ops.take after.toNat)).1 c).1, (crashS (runS d (ops.take after.toNat)).1 c).2, 0) else (Dsk.empty, [], (runS d (ops.take after.toNat)).2.2)) := by
          unfold interS; rw [if_pos h0, if_pos ⟨h1, h2⟩]
        generalize runS d (ops.take after.toNat) = q at *
        obtain ⟨d', n, e⟩ := q
        simp only [] at hI hrun hcrash hb
        by_cases h3 : e = 0
        · rw [if_pos h3] at hI
          rw [hI]
          subst h3
          repeat (first | (refine aw_seq ?_) | (apply w_region (by rfl); (next => (simp (maxSteps := 2000000) (disch := omega) only [go_sem, h0] <;> exact rfl))) | (apply w_draw (by kernel_rfl) (by kernel_rfl) (by rfl); (case hr => (repeat (apply d_run; (next => (simp (maxSteps := 2000000) (disch := omega) only [go_sem, h0] <;> exact rfl)); first | exact d_nil | (apply d_callP (hop := rfl) (hg := rfl) (hp := hrun); (next => (simp (maxSteps := 2000000) (disch := omega) only [go_sem, h0] <;> exact rfl)); (next => (simp [noId_c, noId_agg, noId_snap, noId_tup,encD,sec_noIdE,encL_noId,encL_noIdE,encCa,encOp,encExt]; done)))))); (case hdyn => (simp (maxSteps := 2000000) (disch := omega) only [go_sem, nbeq_F, nbeq_T, h0] <;> kernel_rfl))) | (refine w_nil ?_) | (refine w_hold2 ?_) | (refine w_then ?_) | (refine aw_skip ?_) | (refine aw_ret ?_) | (apply w_end; (next => (simp (maxSteps := 2000000) (disch := omega) only [go_sem, h0, Try.f26] <;> exact rfl))) | (apply w_condF; (next => (simp (maxSteps := 2000000) (disch := omega) only [go_sem, h0] <;> done))) | (apply w_callP (hop := rfl) (hg := rfl) (hp := (rcheck_p d (by omega) (by omega))); (next => (simp (maxSteps := 2000000) (disch := omega) only [go_sem, h0] <;> exact rfl)); (next => (simp [noId_c, noId_agg, noId_snap, noId_tup,encD,sec_noIdE,encL_noId,encL_noIdE,encCa,encOp,encExt]; done)); (next => (simp (maxSteps := 2000000) (disch := omega) only [go_sem, h0] <;> exact rfl))) | (apply w_callP (hop := rfl) (hg := rfl) (hp := hcrash); (next => (simp (maxSteps := 2000000) (disch := omega) only [go_sem, h0] <;> exact rfl)); (next => (simp [noId_c, noId_agg, noId_snap, noId_tup,encD,sec_noIdE,encL_noId,encL_noIdE,encCa,encOp,encExt]; done)); (next => (simp (maxSteps := 2000000) (disch := omega) only [go_sem, h0] <;> exact rfl))))
          (simp (maxSteps := 2000000) (disch := omega) only [go_sem, noId_c, noId_agg, noId_tup, noId_snap, encL_noIdE, sec_noIdE, List.drop_zero, List.take_length]; (repeat (first | exact .refl _ | exact .nil | exact wks_nil | refine wks_cons ?_ ?_ | refine wk_tup ?_ | refine wk_agg ?_)))
        · rw [if_neg h3] at hI
          rw [hI]
          have hb1 : (e != 0) = true := bne_T h3
          repeat (first | (refine aw_seq ?_) | (apply w_region (by rfl); (next => (simp (maxSteps := 2000000) (disch := omega) only [go_sem, h0, hb1] <;> exact rfl))) | (apply w_draw (by kernel_rfl) (by kernel_rfl) (by rfl); (case hr => (repeat (apply d_run; (next => (simp (maxSteps := 2000000) (disch := omega) only [go_sem, h0, hb1] <;> exact rfl)); first | exact d_nil | (apply d_callP (hop := rfl) (hg := rfl) (hp := hrun); (next => (simp (maxSteps := 2000000) (disch := omega) only [go_sem, h0, hb1] <;> exact rfl)); (next => (simp [noId_c, noId_agg, noId_snap, noId_tup,encD,sec_noIdE,encL_noId,encL_noIdE,encCa,encOp,encExt]; done)))))); (case hdyn => (simp (maxSteps := 2000000) (disch := omega) only [go_sem, nbeq_F, nbeq_T, h0, hb1] <;> kernel_rfl))) | (refine w_nil ?_) | (refine w_hold2 ?_) | (refine w_then ?_) | (refine w_thenR ?_) | (refine aw_skip ?_) | (refine aw_ret ?_) | (apply w_end; (next => (simp (maxSteps := 2000000) (disch := omega) only [go_sem, h0, hb1, Try.f26] <;> exact rfl))) | (apply w_condT; (next => (simp (maxSteps := 2000000) (disch := omega) only [go_sem, h0, hb1] <;> done))) | (apply w_condF; (next => (simp (maxSteps := 2000000) (disch := omega) only [go_sem, h0, hb1] <;> done))) | (apply w_callP (hop := rfl) (hg := rfl) (hp := (rcheck_p d (by omega) (by omega))); (next => (simp (maxSteps := 2000000) (disch := omega) only [go_sem, h0, hb1] <;> exact rfl)); (next => (simp [noId_c, noId_agg, noId_snap, noId_tup,encD,sec_noIdE,encL_noId,encL_noIdE,encCa,encOp,encExt]; done)); (next => (simp (maxSteps := 2000000) (disch := omega) only [go_sem, h0, hb1] <;> exact rfl))))
          (simp (maxSteps := 2000000) (disch := omega) only [go_sem, noId_c, noId_agg, noId_tup, noId_snap, encL_noIdE, sec_noIdE, List.drop_zero, List.take_length, Dsk.empty, encL_nil]; (repeat (first | exact .refl _ | exact .nil | exact wks_nil | refine wks_cons ?_ ?_ | refine wk_tup ?_ | refine wk_agg ?_)))
      · have hI : interS d ops after c = (Dsk.empty, [], 2) := by unfold interS; rw [if_pos h0, if_neg (by omega)]
        rw [hI]
        repeat (first | (refine aw_seq ?_) | (apply w_region (by rfl); (next => (simp (maxSteps := 2000000) (disch := omega) only [go_sem, h0] <;> exact rfl))) | (refine w_nil ?_) | (refine w_hold2 ?_) | (refine w_then ?_) | (refine w_thenR ?_) | (refine aw_skip ?_) | (refine aw_ret ?_) | (apply w_end; (next => (simp (maxSteps := 2000000) (disch := omega) only [go_sem, h0, Try.f26] <;> exact rfl))) | (apply w_condT; (next => (simp (maxSteps := 2000000) (disch := omega) only [go_sem, h0] <;> done))) | (apply w_condF; (next => (simp (maxSteps := 2000000) (disch := omega) only [go_sem, h0] <;> done))) | (apply w_callP (hop := rfl) (hg := rfl) (hp := (rcheck_p d (by omega) (by omega))); (next => (simp (maxSteps := 2000000) (disch := omega) only [go_sem, h0] <;> exact rfl)); (next => (simp [noId_c, noId_agg, noId_snap, noId_tup,encD,sec_noIdE,encL_noId,encL_noIdE,encCa,encOp,encExt]; done)); (next => (simp (maxSteps := 2000000) (disch := omega) only [go_sem, h0] <;> exact rfl))))
        (simp (maxSteps := 2000000) (disch := omega) only [go_sem, noId_c, noId_agg, noId_tup, noId_snap, encL_noIdE, sec_noIdE, List.drop_zero, List.take_length, Dsk.empty, encL_nil]; (repeat (first | exact .refl _ | exact .nil | exact wks_nil | refine wks_cons ?_ ?_ | refine wk_tup ?_ | refine wk_agg ?_)))
    · have hI : interS d ops after c = (Dsk.empty, [], 2) := by unfold interS; rw [if_pos h0, if_neg (by omega)]
      rw [hI]
      repeat (first | (refine aw_seq ?_) | (apply w_region (by rfl); (next => (simp (maxSteps := 2000000) (disch := omega) only [go_sem, h0] <;> exact rfl))) | (refine w_nil ?_) | (refine w_hold2 ?_) | (refine w_then ?_) | (refine w_thenR ?_) | (refine aw_skip ?_) | (refine aw_ret ?_) | (apply w_end; (next => (simp (maxSteps := 2000000) (disch := omega) only [go_sem, h0, Try.f26] <;> exact rfl))) | (apply w_condT; (next => (simp (maxSteps := 2000000) (disch := omega) only [go_sem, h0] <;> done))) | (apply w_condF; (next => (simp (maxSteps := 2000000) (disch := omega) only [go_sem, h0] <;> done))) | (apply w_callP (hop := rfl) (hg := rfl) (hp := (rcheck_p d (by omega) (by omega))); (next => (simp (maxSteps := 2000000) (disch := omega) only [go_sem, h0] <;> exact rfl)); (next => (simp [noId_c, noId_agg, noId_snap, noId_tup,encD,sec_noIdE,encL_noId,encL_noIdE,encCa,encOp,encExt]; done)); (next => (simp (maxSteps := 2000000) (disch := omega) only [go_sem, h0] <;> exact rfl))))
      (simp (maxSteps := 2000000) (disch := omega) only [go_sem, noId_c, noId_agg, noId_tup, noId_snap, encL_noIdE, sec_noIdE, List.drop_zero, List.take_length, Dsk.empty, encL_nil]; (repeat (first | exact .refl _ | exact .nil | exact wks_nil | refine wks_cons ?_ ?_ | refine wk_tup ?_ | refine wk_agg ?_)))
  · have hI : interS d ops after c = (Dsk.empty, [], checkD d) := by unfold interS; rw [if_neg h0]
    have hb1 : (checkD d != 0) = true := bne_T h0
    rw [hI]
    repeat (first | (refine aw_seq ?_) | (apply w_region (by rfl); (next => (simp (maxSteps := 2000000) (disch := omega) only [go_sem, hb1] <;> exact rfl))) | (refine w_nil ?_) | (refine w_hold2 ?_) | (refine w_then ?_) | (refine w_thenR ?_) | (refine aw_ret ?_) | (apply w_end; (next => (simp (maxSteps := 2000000) (disch := omega) only [go_sem, hb1, Try.f26] <;> exact rfl))) | (apply w_condT; (next => (simp (maxSteps := 2000000) (disch := omega) only [go_sem, hb1] <;> done))) | (apply w_callP (hop := rfl) (hg := rfl) (hp := (rcheck_p d (by omega) (by omega))); (next => (simp (maxSteps := 2000000) (disch := omega) only [go_sem, hb1] <;> exact rfl)); (next => (simp [noId_c, noId_agg, noId_snap, noId_tup,encD,sec_noIdE,encL_noId,encL_noIdE,encCa,encOp,encExt]; done)); (next => (simp (maxSteps := 2000000) (disch := omega) only [go_sem, hb1] <;> exact rfl))))
    (simp (maxSteps := 2000000) (disch := omega) only [go_sem, noId_c, noId_agg, noId_tup, noId_snap, encL_noIdE, sec_noIdE, List.drop_zero, List.take_length, Dsk.empty, encL_nil]; (repeat (first | exact .refl _ | exact .nil | exact wks_nil | refine wks_cons ?_ ?_ | refine wk_tup ?_ | refine wk_agg ?_)))

end Go.Proofs.Ytniccdnhjbnaeaa

namespace Go.Proofs.Ytniccdnhjbnaeaa
open Go.Proofs Go.AL
set_option maxRecDepth 100000
set_option maxHeartbeats 1000000
set_option linter.unusedVariables false
set_option linter.unusedSimpArgs false
attribute [local irreducible] endA
attribute [local go_sem] dec_ltT dec_ltF dec_leT dec_leF beq_T beq_F bne_T bne_F encD


def secOf (b : Int) : Sec := ((b, 0, 0, 0), (0, 0, 0, 0))
def newS (n : Int) : Dsk × Int := if 0 ≤ n ∧ n ≤ 4096 then (⟨List.replicate n.toNat zSec, []⟩, 0) else (Dsk.empty, 2)
theorem op_noId (o : Opr) : NoId (.agg (encOp o)) := noId_agg.2 fun x hx => by
  simp only [encOp, List.mem_cons, List.not_mem_nil, or_false] at hx
  rcases hx with rfl | rfl | rfl
  · exact .c _
  · exact .c _
  · exact encL_noId _

theorem new_p (n : Int) : PCall Try.prog 31 [zV n] (· = .tup [.agg (encD (newS n).1), zV (newS n).2]) := by
  refine PCall.wk ?_ (de_noId _ _)
  refine pcall Try.func31 rfl (by kernel_rfl) (by simp [Try.ntmps31]) ?_
  rw [Try.ntmps31]
  by_cases h1 : 0 ≤ n
  · by_cases h2 : n ≤ 4096
    · have hS : newS n = (⟨List.replicate n.toNat zSec, []⟩, 0) := if_pos ⟨h1, h2⟩
      rw [hS]
      repeat (first | (refine aw_seq ?_) | (apply w_region (by rfl); (next => (simp (maxSteps := 2000000) (disch := omega) only [go_sem] <;> exact rfl))) | (refine w_nil ?_) | (refine w_hold2 ?_) | (refine w_then ?_) | (refine aw_skip ?_) | (refine aw_ret ?_) | (apply w_end; (next => (simp (maxSteps := 2000000) (disch := omega) only [go_sem, Try.f31] <;> exact rfl))) | (apply w_condF; (next => (simp (maxSteps := 2000000) (disch := omega) only [go_sem] <;> done))))
      (simp (maxSteps := 2000000) (disch := omega) only [go_sem, noId_c, noId_agg, noId_tup, noId_snap, encL_noIdE, sec_noIdE, List.drop_zero, List.take_length, encL_nil, List.length_replicate, List.take_replicate, Nat.min_self]; (repeat (first | exact .refl _ | exact .nil | exact wks_nil | refine wks_cons ?_ ?_ | refine wk_tup ?_ | refine wk_agg ?_)))
    · have hS : newS n = (Dsk.empty, 2) := if_neg (by omega)
      rw [hS]
      repeat (first | (refine aw_seq ?_) | (apply w_region (by rfl); (next => (simp (maxSteps := 2000000) (disch := omega) only [go_sem] <;> exact rfl))) | (refine w_nil ?_) | (refine w_hold2 ?_) | (refine w_then ?_) | (refine w_thenR ?_) | (refine aw_ret ?_) | (apply w_end; (next => (simp (maxSteps := 2000000) (disch := omega) only [go_sem, Try.f31] <;> exact rfl))) | (apply w_condT; (next => (simp (maxSteps := 2000000) (disch := omega) only [go_sem] <;> done))))
      (simp (maxSteps := 2000000) (disch := omega) only [go_sem, noId_c, noId_agg, noId_tup, noId_snap, encL_noIdE, sec_noIdE, List.drop_zero, List.take_length, encL_nil, Dsk.empty]; (repeat (first | exact .refl _ | exact .nil | exact wks_nil | refine wks_cons ?_ ?_ | refine wk_tup ?_ | refine wk_agg ?_)))
  · have hS : newS n = (Dsk.empty, 2) := if_neg (by omega)
    rw [hS]
    repeat (first | (refine aw_seq ?_) | (apply w_region (by rfl); (next => (simp (maxSteps := 2000000) (disch := omega) only [go_sem] <;> exact rfl))) | (refine w_nil ?_) | (refine w_hold2 ?_) | (refine w_then ?_) | (refine w_thenR ?_) | (refine aw_ret ?_) | (apply w_end; (next => (simp (maxSteps := 2000000) (disch := omega) only [go_sem, Try.f31] <;> exact rfl))) | (apply w_condT; (next => (simp (maxSteps := 2000000) (disch := omega) only [go_sem] <;> done))))
    (simp (maxSteps := 2000000) (disch := omega) only [go_sem, noId_c, noId_agg, noId_tup, noId_snap, encL_noIdE, sec_noIdE, List.drop_zero, List.take_length, encL_nil, Dsk.empty]; (repeat (first | exact .refl _ | exact .nil | exact wks_nil | refine wks_cons ?_ ?_ | refine wk_tup ?_ | refine wk_agg ?_)))

theorem rnew_p (n : Int) : PCall Try.prog 32 [zV n] (· = .tup [.agg (encD (newS n).1), zV (newS n).2]) := by
  refine PCall.wk ?_ (de_noId _ _)
  refine pcall Try.func32 rfl (by kernel_rfl) (by simp [Try.ntmps32]) ?_
  rw [Try.ntmps32]
  by_cases h1 : 0 ≤ n
  · by_cases h2 : n ≤ 4096
    · have hS : newS n = (⟨List.replicate n.toNat zSec, []⟩, 0) := if_pos ⟨h1, h2⟩
      rw [hS]
      repeat (first | (refine aw_seq ?_) | (apply w_region (by rfl); (next => (simp (maxSteps := 2000000) (disch := omega) only [go_sem] <;> exact rfl))) | (refine w_nil ?_) | (refine w_hold2 ?_) | (refine w_then ?_) | (refine aw_skip ?_) | (refine aw_ret ?_) | (apply w_end; (next => (simp (maxSteps := 2000000) (disch := omega) only [go_sem, Try.f32] <;> exact rfl))) | (apply w_condF; (next => (simp (maxSteps := 2000000) (disch := omega) only [go_sem] <;> done))))
      (simp (maxSteps := 2000000) (disch := omega) only [go_sem, noId_c, noId_agg, noId_tup, noId_snap, encL_noIdE, sec_noIdE, List.drop_zero, List.take_length, encL_nil, List.length_replicate, List.take_replicate, Nat.min_self]; (repeat (first | exact .refl _ | exact .nil | exact wks_nil | refine wks_cons ?_ ?_ | refine wk_tup ?_ | refine wk_agg ?_)))
    · have hS : newS n = (Dsk.empty, 2) := if_neg (by omega)
      rw [hS]
      repeat (first | (refine aw_seq ?_) | (apply w_region (by rfl); (next => (simp (maxSteps := 2000000) (disch := omega) only [go_sem] <;> exact rfl))) | (refine w_nil ?_) | (refine w_hold2 ?_) | (refine w_then ?_) | (refine w_thenR ?_) | (refine aw_ret ?_) | (apply w_end; (next => (simp (maxSteps := 2000000) (disch := omega) only [go_sem, Try.f32] <;> exact rfl))) | (apply w_condT; (next => (simp (maxSteps := 2000000) (disch := omega) only [go_sem] <;> done))))
      (simp (maxSteps := 2000000) (disch := omega) only [go_sem, noId_c, noId_agg, noId_tup, noId_snap, encL_noIdE, sec_noIdE, List.drop_zero, List.take_length, encL_nil, Dsk.empty]; (repeat (first | exact .refl _ | exact .nil | exact wks_nil | refine wks_cons ?_ ?_ | refine wk_tup ?_ | refine wk_agg ?_)))
  · have hS : newS n = (Dsk.empty, 2) := if_neg (by omega)
    rw [hS]
    repeat (first | (refine aw_seq ?_) | (apply w_region (by rfl); (next => (simp (maxSteps := 2000000) (disch := omega) only [go_sem] <;> exact rfl))) | (refine w_nil ?_) | (refine w_hold2 ?_) | (refine w_then ?_) | (refine w_thenR ?_) | (refine aw_ret ?_) | (apply w_end; (next => (simp (maxSteps := 2000000) (disch := omega) only [go_sem, Try.f32] <;> exact rfl))) | (apply w_condT; (next => (simp (maxSteps := 2000000) (disch := omega) only [go_sem] <;> done))))
    (simp (maxSteps := 2000000) (disch := omega) only [go_sem, noId_c, noId_agg, noId_tup, noId_snap, encL_noIdE, sec_noIdE, List.drop_zero, List.take_length, encL_nil, Dsk.empty]; (repeat (first | exact .refl _ | exact .nil | exact wks_nil | refine wks_cons ?_ ?_ | refine wk_tup ?_ | refine wk_agg ?_)))

theorem sector_p (b : Int) : PCall Try.prog 39 [uV b] (· = .agg (encSec (secOf b))) := by
  refine pcall Try.func39 rfl (by kernel_rfl) (by simp [Try.ntmps39]) ?_
  rw [Try.ntmps39]
  repeat (first | (refine aw_seq ?_) | (apply w_region (by rfl); (next => (simp (maxSteps := 2000000) (disch := omega) only [go_sem, encSec, zSec] <;> exact rfl))) | (refine w_nil ?_) | (refine w_hold2 ?_) | (refine w_then ?_) | (refine aw_ret ?_) | (apply w_end; (next => (simp (maxSteps := 2000000) (disch := omega) only [go_sem, encSec, zSec, Try.f39] <;> exact rfl))))
  (simp (maxSteps := 2000000) (disch := omega) only [go_sem, noId_c, noId_agg, noId_tup, noId_snap, encL_noIdE, sec_noIdE, encSec, zSec, secOf] <;> simp [encSec, secOf])

theorem opw_p (a : Int) (data : List Sec) : PCall Try.prog 40 [zV a, .snap (encL encSec data)] (· = .agg (encOp ⟨0, a, data⟩)) := by
  refine pcall Try.func40 rfl (by kernel_rfl) (by simp [Try.ntmps40]) ?_
  rw [Try.ntmps40]
  repeat (first | (refine aw_seq ?_) | (apply w_region (by rfl); (next => (simp (maxSteps := 2000000) (disch := omega) only [go_sem] <;> exact rfl))) | (refine w_nil ?_) | (refine w_hold2 ?_) | (refine w_then ?_) | (refine aw_ret ?_) | (apply w_end; (next => (simp (maxSteps := 2000000) (disch := omega) only [go_sem, Try.f40] <;> exact rfl))))
  (simp (maxSteps := 2000000) (disch := omega) only [go_sem, noId_c, noId_agg, noId_tup, noId_snap, encL_noIdE, sec_noIdE] <;> simp [])

theorem opsync_p  : PCall Try.prog 29 [] (· = .agg (encOp ⟨1, 0, []⟩)) := by
  refine PCall.wk ?_ (op_noId _)
  refine pcall Try.func29 rfl (by kernel_rfl) (by simp [Try.ntmps29]) ?_
  rw [Try.ntmps29]
  repeat (first | (refine aw_seq ?_) | (apply w_region (by rfl); (next => (simp (maxSteps := 2000000) (disch := omega) only [go_sem] <;> exact rfl))) | (refine w_nil ?_) | (refine w_hold2 ?_) | (refine w_then ?_) | (refine aw_ret ?_) | (apply w_end; (next => (simp (maxSteps := 2000000) (disch := omega) only [go_sem, Try.f29] <;> exact rfl))))
  (simp (maxSteps := 2000000) (disch := omega) only [go_sem, noId_c, noId_agg, noId_tup, noId_snap, encL_noIdE, sec_noIdE, List.drop_zero, List.take_length, encL_nil]; (repeat (first | exact .refl _ | exact .nil | exact wks_nil | refine wks_cons ?_ ?_ | refine wk_tup ?_ | refine wk_agg ?_)))

theorem crashed_p (hcr : CrashSaid) (d : Dsk) (c : List Int) (hc : c.length ≤ 1000000) (hL : d.st.length ≤ 1000000) (hC : d.ca.length ≤ 400000) : PCall Try.prog 41 [.agg (encD d), .snap (encL intRow c)] (· = .snap (encL encSec (crashS d c).1.st)) := by
  refine PCall.wk ?_ (encL_noId _)
  refine pcall Try.func41 rfl (by kernel_rfl) (by simp [Try.ntmps41]) ?_
  rw [Try.ntmps41]
  repeat (first | (refine aw_seq ?_) | (apply w_region (by rfl); (next => (simp (maxSteps := 2000000) (disch := omega) only [go_sem] <;> exact rfl))) | (refine w_nil ?_) | (refine w_hold2 ?_) | (refine w_then ?_) | (refine aw_ret ?_) | (apply w_end; (next => (simp (maxSteps := 2000000) (disch := omega) only [go_sem, Try.f41] <;> exact rfl))) | (apply w_callP (hop := rfl) (hg := rfl) (hp := (hcr d c hc hL hC)); (next => (simp (maxSteps := 2000000) (disch := omega) only [go_sem] <;> exact rfl)); (next => (simp [noId_c, noId_agg, noId_snap, noId_tup,encD,sec_noIdE,encL_noId,encL_noIdE,encCa,encOp,encExt]; done)); (next => (simp (maxSteps := 2000000) (disch := omega) only [go_sem] <;> exact rfl))))
  (simp (maxSteps := 2000000) (disch := omega) only [go_sem, noId_c, noId_agg, noId_tup, noId_snap, encL_noIdE, sec_noIdE, List.drop_zero, List.take_length]; (repeat (first | exact .refl _ | exact .nil | exact wks_nil | refine wks_cons ?_ ?_ | refine wk_tup ?_ | refine wk_agg ?_)))


def rightStep (d : Dsk) (o : Opr) : Dsk := if (runS d [o]).2.2 = 0 then (runS d [o]).1 else d
/-- A disk of a size after operations, without those that have errors. -/
def rightS (n : Nat) (ops : List Opr) : Dsk := ops.foldl rightStep ⟨List.replicate (n % 40) zSec, []⟩
def rightTo (n : Nat) (ops : List Opr) (k : Nat) : Dsk := (ops.take k).foldl rightStep ⟨List.replicate (n % 40) zSec, []⟩
theorem rightTo_succ {n : Nat} {ops : List Opr} {k : Nat} (h : k < ops.length) : rightTo n ops (k + 1) = rightStep (rightTo n ops k) (ops.getD k default) := by
  unfold rightTo
  rw [List.take_succ_eq_append_getElem h, List.foldl_append]
  simp [h]
theorem rightStep_bd (d : Dsk) (o : Opr) : (rightStep d o).st.length ≤ d.st.length ∧ (rightStep d o).ca.length ≤ d.ca.length + 4096 := by
  unfold rightStep
  split
  · have := runS_bd d [o]
    simpa using this
  · exact ⟨Nat.le_refl _, by omega⟩
theorem rightTo_bd (n : Nat) (ops : List Opr) : ∀ k, k ≤ ops.length → (rightTo n ops k).st.length ≤ 40 ∧ (rightTo n ops k).ca.length ≤ k * 4096
  | 0, _ => by
    have := Nat.mod_lt n (show 0 < 40 by omega)
    simp [rightTo]; omega
  | k + 1, h => by
    obtain ⟨h1, h2⟩ := rightTo_bd n ops k (by omega)
    have h3 := rightStep_bd (rightTo n ops k) (ops.getD k default)
    rw [rightTo_succ (by omega)]
    omega
/-- What the disk's block holds: the disk, or what the size made, still in a block of its own. -/
def RV0 (d : Dsk) (v : List AV) (b1 : Option Blk) : Prop :=
  (v = encD d ∧ b1 = none) ∨ (∃ w f, v = [.own 1 0 d.st.length, .c (.slice none 0 0)] ∧ b1 = some (.cells 65 8 (encL encSec d.st) w f) ∧ d.ca = [])
def HeadT (n0 : Nat) (ops : List Opr) (n : Nat) (env : List (Nat × Bool × AV)) (H : Heap) : Prop :=
  ∃ k N v b1, n = ops.length - k ∧ k ≤ ops.length ∧ 4 ≤ N ∧ RV0 (rightTo n0 ops k) v b1 ∧
    env = [(18, true, zV (k : Int)), (17, true, zV (ops.length : Int)), (16, true, .snap (encL encOp ops)), (5, true, .ptr 2 0 0), (4, true, .ptr 0 0 0)] ∧
    H = ⟨N, tabG [(0, some (.cells 25 2 [[.c (.slice none 0 0), .c (.slice none 0 0)]] true false)), (1, b1), (2, some (.cells 25 2 [v] true false))]⟩
theorem encSec_z : encSec zSec = [.c (.int .u8 0), .c (.int .u8 0), .c (.int .u8 0), .c (.int .u8 0), .c (.int .u8 0), .c (.int .u8 0), .c (.int .u8 0), .c (.int .u8 0)] := rfl
theorem encL_rep {m : Nat} {x : Sec} : encL encSec (List.replicate m x) = List.replicate m (encSec x) := by simp [encL]
theorem rightTo_zero {n : Nat} {ops : List Opr} : rightTo n ops 0 = ⟨List.replicate (n % 40) zSec, []⟩ := rfl
theorem rightTo_all {n : Nat} {ops : List Opr} : rightTo n ops ops.length = rightS n ops := by simp [rightTo, rightS]

theorem right_p (n : Nat) (ops : List Opr) (hn : n < 256) (hO : ops.length ≤ 60) : PCall Try.prog 27 [.c (.int .u8 (n : Int)), .snap (encL encOp ops)] (· = .agg (encD (rightS n ops))) := by
  refine PCall.wk ?_ (d_noId _)
  refine pcall Try.func27 rfl (by kernel_rfl) (by simp [Try.ntmps27]) ?_
  rw [Try.ntmps27]
  repeat (first | (refine aw_seq ?_) | (apply w_region (by rfl); (next => (simp (maxSteps := 2000000) (disch := omega) only [go_sem] <;> exact rfl))) | (refine w_nil ?_) | (refine w_then ?_) | (refine aw_block ?_))
  refine w_loop (HeadT n ops) ops.length ?_ ?_
  · refine ⟨_, _, ⟨0, 1000, [.own 1 0 (rightTo n ops 0).st.length, .c (.slice none 0 0)], some (.cells 65 8 (encL encSec (rightTo n ops 0).st) true true), by omega, by omega, by omega, .inr ⟨_, _, rfl, rfl, rfl⟩, rfl, rfl⟩, ?_⟩
    rw [rightTo_zero]
    refine holds_cons (by rfl) (holds_cons (by rfl) (holds_cons (by rfl) (holds_cons (by rfl) (holds_cons (by rfl) (holds_nil (by simp only []; omega) (sub_cons (by (first | rfl | (simp (disch := omega) only [go_sem, encD, encL_rep, encSec_z, List.length_replicate]; done) | (simp (disch := omega) only [go_sem, encD, encL_rep, encSec_z, List.length_replicate]; rfl))) (sub_cons (by (first | rfl | (simp (disch := omega) only [go_sem, encD, encL_rep, encSec_z, List.length_replicate]; done) | (simp (disch := omega) only [go_sem, encD, encL_rep, encSec_z, List.length_replicate]; rfl))) (sub_cons (by (first | rfl | (simp (disch := omega) only [go_sem, encD, encL_rep, encSec_z, List.length_replicate]; done) | (simp (disch := omega) only [go_sem, encD, encL_rep, encSec_z, List.length_replicate]; rfl))) (sub_nil)))))))))
  · rintro m env H ⟨k, N, v, b1, rfl, hk, hN, hv, rfl, rfl⟩
    by_cases hlt : k < ops.length
    · have hb := rightTo_bd n ops k hk
      have hs := rightTo_succ (n := n) hlt
      generalize rightTo n ops k = d at hv hb hs
      obtain ⟨st, ca⟩ := d
      simp only [] at hb
      have hrun := run_p ⟨st, ca⟩ [(ops.getD k default)] (by simp only []; omega) (by simp only [List.length_cons, List.length_nil]; omega) (by simp)
      by_cases he : (runS ⟨st, ca⟩ [(ops.getD k default)]).2.2 = 0
      · have hr : rightTo n ops (k + 1) = (runS ⟨st, ca⟩ [(ops.getD k default)]).1 := by rw [hs]; exact if_pos he
        rcases hv with ⟨rfl, rfl⟩ | ⟨w, f, rfl, rfl, hca⟩
        · repeat (first | (refine aw_seq ?_) | (apply w_region (by rfl); (next => (simp (maxSteps := 2000000) (disch := omega) only [go_sem, (encL_get (f := encOp) default), encL_len, List.take_length, he] <;> exact rfl))) | (refine w_nil ?_) | (refine w_then ?_) | (refine aw_skip ?_) | (refine aw_block ?_) | (apply w_condT; (next => (simp (maxSteps := 2000000) (disch := omega) only [go_sem, (encL_get (f := encOp) default), encL_len, List.take_length, he] <;> done))) | (apply w_callX (hop := rfl) (hg := rfl) (hp := hrun); (next => (simp (maxSteps := 2000000) (disch := omega) only [go_sem, (encL_get (f := encOp) default), encL_len, List.take_length, he] <;> exact rfl)); (next => (simp (maxSteps := 2000000) (disch := omega) only [go_sem, (encL_get (f := encOp) default), encL_len, List.take_length, he] <;> exact rfl)); (next => (simp [noId_c, noId_agg, noId_snap, noId_tup,encD,sec_noIdE,encL_noId,encL_noIdE,encCa,encOp,encExt]; done)); (next => (simp (maxSteps := 2000000) (disch := omega) only [go_sem, (encL_get (f := encOp) default), encL_len, List.take_length, he] <;> exact rfl)); (next => (simp (maxSteps := 2000000) (disch := omega) only [go_sem, (encL_get (f := encOp) default), encL_len, List.take_length, he] <;> exact rfl))))
          refine ⟨ops.length - (k + 1), by omega, _, _, ⟨k + 1, N + 1000, _, _, rfl, by omega, by omega, .inl ⟨rfl, rfl⟩, rfl, rfl⟩, ?_⟩
          rw [hr]
          refine holds_cons (by rfl) (holds_cons (by rfl) (holds_cons (by rfl) (holds_cons (by rfl) (holds_cons (by rfl) (holds_nil (by simp only []; omega) (sub_cons (by (first | rfl | (simp (disch := omega) only [go_sem, encD]; done) | (simp (disch := omega) only [go_sem, encD]; rfl))) (sub_none (sub_cons (by (first | rfl | (simp (disch := omega) only [go_sem, encD]; done) | (simp (disch := omega) only [go_sem, encD]; rfl))) (sub_nil)))))))))
        · simp only [] at hca
          have hrun' := lessD' (a := none) (cap := 0) hca hrun
          repeat (first | (refine aw_seq ?_) | (apply w_region (by rfl); (next => (simp (maxSteps := 2000000) (disch := omega) only [go_sem, (encL_get (f := encOp) default), encL_len, List.take_length, he] <;> exact rfl))) | (refine w_nil ?_) | (refine w_then ?_) | (refine aw_skip ?_) | (refine aw_block ?_) | (apply w_condT; (next => (simp (maxSteps := 2000000) (disch := omega) only [go_sem, (encL_get (f := encOp) default), encL_len, List.take_length, he] <;> done))) | (apply w_callX (hop := rfl) (hg := rfl) (hp := hrun'); (next => (simp (maxSteps := 2000000) (disch := omega) only [go_sem, (encL_get (f := encOp) default), encL_len, List.take_length, he] <;> exact rfl)); (next => (simp (maxSteps := 2000000) (disch := omega) only [go_sem, (encL_get (f := encOp) default), encL_len, List.take_length, he] <;> exact rfl)); (next => (simp [noId_c, noId_agg, noId_snap, noId_tup,encD,sec_noIdE,encL_noId,encL_noIdE,encCa,encOp,encExt]; done)); (next => (simp (maxSteps := 2000000) (disch := omega) only [go_sem, (encL_get (f := encOp) default), encL_len, List.take_length, he] <;> exact rfl)); (next => (simp (maxSteps := 2000000) (disch := omega) only [go_sem, (encL_get (f := encOp) default), encL_len, List.take_length, he] <;> exact rfl))))
          refine ⟨ops.length - (k + 1), by omega, _, _, ⟨k + 1, N + 1000, _, _, rfl, by omega, by omega, .inl ⟨rfl, rfl⟩, rfl, rfl⟩, ?_⟩
          rw [hr]
          refine holds_cons (by rfl) (holds_cons (by rfl) (holds_cons (by rfl) (holds_cons (by rfl) (holds_cons (by rfl) (holds_nil (by simp only []; omega) (sub_cons (by (first | rfl | (simp (disch := omega) only [go_sem, encD]; done) | (simp (disch := omega) only [go_sem, encD]; rfl))) (sub_none (sub_cons (by (first | rfl | (simp (disch := omega) only [go_sem, encD]; done) | (simp (disch := omega) only [go_sem, encD]; rfl))) (sub_nil)))))))))
      · have hr : rightTo n ops (k + 1) = ⟨st, ca⟩ := by rw [hs]; exact if_neg he
        rcases hv with ⟨rfl, rfl⟩ | ⟨w, f, rfl, rfl, hca⟩
        · repeat (first | (refine aw_seq ?_) | (apply w_region (by rfl); (next => (simp (maxSteps := 2000000) (disch := omega) only [go_sem, (encL_get (f := encOp) default), encL_len, List.take_length, he] <;> exact rfl))) | (refine w_nil ?_) | (refine w_then ?_) | (refine aw_skip ?_) | (refine aw_block ?_) | (apply w_condT; (next => (simp (maxSteps := 2000000) (disch := omega) only [go_sem, (encL_get (f := encOp) default), encL_len, List.take_length, he] <;> done))) | (apply w_condF; (next => (simp (maxSteps := 2000000) (disch := omega) only [go_sem, (encL_get (f := encOp) default), encL_len, List.take_length, he] <;> done))) | (apply w_callX (hop := rfl) (hg := rfl) (hp := hrun); (next => (simp (maxSteps := 2000000) (disch := omega) only [go_sem, (encL_get (f := encOp) default), encL_len, List.take_length, he] <;> exact rfl)); (next => (simp (maxSteps := 2000000) (disch := omega) only [go_sem, (encL_get (f := encOp) default), encL_len, List.take_length, he] <;> exact rfl)); (next => (simp [noId_c, noId_agg, noId_snap, noId_tup,encD,sec_noIdE,encL_noId,encL_noIdE,encCa,encOp,encExt]; done)); (next => (simp (maxSteps := 2000000) (disch := omega) only [go_sem, (encL_get (f := encOp) default), encL_len, List.take_length, he] <;> exact rfl)); (next => (simp (maxSteps := 2000000) (disch := omega) only [go_sem, (encL_get (f := encOp) default), encL_len, List.take_length, he] <;> exact rfl))))
          refine ⟨ops.length - (k + 1), by omega, _, _, ⟨k + 1, N + 1000, _, _, rfl, by omega, by omega, .inl ⟨rfl, rfl⟩, rfl, rfl⟩, ?_⟩
          rw [hr]
          refine holds_cons (by rfl) (holds_cons (by rfl) (holds_cons (by rfl) (holds_cons (by rfl) (holds_cons (by rfl) (holds_nil (by simp only []; omega) (sub_cons (by (first | rfl | (simp (disch := omega) only [go_sem, encD]; done) | (simp (disch := omega) only [go_sem, encD]; rfl))) (sub_none (sub_cons (by (first | rfl | (simp (disch := omega) only [go_sem, encD]; done) | (simp (disch := omega) only [go_sem, encD]; rfl))) (sub_nil)))))))))
        · simp only [] at hca
          have hrun' := lessD' (a := none) (cap := 0) hca hrun
          repeat (first | (refine aw_seq ?_) | (apply w_region (by rfl); (next => (simp (maxSteps := 2000000) (disch := omega) only [go_sem, (encL_get (f := encOp) default), encL_len, List.take_length, he] <;> exact rfl))) | (refine w_nil ?_) | (refine w_then ?_) | (refine aw_skip ?_) | (refine aw_block ?_) | (apply w_condT; (next => (simp (maxSteps := 2000000) (disch := omega) only [go_sem, (encL_get (f := encOp) default), encL_len, List.take_length, he] <;> done))) | (apply w_condF; (next => (simp (maxSteps := 2000000) (disch := omega) only [go_sem, (encL_get (f := encOp) default), encL_len, List.take_length, he] <;> done))) | (apply w_callX (hop := rfl) (hg := rfl) (hp := hrun'); (next => (simp (maxSteps := 2000000) (disch := omega) only [go_sem, (encL_get (f := encOp) default), encL_len, List.take_length, he] <;> exact rfl)); (next => (simp (maxSteps := 2000000) (disch := omega) only [go_sem, (encL_get (f := encOp) default), encL_len, List.take_length, he] <;> exact rfl)); (next => (simp [noId_c, noId_agg, noId_snap, noId_tup,encD,sec_noIdE,encL_noId,encL_noIdE,encCa,encOp,encExt]; done)); (next => (simp (maxSteps := 2000000) (disch := omega) only [go_sem, (encL_get (f := encOp) default), encL_len, List.take_length, he] <;> exact rfl)); (next => (simp (maxSteps := 2000000) (disch := omega) only [go_sem, (encL_get (f := encOp) default), encL_len, List.take_length, he] <;> exact rfl))))
          refine ⟨ops.length - (k + 1), by omega, _, _, ⟨k + 1, N + 1000, [.own 1 0 st.length, .c (.slice none 0 0)], some (.cells 65 8 (encL encSec st) false f), rfl, by omega, by omega, by rw [hr]; exact .inr ⟨_, _, rfl, rfl, hca⟩, rfl, rfl⟩, ?_⟩
          refine holds_cons (by rfl) (holds_cons (by rfl) (holds_cons (by rfl) (holds_cons (by rfl) (holds_cons (by rfl) (holds_nil (by simp only []; omega) (sub_cons (by (first | rfl | (simp (disch := omega) only [go_sem, encD]; done) | (simp (disch := omega) only [go_sem, encD]; rfl))) (sub_cons (by (first | rfl | (simp (disch := omega) only [go_sem, encD]; done) | (simp (disch := omega) only [go_sem, encD]; rfl))) (sub_cons (by (first | rfl | (simp (disch := omega) only [go_sem, encD]; done) | (simp (disch := omega) only [go_sem, encD]; rfl))) (sub_nil)))))))))
    · obtain rfl : k = ops.length := by omega
      rw [rightTo_all] at hv
      generalize rightS n ops = d at hv ⊢
      obtain ⟨st, ca⟩ := d
      rcases hv with ⟨rfl, rfl⟩ | ⟨w, f, rfl, rfl, hca⟩
      · repeat (first | (refine aw_seq ?_) | (apply w_region (by rfl); (next => (simp (maxSteps := 2000000) (disch := omega) only [go_sem, (encL_get (f := encOp) default), encL_len, List.take_length] <;> exact rfl))) | (refine w_nil ?_) | (refine w_hold2 ?_) | (refine w_then ?_) | (refine aw_ret ?_) | (refine aw_exit ?_) | (apply w_end; (next => (simp (maxSteps := 2000000) (disch := omega) only [go_sem, (encL_get (f := encOp) default), encL_len, List.take_length, Try.f27] <;> exact rfl))) | (apply w_condF; (next => (simp (maxSteps := 2000000) (disch := omega) only [go_sem, (encL_get (f := encOp) default), encL_len, List.take_length] <;> done))))
        (simp (maxSteps := 2000000) (disch := omega) only [go_sem, noId_c, noId_agg, noId_tup, noId_snap, encL_noIdE, sec_noIdE, List.drop_zero, List.take_length]; (repeat (first | exact .refl _ | exact .nil | exact wks_nil | refine wks_cons ?_ ?_ | refine wk_tup ?_ | refine wk_agg ?_)))
      · simp only [] at hca
        subst hca
        repeat (first | (refine aw_seq ?_) | (apply w_region (by rfl); (next => (simp (maxSteps := 2000000) (disch := omega) only [go_sem, (encL_get (f := encOp) default), encL_len, List.take_length] <;> exact rfl))) | (refine w_nil ?_) | (refine w_hold2 ?_) | (refine w_then ?_) | (refine aw_ret ?_) | (refine aw_exit ?_) | (apply w_end; (next => (simp (maxSteps := 2000000) (disch := omega) only [go_sem, (encL_get (f := encOp) default), encL_len, List.take_length, Try.f27] <;> exact rfl))) | (apply w_condF; (next => (simp (maxSteps := 2000000) (disch := omega) only [go_sem, (encL_get (f := encOp) default), encL_len, List.take_length] <;> done))))
        (simp (maxSteps := 2000000) (disch := omega) only [go_sem, noId_c, noId_agg, noId_tup, noId_snap, encL_noIdE, sec_noIdE, List.drop_zero, List.take_length, encL_nil, encL_len, List.take_length]; (repeat (first | exact .refl _ | exact .nil | exact wks_nil | refine wks_cons ?_ ?_ | refine wk_tup ?_ | refine wk_agg ?_)))

end Go.Proofs.Ytniccdnhjbnaeaa
