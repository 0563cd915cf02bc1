/- The laws DiskSurvives and DiskReturns. No condition but those named. -/
import Derived.Test.YtniccdnhjbnaeaaDh
import Derived.KernelRfl
namespace Go.Proofs.Ytniccdnhjbnaeaa
open Go.Proofs Go.AL
set_option maxRecDepth 100000
set_option maxHeartbeats 1000000
set_option linter.unusedVariables false
set_option linter.unusedSimpArgs false
attribute [local irreducible] endA AW aops thenA blockA hold
attribute [local go_sem] dec_ltT dec_ltF dec_leT dec_leF beq_T beq_F bne_T bne_F encD encCa

attribute [local go_sem] keepE keepT
set_option maxHeartbeats 4000000

theorem vers_mem {ca : List (Int × Sec)} {i : Int} {s : Sec} (h : s ∈ versS ca i) : ∃ x ∈ ca, x.1 = i ∧ x.2 = s := by
  unfold versS at h
  obtain ⟨x, hx, rfl⟩ := List.mem_map.1 h
  obtain ⟨h1, h2⟩ := List.mem_filter.1 hx
  exact ⟨x, h1, by simpa using h2, rfl⟩
theorem crash_surv (ca : List (Int × Sec)) (st : List Sec) (c : List Int) (i : Nat) : ∀ k, (crashTo ca st c k).1.getD i zSec = st.getD i zSec ∨ ∃ x ∈ ca, x.1 = (i : Int) ∧ x.2 = (crashTo ca st c k).1.getD i zSec
  | 0 => .inl rfl
  | k + 1 => by
    have ih := crash_surv ca st c i k
    rw [crashTo_succ]
    by_cases hk : k = i
    · subst hk
      generalize crashTo ca st c k = s at ih
      unfold crashStep
      split
      · exact ih
      · rename_i hv
        simp only []
        split
        · rename_i hd
          have hr := decN_rng s.2 (n := ((versS ca k).length : Int) + 1) (by omega)
          by_cases hl : k < s.1.length
          · right
            have : (s.1.set k ((versS ca k).getD ((decN s.2 ((versS ca k).length + 1)).1 - 1).toNat zSec)).getD k zSec = (versS ca k).getD ((decN s.2 ((versS ca k).length + 1)).1 - 1).toNat zSec := by simp [hl]
            rw [this]
            obtain ⟨x, h1, h2, h3⟩ := vers_mem (getD_mem' zSec (show ((decN s.2 ((versS ca k).length + 1)).1 - 1).toNat < (versS ca k).length by omega))
            exact ⟨x, h1, h2, h3⟩
          · rw [List.set_eq_of_length_le (by omega)]; exact ih
        · exact ih
    · rw [crashStep_other _ _ hk]; exact ih
def okS (d : Dsk) (s : Sec) (i q : Nat) : Bool := decide (s = d.st.getD i zSec) || (d.ca.take q).any fun c => decide (c.1 = (i : Int)) && decide (c.2 = s)
theorem okS_succ {d : Dsk} {s : Sec} {i q : Nat} (h : q < d.ca.length) : okS d s i (q + 1) = (okS d s i q || (decide ((d.ca.getD q zCa).1 = (i : Int)) && decide ((d.ca.getD q zCa).2 = s))) := by
  unfold okS
  rw [List.take_succ_eq_append_getElem h, List.any_append]
  simp [h, Bool.or_assoc]
theorem okS_all {d : Dsk} (c : List Int) (hd : checkD d = 0) (i : Nat) : okS d ((crashS d c).1.st.getD i zSec) i d.ca.length = true := by
  unfold crashS
  rw [if_pos hd]
  simp only []
  unfold okS
  rw [List.take_length, Bool.or_eq_true, decide_eq_true_eq, List.any_eq_true]
  rcases crash_surv d.ca d.st c i d.st.length with h | ⟨x, h1, h2, h3⟩
  · exact .inl h
  · exact .inr ⟨x, h1, by simp [h2, h3]⟩
theorem uns_sync {d : Dsk} (hd : checkD d = 0) : unsS (syncS d) = [] := by
  obtain ⟨hin, h4⟩ := inAll_of hd
  have hs : syncS d = ⟨newD d, []⟩ := if_pos hd
  have hin2 : inAll ⟨newD d, []⟩ := fun c hc => by cases hc
  have hc : checkD ⟨newD d, []⟩ = 0 := checkD_of hin2 (by simp [newD_len]; omega)
  unfold unsS
  rw [hs, if_pos hc]
  have := lst_gap (setP (fun x y => x || y) (uE []) []) 0 4097 fun z _ _ => rfl
  rw [Nat.zero_add] at this
  exact this
theorem crash_sync {d : Dsk} (c : List Int) (hd : checkD d = 0) : crashS (syncS d) c = (syncS d, c) := by
  obtain ⟨hin, h4⟩ := inAll_of hd
  have hs : syncS d = ⟨newD d, []⟩ := if_pos hd
  have hin2 : inAll ⟨newD d, []⟩ := fun c hc => by cases hc
  have hc : checkD ⟨newD d, []⟩ = 0 := checkD_of hin2 (by simp [newD_len]; omega)
  rw [hs]
  unfold crashS
  rw [if_pos hc]
  have key : ∀ k, crashTo [] (newD d) c k = (newD d, c) := by
    intro k
    induction k with
    | zero => rfl
    | succ k ih => rw [crashTo_succ, ih]; unfold crashStep; rw [if_pos (by simp [versS])]
  simp only [key]
theorem cs_ca {d : Dsk} (c : List Int) (hd : checkD d = 0) : (crashS d c).1.ca = [] := by unfold crashS; rw [if_pos hd]
def HeadSo (d : Dsk) (st : List Sec) (c : List Int) (n : Nat) (env : List (Nat × Bool × AV)) (H : Heap) : Prop :=
  ∃ (i N : Nat), n = d.st.length - i ∧ i ≤ d.st.length ∧ 50 < N ∧ env = [(52, true, zV (i : Int)), (51, true, zV (d.st.length : Int)), (50, true, .snap (encL encSec st)), (7, true, .ptr 0 0 0), (2, true, .snap (encL intRow c))] ∧
    H = ⟨N, tabG [(0, some (.cells 25 2 [encD d] true false))]⟩
def HeadSi (d : Dsk) (st : List Sec) (c : List Int) (i M : Nat) (n : Nat) (env : List (Nat × Bool × AV)) (H : Heap) : Prop :=
  ∃ (q N : Nat), n = d.ca.length - q ∧ q ≤ d.ca.length ∧ M < N ∧ env = [(67, true, zV (q : Int)), (66, true, zV (d.ca.length : Int)), (65, true, .snap (encL encCa d.ca)), (12, true, bV (okS d (st.getD i zSec) i q)), (11, true, .ptr M 0 0), (10, true, zV (i : Int)), (52, true, zV (i : Int)), (51, true, zV (d.st.length : Int)), (50, true, .snap (encL encSec st)), (7, true, .ptr 0 0 0), (2, true, .snap (encL intRow c))] ∧
    H = ⟨N, tabG [(0, some (.cells 25 2 [encD d] true false)), (M, some (.cells 65 8 [encSec (st.getD i zSec)] true false))]⟩

theorem law10_p (n : Nat) (ops : List Opr) (c : List Int) (hn : n < 256) (hol : ops.length ≤ 9223372036854775807) (hcl : c.length ≤ 9223372036854775807) : PCall Try.prog 10 [.c (.int .u8 (n : Int)), .snap (encL encOp ops), .snap (encL intRow c)] (· = bV true) := by
  refine pcall Try.func10 rfl (by kernel_rfl) (by simp [Try.ntmps10]) ?_
  rw [Try.ntmps10]
  cases hb0 : fewOps ops
  · repeat (first | (refine aw_seq ?_) | (apply w_region (by rfl); (next => (simp (maxSteps := 2000000) (disch := omega) only [go_sem, hb0] <;> exact rfl))) | (refine w_nil ?_) | (refine w_hold2 ?_) | (refine w_then ?_) | (refine w_thenR ?_) | (refine aw_ret ?_) | (apply w_end; (next => (simp (maxSteps := 2000000) (disch := omega) only [go_sem, hb0, Try.f10] <;> exact rfl))) | (apply w_condT; (next => (simp (maxSteps := 2000000) (disch := omega) only [go_sem, hb0] <;> done))) | (apply w_callP (hop := rfl) (hg := rfl) (hp := (fewOps_p ops hol)); (next => (simp (maxSteps := 2000000) (disch := omega) only [go_sem, hb0] <;> exact rfl)); (next => (simp [noId_c, noId_agg, noId_snap, noId_tup,encD,sec_noIdE,encL_noId,encL_noIdE,encCa,encOp,encExt]; done)); (next => (simp (maxSteps := 2000000) (disch := omega) only [go_sem, hb0] <;> exact rfl))) | (apply w_callP (hop := rfl) (hg := rfl) (hp := awake_p); (next => (simp (maxSteps := 2000000) (disch := omega) only [go_sem, hb0] <;> exact rfl)); (next => (simp [noId_c, noId_agg, noId_snap, noId_tup,encD,sec_noIdE,encL_noId,encL_noIdE,encCa,encOp,encExt]; done)); (next => (simp (maxSteps := 2000000) (disch := omega) only [go_sem, hb0] <;> exact rfl))))
    (simp (maxSteps := 2000000) (disch := omega) only [go_sem, noId_c, noId_agg, noId_tup, noId_snap, encL_noIdE, sec_noIdE, List.drop_zero, List.take_length]; (repeat (first | exact .refl _ | exact .nil | exact wks_nil | refine wks_cons ?_ ?_ | refine wk_tup ?_ | refine wk_agg ?_)))
  · have ho := fewOps_len hb0
    by_cases hc4 : c.length ≤ 400
    · have c1 := right_p n ops hn (by omega)
      obtain ⟨hch, hst, hca⟩ := right_ok n ops
      generalize rightS n ops = d at *
      have c2 := crashSaid d c (by omega) (by omega) (by omega)
      have hok := fun i => okS_all c hch i
      have hcs := cs_ca c hch
      have hcs2 := crashS_len d c
      have hxs : ∃ st, (crashS d c).1 = ⟨st, []⟩ ∧ st.length = d.st.length := ⟨(crashS d c).1.st, by rw [← hcs], hcs2⟩
      obtain ⟨st, hx1, hx2⟩ := hxs
      rw [hx1] at hok c2
      generalize (crashS d c).2 = left at c2
      have c3 := sync_p d (by omega) (by omega)
      have hsb := syncS_bd d
      have c4 := crashSaid (syncS d) c (by omega) (by omega) (by omega)
      rw [crash_sync c hch] at c4
      have c5 := same_p (syncS d) (syncS d) (by omega) (by omega) (by omega) (by omega)
      rw [sameD_self] at c5
      have c6 := sameInts_p c c (by omega) (by omega)
      have hdc : decide (c = c) = true := by simp
      rw [hdc] at c6
      have c7 := uns_p (syncS d) (by omega) (by omega)
      rw [uns_sync hch] at c7
      generalize syncS d = SY at *
      repeat (first | (refine aw_seq ?_) | (apply w_region (by rfl); (next => (simp (maxSteps := 2000000) (disch := omega) only [go_sem, hb0, hx2] <;> exact rfl))) | (refine w_nil ?_) | (refine w_then ?_) | (refine aw_skip ?_) | (refine aw_block ?_) | (apply w_condF; (next => (simp (maxSteps := 2000000) (disch := omega) only [go_sem, hb0, hx2] <;> done))) | (apply w_callP (hop := rfl) (hg := rfl) (hp := (fewOps_p ops hol)); (next => (simp (maxSteps := 2000000) (disch := omega) only [go_sem, hb0, hx2] <;> exact rfl)); (next => (simp [noId_c, noId_agg, noId_snap, noId_tup,encD,sec_noIdE,encL_noId,encL_noIdE,encCa,encOp,encExt]; done)); (next => (simp (maxSteps := 2000000) (disch := omega) only [go_sem, hb0, hx2] <;> exact rfl))) | (apply w_callP (hop := rfl) (hg := rfl) (hp := c1); (next => (simp (maxSteps := 2000000) (disch := omega) only [go_sem, hb0, hx2] <;> exact rfl)); (next => (simp [noId_c, noId_agg, noId_snap, noId_tup,encD,sec_noIdE,encL_noId,encL_noIdE,encCa,encOp,encExt]; done)); (next => (simp (maxSteps := 2000000) (disch := omega) only [go_sem, hb0, hx2] <;> exact rfl))) | (apply w_callP (hop := rfl) (hg := rfl) (hp := c2); (next => (simp (maxSteps := 2000000) (disch := omega) only [go_sem, hb0, hx2] <;> exact rfl)); (next => (simp [noId_c, noId_agg, noId_snap, noId_tup,encD,sec_noIdE,encL_noId,encL_noIdE,encCa,encOp,encExt]; done)); (next => (simp (maxSteps := 2000000) (disch := omega) only [go_sem, hb0, hx2] <;> exact rfl))))
      have hok' : ∀ i : Nat, okS d (st.getD i zSec) i d.ca.length = true := hok
      refine w_loop (HeadSo d st c) d.st.length ?_ ?_
      · refine ⟨_, _, ⟨0, 1000, by omega, by omega, by omega, rfl, rfl⟩, ?_⟩
        refine holds_cons (by rfl) (holds_cons (by rfl) (holds_cons (by rfl) (holds_cons (by rfl) (holds_cons (by rfl) (holds_nil (by simp only []; omega) (sub_cons (by (first | rfl | (simp (disch := omega) only [go_sem, encD]; done) | (simp (disch := omega) only [go_sem, encD]; rfl))) (sub_nil)))))))
      · rintro n' env H ⟨i, N, rfl, hi, hN, rfl, rfl⟩
        by_cases hil : i < d.st.length
        · have hz : okS d (st.getD i zSec) i 0 = decide (st.getD i zSec = d.st.getD i zSec) := by simp [okS]
          repeat (first | (refine aw_seq ?_) | (apply w_region (by rfl); (next => (simp (maxSteps := 2000000) (disch := omega) only [go_sem, (encL_get (f := encSec) zSec), hx2] <;> exact rfl))) | (apply w_draw (by kernel_rfl) (by kernel_rfl) (by rfl); (case hr => (apply d_run; (next => (simp (maxSteps := 2000000) (disch := omega) only [go_sem, (encL_get (f := encSec) zSec), hx2] <;> exact rfl)); exact d_nil)); (case hdyn => (simp (maxSteps := 2000000) (disch := omega) only [go_sem, nbeq_F, nbeq_T, (encL_get (f := encSec) zSec), hx2] <;> kernel_rfl))) | (refine w_nil ?_) | (refine w_then ?_) | (refine aw_skip ?_) | (refine aw_block ?_) | (apply w_condT; (next => (simp (maxSteps := 2000000) (disch := omega) only [go_sem, (encL_get (f := encSec) zSec), hx2] <;> done))))
          refine w_loop (HeadSi d st c i N) d.ca.length ?_ ?_
          · refine ⟨_, _, ⟨0, N + 1000, by omega, by omega, by omega, rfl, rfl⟩, ?_⟩
            rw [hz]
            refine holds_cons (by rfl) (holds_cons (by rfl) (holds_cons (by rfl) (holds_cons (by rfl) (holds_cons (by rfl) (holds_cons (by rfl) (holds_cons (by rfl) (holds_cons (by rfl) (holds_cons (by rfl) (holds_cons (by rfl) (holds_cons (by rfl) (holds_nil (by simp only []; omega) (sub_cons (by (first | rfl | (simp (disch := omega) only [go_sem, encD]; done) | (simp (disch := omega) only [go_sem, encD]; rfl))) (sub_cons (by (first | rfl | (simp (disch := omega) only [go_sem, encD]; done) | (simp (disch := omega) only [go_sem, encD]; rfl))) (sub_nil))))))))))))))
          · rintro n' env H ⟨q, N2, rfl, hq, hN2, rfl, rfl⟩
            by_cases hql : q < d.ca.length
            · have hs := okS_succ (d := d) (s := st.getD i zSec) (i := i) hql
              cases hb : okS d (st.getD i zSec) i q
              · rw [hb, Bool.false_or] at hs
                by_cases h1 : (d.ca.getD q zCa).1 = (i : Int)
                · rw [decide_eq_true h1, Bool.true_and] at hs
                  repeat (first | (refine aw_seq ?_) | (apply w_region (by rfl); (next => (simp (maxSteps := 2000000) (disch := omega) only [go_sem, (encL_get (f := encCa) zCa), (encL_get (f := encSec) zSec), hx2, h1] <;> exact rfl))) | (refine w_nil ?_) | (refine w_then ?_) | (refine w_blockN ?_) | (refine aw_skip ?_) | (refine aw_block ?_) | (apply w_condT; (next => (simp (maxSteps := 2000000) (disch := omega) only [go_sem, (encL_get (f := encCa) zCa), (encL_get (f := encSec) zSec), hx2, h1] <;> done))))
                  refine ⟨d.ca.length - (q + 1), by omega, _, _, ⟨q + 1, N2 + 1000, rfl, by omega, by omega, rfl, rfl⟩, ?_⟩
                  rw [hs]
                  refine holds_cons (by rfl) (holds_cons (by rfl) (holds_cons (by rfl) (holds_cons (by rfl) (holds_cons (by rfl) (holds_cons (by rfl) (holds_cons (by rfl) (holds_cons (by rfl) (holds_cons (by rfl) (holds_cons (by rfl) (holds_cons (by rfl) (holds_nil (by simp only []; omega) (sub_cons (by (first | rfl | (simp (disch := omega) only [go_sem, encD]; done) | (simp (disch := omega) only [go_sem, encD]; rfl))) (sub_cons (by (first | rfl | (simp (disch := omega) only [go_sem, encD]; done) | (simp (disch := omega) only [go_sem, encD]; rfl))) (sub_nil))))))))))))))
                · rw [decide_eq_false h1, Bool.false_and] at hs
                  repeat (first | (refine aw_seq ?_) | (apply w_region (by rfl); (next => (simp (maxSteps := 2000000) (disch := omega) only [go_sem, (encL_get (f := encCa) zCa), (encL_get (f := encSec) zSec), hx2] <;> exact rfl))) | (refine w_nil ?_) | (refine w_then ?_) | (refine w_blockN ?_) | (refine aw_skip ?_) | (refine aw_block ?_) | (apply w_condT; (next => (simp (maxSteps := 2000000) (disch := omega) only [go_sem, (encL_get (f := encCa) zCa), (encL_get (f := encSec) zSec), hx2] <;> done))))
                  refine ⟨d.ca.length - (q + 1), by omega, _, _, ⟨q + 1, N2 + 1000, rfl, by omega, by omega, rfl, rfl⟩, ?_⟩
                  rw [hs]
                  refine holds_cons (by rfl) (holds_cons (by rfl) (holds_cons (by rfl) (holds_cons (by rfl) (holds_cons (by rfl) (holds_cons (by rfl) (holds_cons (by rfl) (holds_cons (by rfl) (holds_cons (by rfl) (holds_cons (by rfl) (holds_cons (by rfl) (holds_nil (by simp only []; omega) (sub_cons (by (first | rfl | (simp (disch := omega) only [go_sem, encD]; done) | (simp (disch := omega) only [go_sem, encD]; rfl))) (sub_cons (by (first | rfl | (simp (disch := omega) only [go_sem, encD]; done) | (simp (disch := omega) only [go_sem, encD]; rfl))) (sub_nil))))))))))))))
              · rw [hb, Bool.true_or] at hs
                repeat (first | (refine aw_seq ?_) | (apply w_region (by rfl); (next => (simp (maxSteps := 2000000) (disch := omega) only [go_sem, (encL_get (f := encCa) zCa), (encL_get (f := encSec) zSec), hx2] <;> exact rfl))) | (refine w_nil ?_) | (refine w_then ?_) | (refine w_blockN ?_) | (refine aw_skip ?_) | (refine aw_block ?_) | (apply w_condT; (next => (simp (maxSteps := 2000000) (disch := omega) only [go_sem, (encL_get (f := encCa) zCa), (encL_get (f := encSec) zSec), hx2] <;> done))))
                refine ⟨d.ca.length - (q + 1), by omega, _, _, ⟨q + 1, N2 + 1000, rfl, by omega, by omega, rfl, rfl⟩, ?_⟩
                rw [hs]
                refine holds_cons (by rfl) (holds_cons (by rfl) (holds_cons (by rfl) (holds_cons (by rfl) (holds_cons (by rfl) (holds_cons (by rfl) (holds_cons (by rfl) (holds_cons (by rfl) (holds_cons (by rfl) (holds_cons (by rfl) (holds_cons (by rfl) (holds_nil (by simp only []; omega) (sub_cons (by (first | rfl | (simp (disch := omega) only [go_sem, encD]; done) | (simp (disch := omega) only [go_sem, encD]; rfl))) (sub_cons (by (first | rfl | (simp (disch := omega) only [go_sem, encD]; done) | (simp (disch := omega) only [go_sem, encD]; rfl))) (sub_nil))))))))))))))
            · obtain rfl : q = d.ca.length := by omega
              have hoi := hok' i
              repeat (first | (refine aw_seq ?_) | (apply w_region (by rfl); (next => (simp (maxSteps := 2000000) (disch := omega) only [go_sem, hoi] <;> exact rfl))) | (refine w_nil ?_) | (refine w_then ?_) | (refine w_thenE ?_) | (refine w_blockN ?_) | (refine w_blockE ?_) | (refine aw_skip ?_) | (refine aw_exit ?_) | (apply w_condF; (next => (simp (maxSteps := 2000000) (disch := omega) only [go_sem, hoi] <;> done))))
              refine ⟨d.st.length - (i + 1), by omega, _, _, ⟨i + 1, N2 + 1000, rfl, by omega, by omega, rfl, rfl⟩, ?_⟩
              refine holds_cons (by rfl) (holds_cons (by rfl) (holds_cons (by rfl) (holds_cons (by rfl) (holds_cons (by rfl) (holds_nil (by simp only []; omega) (sub_cons (by (first | rfl | (simp (disch := omega) only [go_sem, encD]; done) | (simp (disch := omega) only [go_sem, encD]; rfl))) (sub_nil)))))))
        · repeat (first | (refine aw_seq ?_) | (apply w_region (by rfl); (next => (simp (maxSteps := 2000000) (disch := omega) only [go_sem, hx2] <;> exact rfl))) | (refine w_nil ?_) | (refine w_hold2 ?_) | (refine w_then ?_) | (refine w_thenE ?_) | (refine w_blockE ?_) | (refine aw_ret ?_) | (refine aw_exit ?_) | (apply w_end; (next => (simp (maxSteps := 2000000) (disch := omega) only [go_sem, hx2, Try.f10] <;> exact rfl))) | (apply w_condF; (next => (simp (maxSteps := 2000000) (disch := omega) only [go_sem, hx2] <;> done))) | (apply w_callP (hop := rfl) (hg := rfl) (hp := c3); (next => (simp (maxSteps := 2000000) (disch := omega) only [go_sem, hx2] <;> exact rfl)); (next => (simp [noId_c, noId_agg, noId_snap, noId_tup,encD,sec_noIdE,encL_noId,encL_noIdE,encCa,encOp,encExt]; done)); (next => (simp (maxSteps := 2000000) (disch := omega) only [go_sem, hx2] <;> exact rfl))) | (apply w_callP (hop := rfl) (hg := rfl) (hp := c4); (next => (simp (maxSteps := 2000000) (disch := omega) only [go_sem, hx2] <;> exact rfl)); (next => (simp [noId_c, noId_agg, noId_snap, noId_tup,encD,sec_noIdE,encL_noId,encL_noIdE,encCa,encOp,encExt]; done)); (next => (simp (maxSteps := 2000000) (disch := omega) only [go_sem, hx2] <;> exact rfl))) | (apply w_callP (hop := rfl) (hg := rfl) (hp := c5); (next => (simp (maxSteps := 2000000) (disch := omega) only [go_sem, hx2] <;> exact rfl)); (next => (simp [noId_c, noId_agg, noId_snap, noId_tup,encD,sec_noIdE,encL_noId,encL_noIdE,encCa,encOp,encExt]; done)); (next => (simp (maxSteps := 2000000) (disch := omega) only [go_sem, hx2] <;> exact rfl))) | (apply w_callXG (hop := rfl) (hg := rfl) (hp := c6); (next => (simp (maxSteps := 2000000) (disch := omega) only [go_sem, hx2] <;> done)); (next => (simp (maxSteps := 2000000) (disch := omega) only [go_sem, hx2] <;> exact rfl)); (next => (simp (maxSteps := 2000000) (disch := omega) only [go_sem, hx2] <;> exact rfl)); (next => (simp [noId_c, noId_agg, noId_snap, noId_tup,encD,sec_noIdE,encL_noId,encL_noIdE,encCa,encOp,encExt]; done)); (next => (simp (maxSteps := 2000000) (disch := omega) only [go_sem, hx2] <;> exact rfl)); (next => (simp (maxSteps := 2000000) (disch := omega) only [go_sem, hx2] <;> exact rfl))) | (apply w_callXG (hop := rfl) (hg := rfl) (hp := c7); (next => (simp (maxSteps := 2000000) (disch := omega) only [go_sem, hx2] <;> done)); (next => (simp (maxSteps := 2000000) (disch := omega) only [go_sem, hx2] <;> exact rfl)); (next => (simp (maxSteps := 2000000) (disch := omega) only [go_sem, hx2] <;> exact rfl)); (next => (simp [noId_c, noId_agg, noId_snap, noId_tup,encD,sec_noIdE,encL_noId,encL_noIdE,encCa,encOp,encExt]; done)); (next => (simp (maxSteps := 2000000) (disch := omega) only [go_sem, hx2] <;> exact rfl)); (next => (simp (maxSteps := 2000000) (disch := omega) only [go_sem, hx2] <;> exact rfl))) | (apply w_callXG (hop := rfl) (hg := rfl) (hp := awake_p); (next => (simp (maxSteps := 2000000) (disch := omega) only [go_sem, hx2] <;> done)); (next => (simp (maxSteps := 2000000) (disch := omega) only [go_sem, hx2] <;> exact rfl)); (next => (simp (maxSteps := 2000000) (disch := omega) only [go_sem, hx2] <;> exact rfl)); (next => (simp [noId_c, noId_agg, noId_snap, noId_tup,encD,sec_noIdE,encL_noId,encL_noIdE,encCa,encOp,encExt]; done)); (next => (simp (maxSteps := 2000000) (disch := omega) only [go_sem, hx2] <;> exact rfl)); (next => (simp (maxSteps := 2000000) (disch := omega) only [go_sem, hx2] <;> exact rfl))))
          (simp (maxSteps := 2000000) (disch := omega) only [go_sem, noId_c, noId_agg, noId_tup, noId_snap, encL_noIdE, sec_noIdE, List.drop_zero, List.take_length]; (repeat (first | exact .refl _ | exact .nil | exact wks_nil | refine wks_cons ?_ ?_ | refine wk_tup ?_ | refine wk_agg ?_)))
    · repeat (first | (refine aw_seq ?_) | (apply w_region (by rfl); (next => (simp (maxSteps := 2000000) (disch := omega) only [go_sem, hb0] <;> exact rfl))) | (refine w_nil ?_) | (refine w_hold2 ?_) | (refine w_then ?_) | (refine w_thenR ?_) | (refine aw_ret ?_) | (apply w_end; (next => (simp (maxSteps := 2000000) (disch := omega) only [go_sem, hb0, Try.f10] <;> exact rfl))) | (apply w_condT; (next => (simp (maxSteps := 2000000) (disch := omega) only [go_sem, hb0] <;> done))) | (apply w_callP (hop := rfl) (hg := rfl) (hp := (fewOps_p ops hol)); (next => (simp (maxSteps := 2000000) (disch := omega) only [go_sem, hb0] <;> exact rfl)); (next => (simp [noId_c, noId_agg, noId_snap, noId_tup,encD,sec_noIdE,encL_noId,encL_noIdE,encCa,encOp,encExt]; done)); (next => (simp (maxSteps := 2000000) (disch := omega) only [go_sem, hb0] <;> exact rfl))) | (apply w_callP (hop := rfl) (hg := rfl) (hp := awake_p); (next => (simp (maxSteps := 2000000) (disch := omega) only [go_sem, hb0] <;> exact rfl)); (next => (simp [noId_c, noId_agg, noId_snap, noId_tup,encD,sec_noIdE,encL_noId,encL_noIdE,encCa,encOp,encExt]; done)); (next => (simp (maxSteps := 2000000) (disch := omega) only [go_sem, hb0] <;> exact rfl))))
      (simp (maxSteps := 2000000) (disch := omega) only [go_sem, noId_c, noId_agg, noId_tup, noId_snap, encL_noIdE, sec_noIdE, List.drop_zero, List.take_length]; (repeat (first | exact .refl _ | exact .nil | exact wks_nil | refine wks_cons ?_ ?_ | refine wk_tup ?_ | refine wk_agg ?_)))

end Go.Proofs.Ytniccdnhjbnaeaa

namespace Go.Proofs.Ytniccdnhjbnaeaa
open Go.Proofs Go.AL
set_option maxRecDepth 100000
set_option maxHeartbeats 1000000
set_option linter.unusedVariables false
set_option linter.unusedSimpArgs false
attribute [local irreducible] endA AW aops thenA blockA hold
attribute [local go_sem] dec_ltT dec_ltF dec_leT dec_leF beq_T beq_F bne_T bne_F encD encCa encExt encOp

attribute [local go_sem] keepE keepT
set_option maxHeartbeats 4000000

theorem lst_lastE (p : Int → Bool) (k : Nat) (h : p k = true) : ∃ (u : List (Int × Int)) (s t : Nat), lst p (k + 1) = u ++ [((s : Int), ((t + 1 : Nat) : Int))] ∧ s + t = k := by
  induction k with
  | zero => exact ⟨[], 0, 0, by rw [lst.eq_2, h]; rfl, by omega⟩
  | succ k ih =>
    rw [lst.eq_2, h]
    by_cases h2 : (decide (0 < k + 1) && p (((k + 1 : Nat) : Int) - 1)) = true
    · have h3 : p k = true := by
        have := (Bool.and_eq_true _ _ ▸ h2).2
        rwa [show ((k + 1 : Nat) : Int) - 1 = k by omega] at this
      obtain ⟨u, s, t, h4, h5⟩ := ih h3
      refine ⟨u, s, t + 1, ?_, by omega⟩
      rw [if_pos rfl, if_pos h2, h4, bump_app]
      simp
    · exact ⟨lst p (k + 1), k + 1, 0, by rw [if_pos rfl, if_neg h2]; rfl, by omega⟩
theorem inE_nat (z s t : Nat) (hz : z < 4096) (hst : s + t ≤ 4096) : inE (z : Int) ((s : Int), ((t + 1 : Nat) : Int)) = (decide (s ≤ z) && decide (z < s + t + 1)) := by
  have hw : ∃ b : Bool, wIn ((s : Int), ((t + 1 : Nat) : Int)) = ((s : Int), (if s + t + 1 ≤ 4096 then ((s + t + 1 : Nat) : Int) else 4096), decide ((s : Int) < (if s + t + 1 ≤ 4096 then ((s + t + 1 : Nat) : Int) else 4096))) := by
    refine ⟨true, ?_⟩
    have hto : wTo ((s : Int), ((t + 1 : Nat) : Int)) = (if s + t + 1 ≤ 4096 then ((s + t + 1 : Nat) : Int) else 4096) := by
      unfold wTo
      simp only []
      by_cases h1 : (s : Int) < 0 ∨ ((t + 1 : Nat) : Int) < 4096 - (s : Int)
      · rw [if_pos h1, if_neg (by omega), if_pos (by omega)]; omega
      · rw [if_neg h1]
        by_cases h2 : s + t + 1 ≤ 4096
        · rw [if_pos h2]; omega
        · rw [if_neg h2]
    have hfr : wFrom ((s : Int), ((t + 1 : Nat) : Int)) = (s : Int) := by unfold wFrom; simp only []; rw [if_neg (by omega)]
    unfold wIn
    rw [if_neg (by simp only []; omega), hto, hfr]
  obtain ⟨_, hw⟩ := hw
  unfold inE
  rw [hw]
  by_cases h2 : s + t + 1 ≤ 4096
  · simp only [if_pos h2]
    rw [Bool.eq_iff_iff]
    simp only [Bool.and_eq_true, decide_eq_true_eq]
    omega
  · simp only [if_neg h2]
    rw [Bool.eq_iff_iff]
    simp only [Bool.and_eq_true, decide_eq_true_eq]
    omega
/-- The canonical list holds what is marked. -/
theorem lst_any (p : Int → Bool) (z : Nat) (hz : z < 4096) : ∀ n, n ≤ 4097 → (lst p n).any (inE z) = (decide (z < n) && p z)
  | 0, _ => rfl
  | n + 1, hn => by
    have ih := lst_any p z hz n (by omega)
    rw [lst.eq_2]
    cases hp : p n with
    | false =>
      rw [if_neg (by simp), ih]
      by_cases h : z = n
      · subst h; rw [hp]; simp
      · congr 1; simp; omega
    | true =>
      rw [if_pos rfl]
      by_cases h2 : (decide (0 < n) && p ((n : Int) - 1)) = true
      · rw [if_pos h2]
        rw [Bool.and_eq_true, decide_eq_true_eq] at h2
        obtain ⟨m, rfl⟩ : ∃ m, n = m + 1 := ⟨n - 1, by omega⟩
        have h3 : p m = true := by
          have := h2.2
          rwa [show ((m + 1 : Nat) : Int) - 1 = m by omega] at this
        obtain ⟨u, s, t, h4, h5⟩ := lst_lastE p m h3
        rw [h4] at ih ⊢
        rw [bump_app, List.any_append]
        rw [List.any_append] at ih
        have e1 : ((t + 1 : Nat) : Int) + 1 = ((t + 1 + 1 : Nat) : Int) := by omega
        simp only [List.any_cons, List.any_nil, Bool.or_false] at ih ⊢
        rw [e1, inE_nat z s (t + 1) hz (by omega)]
        rw [inE_nat z s t hz (by omega)] at ih
        by_cases h6 : z = m + 1
        · subst h6
          have : (decide (m + 1 < m + 1 + 1) && p ((m + 1 : Nat) : Int)) = true := by rw [hp]; simp
          rw [this, Bool.or_eq_true]
          right; simp; omega
        · have e2 : (decide (s ≤ z) && decide (z < s + (t + 1) + 1)) = (decide (s ≤ z) && decide (z < s + t + 1)) := by
            congr 1; simp; omega
          rw [e2, ih]; congr 1; simp; omega
      · rw [if_neg h2, List.any_append, ih]
        have := inE_nat z n 0 hz (by omega)
        simp only [List.any_cons, List.any_nil, Bool.or_false]
        have e1 : ((n : Int), (1 : Int)) = ((n : Int), ((0 + 1 : Nat) : Int)) := by simp
        rw [e1, this]
        by_cases h6 : z = n
        · subst h6; rw [hp]; simp
        · rw [Bool.eq_iff_iff]
          simp only [Bool.or_eq_true, Bool.and_eq_true, decide_eq_true_eq]
          constructor
          · rintro (h | h)
            · exact ⟨by omega, h.2⟩
            · omega
          · rintro ⟨h, h'⟩; exact .inl ⟨by omega, h'⟩
theorem lst_rng (p : Int → Bool) : ∀ n, ∀ x ∈ lst p n, 0 ≤ x.1 ∧ x.1 ≤ n ∧ 0 ≤ x.2 ∧ x.2 ≤ n
  | 0, x, hx => by cases hx
  | n + 1, x, hx => by
    have ih := lst_rng p n
    rw [lst.eq_2] at hx
    have hb : ∀ l : List (Int × Int), (∀ x ∈ l, 0 ≤ x.1 ∧ x.1 ≤ n ∧ 0 ≤ x.2 ∧ x.2 ≤ n) → ∀ x ∈ bump l, 0 ≤ x.1 ∧ x.1 ≤ n ∧ 0 ≤ x.2 ∧ x.2 ≤ n + 1 := by
      intro l
      induction l with
      | nil => intro _ x hx; cases hx
      | cons y r ih => cases r with
        | nil =>
          intro h x hx
          have := h y (by simp)
          obtain ⟨y1, y2⟩ := y
          rw [List.mem_singleton.1 hx]
          simp only [] at this ⊢
          omega
        | cons w r =>
          intro h x hx
          rcases List.mem_cons.1 hx with hx | hx
          · have h5 := h y (by simp); obtain ⟨y1, y2⟩ := y; have h6 : x = (y1, y2) := hx; rw [h6]; simp only [] at h5 ⊢; omega
          · exact ih (fun x hx => h x (List.mem_cons_of_mem _ hx)) x hx
    split at hx
    · split at hx
      · have := hb _ ih x hx; omega
      · rcases List.mem_append.1 hx with hx | hx
        · have := ih x hx; omega
        · rw [List.mem_singleton.1 hx]; simp only []; omega
    · have := ih x hx; omega
/-- What is not synced holds exactly the sectors of the cache. -/
theorem uns_has {d : Dsk} (hd : checkD d = 0) (z : Nat) (h : ∃ c ∈ d.ca, c.1 = (z : Int)) : (unsS d).any (inE z) = true := by
  obtain ⟨hin, h4⟩ := inAll_of hd
  obtain ⟨c, hc, hz⟩ := h
  have hcr := hin c hc
  unfold unsS orL
  rw [if_pos hd, lst_any _ z (by omega) 4097 (Nat.le_refl _)]
  have h1 : decide (z < 4097) = true := by simp; omega
  rw [h1, Bool.true_and]
  show ((uE d.ca).any (inE z) || false) = true
  rw [Bool.or_false, List.any_eq_true]
  exact ⟨(c.1, 1), List.mem_map.2 ⟨c, hc, rfl⟩, by rw [hz, inE_one _ _ (by omega) (by omega)]; simp⟩
theorem uns_rng (d : Dsk) : ∀ x ∈ unsS d, I64e x.1 ∧ I64e x.2 := fun x hx => by
  unfold unsS at hx
  split at hx
  · have := lst_rng _ _ x hx
    unfold I64e
    omega
  · cases hx
theorem newD_put (st : List Sec) (ca : List (Int × Sec)) (a : Int) (data : List Sec) (h0 : 0 ≤ a) (i : Nat) : ∀ k : Nat, a + (k : Int) ≤ st.length → (newD ⟨st, putS ca a data k⟩).getD i zSec = if a ≤ (i : Int) ∧ (i : Int) < a + k then data.getD ((i : Int) - a).toNat zSec else (newD ⟨st, ca⟩).getD i zSec
  | 0, _ => by rw [putS_0, if_neg (by omega)]
  | k + 1, hk => by
    have ih := newD_put st ca a data h0 i k (by omega)
    have hl := newD_len ⟨st, putS ca a data k⟩
    have hs : newD ⟨st, putS ca a data (k + 1)⟩ = (newD ⟨st, putS ca a data k⟩).set (a + (k : Int)).toNat (data.getD k zSec) := by
      rw [← putS_succ]
      unfold newD newTo
      simp only [List.take_length, List.foldl_append, List.foldl_cons, List.foldl_nil]
    rw [hs]
    by_cases h : (a + (k : Int)).toNat = i
    · subst h
      rw [if_pos (by omega)]
      have e1 : (((a + (k : Int)).toNat : Nat) : Int) - a = (k : Int) := by omega
      rw [e1, Int.toNat_natCast]
      simp only [] at hl
      have : (a + (k : Int)).toNat < (newD ⟨st, putS ca a data k⟩).length := by omega
      simp [this]
    · have : ((newD ⟨st, putS ca a data k⟩).set (a + (k : Int)).toNat (data.getD k zSec)).getD i zSec = (newD ⟨st, putS ca a data k⟩).getD i zSec := by
        simp [List.getD_eq_getElem?_getD, List.getElem?_set_ne h]
      rw [this, ih]
      by_cases h2 : a ≤ (i : Int) ∧ (i : Int) < a + k
      · rw [if_pos h2, if_pos (by omega)]
      · rw [if_neg h2, if_neg (by omega)]
theorem put_in {d : Dsk} {a : Int} {data : List Sec} (hd : checkD d = 0) (hi : insideB d.st.length a data.length = true) : checkD ⟨d.st, putS d.ca a data data.length⟩ = 0 := by
  obtain ⟨hin, h4⟩ := inAll_of hd
  have h : (writeS d a data).1 = ⟨d.st, putS d.ca a data data.length⟩ := by unfold writeS; rw [if_pos hd, if_pos hi]
  refine checkD_of (fun c hc => ?_) h4
  simp only [] at hc ⊢
  unfold putS at hc
  unfold insideB at hi
  simp only [Bool.and_eq_true, decide_eq_true_eq] at hi
  rcases List.mem_append.1 hc with hc | hc
  · exact hin c hc
  · obtain ⟨k, hk, rfl⟩ := List.mem_map.1 hc
    have := List.mem_range.1 hk
    simp only []
    omega
theorem put_has {ca : List (Int × Sec)} {a : Int} {data : List Sec} {i : Nat} (h1 : a ≤ (i : Int)) (h2 : (i : Int) < a + data.length) : ∃ c ∈ putS ca a data data.length, c.1 = (i : Int) := by
  refine ⟨(a + (((i : Int) - a).toNat : Int), data.getD ((i : Int) - a).toNat zSec), List.mem_append_right _ (List.mem_map.2 ⟨((i : Int) - a).toNat, List.mem_range.2 (by omega), rfl⟩), by simp only []; omega⟩


theorem read_all {d : Dsk} (hd : checkD d = 0) : readS d 0 d.st.length = (newD d, 0) := by
  unfold readS
  rw [if_pos hd, if_pos (by simp [insideB])]
  have := newD_len d
  simp [← this]
def HeadRt (o : Opr) (M : Nat) (be af : List Sec) (u : List (Int × Int)) (n : Nat) (env : List (Nat × Bool × AV)) (H : Heap) : Prop :=
  ∃ (i N : Nat), n = M - i ∧ i ≤ M ∧ 50 < N ∧ env = [(108, true, zV (i : Int)), (107, true, zV (M : Int)), (16, true, .snap (encL encExt u)), (14, true, .snap (encL encSec af)), (9, true, .snap (encL encSec be)), (5, true, .ptr 0 0 0)] ∧
    H = ⟨N, tabG [(0, some (.cells 27 3 [encOp o] true false))]⟩

theorem law9_p (n : Nat) (ops : List Opr) (o : Opr) (hn : n < 256) (hol : ops.length ≤ 9223372036854775807) (hat : I64e o.at_) (hdl : o.data.length ≤ 9223372036854775807) : PCall Try.prog 9 [.c (.int .u8 (n : Int)), .snap (encL encOp ops), .agg (encOp o)] (· = bV true) := by
  refine pcall Try.func9 rfl (by kernel_rfl) (by simp [Try.ntmps9]) ?_
  rw [Try.ntmps9]
  unfold I64e at hat
  cases hb0 : fewOps ops
  · repeat (first | (refine aw_seq ?_) | (apply w_region (by rfl); (next => (simp (maxSteps := 2000000) (disch := omega) only [go_sem, hb0] <;> exact rfl))) | (refine w_nil ?_) | (refine w_hold2 ?_) | (refine w_then ?_) | (refine w_thenR ?_) | (refine aw_ret ?_) | (apply w_end; (next => (simp (maxSteps := 2000000) (disch := omega) only [go_sem, hb0, Try.f9] <;> exact rfl))) | (apply w_condT; (next => (simp (maxSteps := 2000000) (disch := omega) only [go_sem, hb0] <;> done))) | (apply w_callP (hop := rfl) (hg := rfl) (hp := (fewOps_p ops hol)); (next => (simp (maxSteps := 2000000) (disch := omega) only [go_sem, hb0] <;> exact rfl)); (next => (simp [noId_c, noId_agg, noId_snap, noId_tup,encD,sec_noIdE,encL_noId,encL_noIdE,encCa,encOp,encExt]; done)); (next => (simp (maxSteps := 2000000) (disch := omega) only [go_sem, hb0] <;> exact rfl))) | (apply w_callP (hop := rfl) (hg := rfl) (hp := awake_p); (next => (simp (maxSteps := 2000000) (disch := omega) only [go_sem, hb0] <;> exact rfl)); (next => (simp [noId_c, noId_agg, noId_snap, noId_tup,encD,sec_noIdE,encL_noId,encL_noIdE,encCa,encOp,encExt]; done)); (next => (simp (maxSteps := 2000000) (disch := omega) only [go_sem, hb0] <;> exact rfl))) | (apply w_gF (hg := rfl); (next => (simp (maxSteps := 2000000) (disch := omega) only [go_sem, hb0] <;> exact rfl)); (next => (simp (maxSteps := 2000000) (disch := omega) only [go_sem, hb0] <;> exact rfl)); (next => (simp (maxSteps := 2000000) (disch := omega) only [go_sem, hb0] <;> exact rfl))))
    (simp (maxSteps := 2000000) (disch := omega) only [go_sem, noId_c, noId_agg, noId_tup, noId_snap, encL_noIdE, sec_noIdE, List.drop_zero, List.take_length]; (repeat (first | exact .refl _ | exact .nil | exact wks_nil | refine wks_cons ?_ ?_ | refine wk_tup ?_ | refine wk_agg ?_)))
  · cases hb1 : fewOps [o]
    · repeat (first | (refine aw_seq ?_) | (apply w_region (by rfl); (next => (simp (maxSteps := 2000000) (disch := omega) only [go_sem, hb0, hb1] <;> exact rfl))) | (refine w_nil ?_) | (refine w_hold2 ?_) | (refine w_then ?_) | (refine w_thenR ?_) | (refine aw_ret ?_) | (apply w_end; (next => (simp (maxSteps := 2000000) (disch := omega) only [go_sem, hb0, hb1, Try.f9] <;> exact rfl))) | (apply w_condT; (next => (simp (maxSteps := 2000000) (disch := omega) only [go_sem, hb0, hb1] <;> done))) | (apply w_callP (hop := rfl) (hg := rfl) (hp := (fewOps_p ops hol)); (next => (simp (maxSteps := 2000000) (disch := omega) only [go_sem, hb0, hb1] <;> exact rfl)); (next => (simp [noId_c, noId_agg, noId_snap, noId_tup,encD,sec_noIdE,encL_noId,encL_noIdE,encCa,encOp,encExt]; done)); (next => (simp (maxSteps := 2000000) (disch := omega) only [go_sem, hb0, hb1] <;> exact rfl))) | (apply w_callXG (hop := rfl) (hg := rfl) (hp := (fewOps_p [o] (by simp))); (next => (simp (maxSteps := 2000000) (disch := omega) only [go_sem, hb0, hb1] <;> done)); (next => (simp (maxSteps := 2000000) (disch := omega) only [go_sem, hb0, hb1] <;> exact rfl)); (next => (simp (maxSteps := 2000000) (disch := omega) only [go_sem, hb0, hb1] <;> exact rfl)); (next => (simp [noId_c, noId_agg, noId_snap, noId_tup,encD,sec_noIdE,encL_noId,encL_noIdE,encCa,encOp,encExt]; done)); (next => (simp (maxSteps := 2000000) (disch := omega) only [go_sem, hb0, hb1] <;> exact rfl)); (next => (simp (maxSteps := 2000000) (disch := omega) only [go_sem, hb0, hb1] <;> exact rfl))) | (apply w_callP (hop := rfl) (hg := rfl) (hp := awake_p); (next => (simp (maxSteps := 2000000) (disch := omega) only [go_sem, hb0, hb1] <;> exact rfl)); (next => (simp [noId_c, noId_agg, noId_snap, noId_tup,encD,sec_noIdE,encL_noId,encL_noIdE,encCa,encOp,encExt]; done)); (next => (simp (maxSteps := 2000000) (disch := omega) only [go_sem, hb0, hb1] <;> exact rfl))) | (apply w_gT (hop := rfl) (hg := rfl); (next => (simp (maxSteps := 2000000) (disch := omega) only [go_sem, hb0, hb1] <;> exact rfl)); (next => (simp (maxSteps := 2000000) (disch := omega) only [go_sem, hb0, hb1] <;> exact rfl)); (next => (simp (maxSteps := 2000000) (disch := omega) only [go_sem, hb0, hb1] <;> exact rfl))))
      (simp (maxSteps := 2000000) (disch := omega) only [go_sem, noId_c, noId_agg, noId_tup, noId_snap, encL_noIdE, sec_noIdE, List.drop_zero, List.take_length]; (repeat (first | exact .refl _ | exact .nil | exact wks_nil | refine wks_cons ?_ ?_ | refine wk_tup ?_ | refine wk_agg ?_)))
    · have ho := fewOps_len hb0
      have c1 := right_p n ops hn (by omega)
      obtain ⟨hch, hst, hca⟩ := right_ok n ops
      generalize rightS n ops = d at *
      have c2 := read_p d 0 d.st.length (by omega) (by omega)
      rw [read_all hch] at c2
      have c3 := write_p d o.at_ o.data (by omega) (by omega)
      have hnl := newD_len d
      by_cases hi : insideB d.st.length o.at_ o.data.length = true
      · have hw : writeS d o.at_ o.data = (⟨d.st, putS d.ca o.at_ o.data o.data.length⟩, 0) := by unfold writeS; rw [if_pos hch, if_pos hi]
        have he := put_in hch hi
        rw [hw] at c3
        have hi2 := hi
        unfold insideB at hi2
        simp only [Bool.and_eq_true, decide_eq_true_eq] at hi2
        have hpl := putS_len d.ca o.at_ o.data o.data.length
        have c4 := read_p ⟨d.st, putS d.ca o.at_ o.data o.data.length⟩ 0 d.st.length (by simp only []; omega) (by simp only []; omega)
        rw [read_all he] at c4
        have c5 := uns_p ⟨d.st, putS d.ca o.at_ o.data o.data.length⟩ (by simp only []; omega) (by simp only []; omega)
        have hur := uns_rng ⟨d.st, putS d.ca o.at_ o.data o.data.length⟩
        have hul := unsS_len ⟨d.st, putS d.ca o.at_ o.data o.data.length⟩
        have huh := fun z h => uns_has he z h
        have hnp := fun i => newD_put d.st d.ca o.at_ o.data hi2.1.1.1 i o.data.length (by omega)
        have hnl2 := newD_len ⟨d.st, putS d.ca o.at_ o.data o.data.length⟩
        simp only [] at c3 c4 hnl2
        have hph := fun (i : Nat) h1 h2 => put_has (ca := d.ca) (a := o.at_) (data := o.data) (i := i) h1 h2
        generalize hE : (⟨d.st, putS d.ca o.at_ o.data o.data.length⟩ : Dsk) = e at c3 c4 c5 hur hul huh hnp hnl2
        have hec : e.ca = putS d.ca o.at_ o.data o.data.length := by rw [← hE]
        rw [hec] at huh
        have hnd : newD (⟨d.st, d.ca⟩ : Dsk) = newD d := rfl
        rw [hnd] at hnp
        generalize newD e = af at *
        generalize newD d = be at *
        generalize unsS e = u at *
        repeat (first | (refine aw_seq ?_) | (apply w_region (by rfl); (next => (simp (maxSteps := 2000000) (disch := omega) only [go_sem, hb0, hb1, hnl, hnl2] <;> exact rfl))) | (refine w_nil ?_) | (refine w_then ?_) | (refine aw_skip ?_) | (refine aw_block ?_) | (apply w_condF; (next => (simp (maxSteps := 2000000) (disch := omega) only [go_sem, hb0, hb1, hnl, hnl2] <;> done))) | (apply w_callP (hop := rfl) (hg := rfl) (hp := (fewOps_p ops hol)); (next => (simp (maxSteps := 2000000) (disch := omega) only [go_sem, hb0, hb1, hnl, hnl2] <;> exact rfl)); (next => (simp [noId_c, noId_agg, noId_snap, noId_tup,encD,sec_noIdE,encL_noId,encL_noIdE,encCa,encOp,encExt]; done)); (next => (simp (maxSteps := 2000000) (disch := omega) only [go_sem, hb0, hb1, hnl, hnl2] <;> exact rfl))) | (apply w_callXG (hop := rfl) (hg := rfl) (hp := (fewOps_p [o] (by simp))); (next => (simp (maxSteps := 2000000) (disch := omega) only [go_sem, hb0, hb1, hnl, hnl2] <;> done)); (next => (simp (maxSteps := 2000000) (disch := omega) only [go_sem, hb0, hb1, hnl, hnl2] <;> exact rfl)); (next => (simp (maxSteps := 2000000) (disch := omega) only [go_sem, hb0, hb1, hnl, hnl2] <;> exact rfl)); (next => (simp [noId_c, noId_agg, noId_snap, noId_tup,encD,sec_noIdE,encL_noId,encL_noIdE,encCa,encOp,encExt]; done)); (next => (simp (maxSteps := 2000000) (disch := omega) only [go_sem, hb0, hb1, hnl, hnl2] <;> exact rfl)); (next => (simp (maxSteps := 2000000) (disch := omega) only [go_sem, hb0, hb1, hnl, hnl2] <;> exact rfl))) | (apply w_callP (hop := rfl) (hg := rfl) (hp := c1); (next => (simp (maxSteps := 2000000) (disch := omega) only [go_sem, hb0, hb1, hnl, hnl2] <;> exact rfl)); (next => (simp [noId_c, noId_agg, noId_snap, noId_tup,encD,sec_noIdE,encL_noId,encL_noIdE,encCa,encOp,encExt]; done)); (next => (simp (maxSteps := 2000000) (disch := omega) only [go_sem, hb0, hb1, hnl, hnl2] <;> exact rfl))) | (apply w_callP (hop := rfl) (hg := rfl) (hp := c2); (next => (simp (maxSteps := 2000000) (disch := omega) only [go_sem, hb0, hb1, hnl, hnl2] <;> exact rfl)); (next => (simp [noId_c, noId_agg, noId_snap, noId_tup,encD,sec_noIdE,encL_noId,encL_noIdE,encCa,encOp,encExt]; done)); (next => (simp (maxSteps := 2000000) (disch := omega) only [go_sem, hb0, hb1, hnl, hnl2] <;> exact rfl))) | (apply w_callP (hop := rfl) (hg := rfl) (hp := c3); (next => (simp (maxSteps := 2000000) (disch := omega) only [go_sem, hb0, hb1, hnl, hnl2] <;> exact rfl)); (next => (simp [noId_c, noId_agg, noId_snap, noId_tup,encD,sec_noIdE,encL_noId,encL_noIdE,encCa,encOp,encExt]; done)); (next => (simp (maxSteps := 2000000) (disch := omega) only [go_sem, hb0, hb1, hnl, hnl2] <;> exact rfl))) | (apply w_callP (hop := rfl) (hg := rfl) (hp := c4); (next => (simp (maxSteps := 2000000) (disch := omega) only [go_sem, hb0, hb1, hnl, hnl2] <;> exact rfl)); (next => (simp [noId_c, noId_agg, noId_snap, noId_tup,encD,sec_noIdE,encL_noId,encL_noIdE,encCa,encOp,encExt]; done)); (next => (simp (maxSteps := 2000000) (disch := omega) only [go_sem, hb0, hb1, hnl, hnl2] <;> exact rfl))) | (apply w_callP (hop := rfl) (hg := rfl) (hp := c5); (next => (simp (maxSteps := 2000000) (disch := omega) only [go_sem, hb0, hb1, hnl, hnl2] <;> exact rfl)); (next => (simp [noId_c, noId_agg, noId_snap, noId_tup,encD,sec_noIdE,encL_noId,encL_noIdE,encCa,encOp,encExt]; done)); (next => (simp (maxSteps := 2000000) (disch := omega) only [go_sem, hb0, hb1, hnl, hnl2] <;> exact rfl))) | (apply w_gT (hop := rfl) (hg := rfl); (next => (simp (maxSteps := 2000000) (disch := omega) only [go_sem, hb0, hb1, hnl, hnl2] <;> exact rfl)); (next => (simp (maxSteps := 2000000) (disch := omega) only [go_sem, hb0, hb1, hnl, hnl2] <;> exact rfl)); (next => (simp (maxSteps := 2000000) (disch := omega) only [go_sem, hb0, hb1, hnl, hnl2] <;> exact rfl))))
        refine w_loop (HeadRt o d.st.length be af u) d.st.length ?_ ?_
        · refine ⟨_, _, ⟨0, 1000, by omega, by omega, by omega, rfl, rfl⟩, ?_⟩
          refine holds_cons (by rfl) (holds_cons (by rfl) (holds_cons (by rfl) (holds_cons (by rfl) (holds_cons (by rfl) (holds_cons (by rfl) (holds_nil (by simp only []; omega) (sub_cons (by (first | rfl | (simp (disch := omega) only [go_sem, encD]; done) | (simp (disch := omega) only [go_sem, encD]; rfl))) (sub_nil))))))))
        · rintro n' env H ⟨i, N, rfl, hi', hN, rfl, rfl⟩
          by_cases hil : i < d.st.length
          · have hni := hnp i
            by_cases h1 : o.at_ ≤ (i : Int)
            · by_cases h2 : (i : Int) < o.at_ + o.data.length
              · rw [if_pos ⟨h1, h2⟩] at hni
                have c6 := contains_p u i hur (by omega)
                rw [huh i (hph i h1 h2)] at c6
                repeat (first | (refine aw_seq ?_) | (apply w_region (by rfl); (next => (simp (maxSteps := 2000000) (disch := omega) only [go_sem, (encL_get (f := encSec) zSec), hnl, hnl2, hni] <;> exact rfl))) | (apply w_draw (by kernel_rfl) (by kernel_rfl) (by rfl); (case hr => (repeat (apply d_run; (next => (simp (maxSteps := 2000000) (disch := omega) only [go_sem, (encL_get (f := encSec) zSec), hnl, hnl2, hni] <;> exact rfl)); first | exact d_nil | (apply d_callG (hop := rfl) (hg := rfl) (hp := c6); (next => (simp (maxSteps := 2000000) (disch := omega) only [go_sem, (encL_get (f := encSec) zSec), hnl, hnl2, hni] <;> exact rfl)); (next => (simp (maxSteps := 2000000) (disch := omega) only [go_sem, (encL_get (f := encSec) zSec), hnl, hnl2, hni] <;> exact rfl)); (next => (simp [noId_c, noId_agg, noId_snap, noId_tup,encD,sec_noIdE,encL_noId,encL_noIdE,encCa,encOp,encExt]; done)))))); (case hdyn => (simp (maxSteps := 2000000) (disch := omega) only [go_sem, nbeq_F, nbeq_T, (encL_get (f := encSec) zSec), hnl, hnl2, hni] <;> kernel_rfl))) | (refine w_nil ?_) | (refine w_then ?_) | (refine w_blockN ?_) | (refine aw_skip ?_) | (refine aw_block ?_) | (apply w_condT; (next => (simp (maxSteps := 2000000) (disch := omega) only [go_sem, (encL_get (f := encSec) zSec), hnl, hnl2, hni] <;> done))) | (apply w_condF; (next => (simp (maxSteps := 2000000) (disch := omega) only [go_sem, (encL_get (f := encSec) zSec), hnl, hnl2, hni] <;> done))))
                refine ⟨d.st.length - (i + 1), by omega, _, _, ⟨i + 1, N + 1000, rfl, by omega, by omega, rfl, rfl⟩, ?_⟩
                refine holds_cons (by rfl) (holds_cons (by rfl) (holds_cons (by rfl) (holds_cons (by rfl) (holds_cons (by rfl) (holds_cons (by rfl) (holds_nil (by simp only []; omega) (sub_cons (by (first | rfl | (simp (disch := omega) only [go_sem, encD]; done) | (simp (disch := omega) only [go_sem, encD]; rfl))) (sub_nil))))))))
              · rw [if_neg (by omega)] at hni
                repeat (first | (refine aw_seq ?_) | (apply w_region (by rfl); (next => (simp (maxSteps := 2000000) (disch := omega) only [go_sem, (encL_get (f := encSec) zSec), hnl, hnl2, hni] <;> exact rfl))) | (apply w_draw (by kernel_rfl) (by kernel_rfl) (by rfl); (case hr => (apply d_run; (next => (simp (maxSteps := 2000000) (disch := omega) only [go_sem, (encL_get (f := encSec) zSec), hnl, hnl2, hni] <;> exact rfl)); exact d_nil)); (case hdyn => (simp (maxSteps := 2000000) (disch := omega) only [go_sem, nbeq_F, nbeq_T, (encL_get (f := encSec) zSec), hnl, hnl2, hni] <;> kernel_rfl))) | (refine w_nil ?_) | (refine w_then ?_) | (refine w_blockN ?_) | (refine aw_skip ?_) | (refine aw_block ?_) | (apply w_condT; (next => (simp (maxSteps := 2000000) (disch := omega) only [go_sem, (encL_get (f := encSec) zSec), hnl, hnl2, hni] <;> done))) | (apply w_condF; (next => (simp (maxSteps := 2000000) (disch := omega) only [go_sem, (encL_get (f := encSec) zSec), hnl, hnl2, hni] <;> done))))
                refine ⟨d.st.length - (i + 1), by omega, _, _, ⟨i + 1, N + 1000, rfl, by omega, by omega, rfl, rfl⟩, ?_⟩
                refine holds_cons (by rfl) (holds_cons (by rfl) (holds_cons (by rfl) (holds_cons (by rfl) (holds_cons (by rfl) (holds_cons (by rfl) (holds_nil (by simp only []; omega) (sub_cons (by (first | rfl | (simp (disch := omega) only [go_sem, encD]; done) | (simp (disch := omega) only [go_sem, encD]; rfl))) (sub_nil))))))))
            · rw [if_neg (by omega)] at hni
              repeat (first | (refine aw_seq ?_) | (apply w_region (by rfl); (next => (simp (maxSteps := 2000000) (disch := omega) only [go_sem, (encL_get (f := encSec) zSec), hnl, hnl2, hni] <;> exact rfl))) | (apply w_draw (by kernel_rfl) (by kernel_rfl) (by rfl); (case hr => (apply d_run; (next => (simp (maxSteps := 2000000) (disch := omega) only [go_sem, (encL_get (f := encSec) zSec), hnl, hnl2, hni] <;> exact rfl)); exact d_nil)); (case hdyn => (simp (maxSteps := 2000000) (disch := omega) only [go_sem, nbeq_F, nbeq_T, (encL_get (f := encSec) zSec), hnl, hnl2, hni] <;> kernel_rfl))) | (refine w_nil ?_) | (refine w_then ?_) | (refine w_blockN ?_) | (refine aw_skip ?_) | (refine aw_block ?_) | (apply w_condT; (next => (simp (maxSteps := 2000000) (disch := omega) only [go_sem, (encL_get (f := encSec) zSec), hnl, hnl2, hni] <;> done))) | (apply w_condF; (next => (simp (maxSteps := 2000000) (disch := omega) only [go_sem, (encL_get (f := encSec) zSec), hnl, hnl2, hni] <;> done))))
              refine ⟨d.st.length - (i + 1), by omega, _, _, ⟨i + 1, N + 1000, rfl, by omega, by omega, rfl, rfl⟩, ?_⟩
              refine holds_cons (by rfl) (holds_cons (by rfl) (holds_cons (by rfl) (holds_cons (by rfl) (holds_cons (by rfl) (holds_cons (by rfl) (holds_nil (by simp only []; omega) (sub_cons (by (first | rfl | (simp (disch := omega) only [go_sem, encD]; done) | (simp (disch := omega) only [go_sem, encD]; rfl))) (sub_nil))))))))
          · repeat (first | (refine aw_seq ?_) | (apply w_region (by rfl); (next => (simp (maxSteps := 2000000) (disch := omega) only [go_sem] <;> exact rfl))) | (refine w_nil ?_) | (refine w_hold2 ?_) | (refine w_then ?_) | (refine w_thenE ?_) | (refine w_blockE ?_) | (refine aw_ret ?_) | (refine aw_exit ?_) | (apply w_end; (next => (simp (maxSteps := 2000000) (disch := omega) only [go_sem, Try.f9] <;> exact rfl))) | (apply w_condF; (next => (simp (maxSteps := 2000000) (disch := omega) only [go_sem] <;> done))) | (apply w_callP (hop := rfl) (hg := rfl) (hp := awake_p); (next => (simp (maxSteps := 2000000) (disch := omega) only [go_sem] <;> exact rfl)); (next => (simp [noId_c, noId_agg, noId_snap, noId_tup,encD,sec_noIdE,encL_noId,encL_noIdE,encCa,encOp,encExt]; done)); (next => (simp (maxSteps := 2000000) (disch := omega) only [go_sem] <;> exact rfl))))
            (simp (maxSteps := 2000000) (disch := omega) only [go_sem, noId_c, noId_agg, noId_tup, noId_snap, encL_noIdE, sec_noIdE, List.drop_zero, List.take_length]; (repeat (first | exact .refl _ | exact .nil | exact wks_nil | refine wks_cons ?_ ?_ | refine wk_tup ?_ | refine wk_agg ?_)))
      · have hw : writeS d o.at_ o.data = (Dsk.empty, 2) := by unfold writeS; rw [if_pos hch, if_neg hi]
        rw [hw] at c3
        have hi2 := hi
        unfold insideB at hi2
        simp only [Bool.and_eq_true, decide_eq_true_eq] at hi2
        simp only [] at c3
        generalize newD d = be at *
        by_cases h1 : 0 ≤ o.at_
        · by_cases h2 : (o.data.length : Int) ≤ d.st.length
          · have h3 : ¬ o.at_ ≤ (d.st.length : Int) - o.data.length := by omega
            repeat (first | (refine aw_seq ?_) | (apply w_region (by rfl); (next => (simp (maxSteps := 2000000) (disch := omega) only [go_sem, hb0, hb1, hnl] <;> exact rfl))) | (refine w_nil ?_) | (refine w_hold2 ?_) | (refine w_then ?_) | (refine w_thenR ?_) | (refine aw_skip ?_) | (refine aw_ret ?_) | (apply w_end; (next => (simp (maxSteps := 2000000) (disch := omega) only [go_sem, hb0, hb1, hnl, Try.f9] <;> exact rfl))) | (apply w_condT; (next => (simp (maxSteps := 2000000) (disch := omega) only [go_sem, hb0, hb1, hnl] <;> done))) | (apply w_condF; (next => (simp (maxSteps := 2000000) (disch := omega) only [go_sem, hb0, hb1, hnl] <;> done))) | (apply w_callP (hop := rfl) (hg := rfl) (hp := (fewOps_p ops hol)); (next => (simp (maxSteps := 2000000) (disch := omega) only [go_sem, hb0, hb1, hnl] <;> exact rfl)); (next => (simp [noId_c, noId_agg, noId_snap, noId_tup,encD,sec_noIdE,encL_noId,encL_noIdE,encCa,encOp,encExt]; done)); (next => (simp (maxSteps := 2000000) (disch := omega) only [go_sem, hb0, hb1, hnl] <;> exact rfl))) | (apply w_callXG (hop := rfl) (hg := rfl) (hp := (fewOps_p [o] (by simp))); (next => (simp (maxSteps := 2000000) (disch := omega) only [go_sem, hb0, hb1, hnl] <;> done)); (next => (simp (maxSteps := 2000000) (disch := omega) only [go_sem, hb0, hb1, hnl] <;> exact rfl)); (next => (simp (maxSteps := 2000000) (disch := omega) only [go_sem, hb0, hb1, hnl] <;> exact rfl)); (next => (simp [noId_c, noId_agg, noId_snap, noId_tup,encD,sec_noIdE,encL_noId,encL_noIdE,encCa,encOp,encExt]; done)); (next => (simp (maxSteps := 2000000) (disch := omega) only [go_sem, hb0, hb1, hnl] <;> exact rfl)); (next => (simp (maxSteps := 2000000) (disch := omega) only [go_sem, hb0, hb1, hnl] <;> exact rfl))) | (apply w_callP (hop := rfl) (hg := rfl) (hp := c1); (next => (simp (maxSteps := 2000000) (disch := omega) only [go_sem, hb0, hb1, hnl] <;> exact rfl)); (next => (simp [noId_c, noId_agg, noId_snap, noId_tup,encD,sec_noIdE,encL_noId,encL_noIdE,encCa,encOp,encExt]; done)); (next => (simp (maxSteps := 2000000) (disch := omega) only [go_sem, hb0, hb1, hnl] <;> exact rfl))) | (apply w_callP (hop := rfl) (hg := rfl) (hp := c2); (next => (simp (maxSteps := 2000000) (disch := omega) only [go_sem, hb0, hb1, hnl] <;> exact rfl)); (next => (simp [noId_c, noId_agg, noId_snap, noId_tup,encD,sec_noIdE,encL_noId,encL_noIdE,encCa,encOp,encExt]; done)); (next => (simp (maxSteps := 2000000) (disch := omega) only [go_sem, hb0, hb1, hnl] <;> exact rfl))) | (apply w_callP (hop := rfl) (hg := rfl) (hp := c3); (next => (simp (maxSteps := 2000000) (disch := omega) only [go_sem, hb0, hb1, hnl] <;> exact rfl)); (next => (simp [noId_c, noId_agg, noId_snap, noId_tup,encD,sec_noIdE,encL_noId,encL_noIdE,encCa,encOp,encExt]; done)); (next => (simp (maxSteps := 2000000) (disch := omega) only [go_sem, hb0, hb1, hnl] <;> exact rfl))) | (apply w_callXG (hop := rfl) (hg := rfl) (hp := awake_p); (next => (simp (maxSteps := 2000000) (disch := omega) only [go_sem, hb0, hb1, hnl] <;> done)); (next => (simp (maxSteps := 2000000) (disch := omega) only [go_sem, hb0, hb1, hnl] <;> exact rfl)); (next => (simp (maxSteps := 2000000) (disch := omega) only [go_sem, hb0, hb1, hnl] <;> exact rfl)); (next => (simp [noId_c, noId_agg, noId_snap, noId_tup,encD,sec_noIdE,encL_noId,encL_noIdE,encCa,encOp,encExt]; done)); (next => (simp (maxSteps := 2000000) (disch := omega) only [go_sem, hb0, hb1, hnl] <;> exact rfl)); (next => (simp (maxSteps := 2000000) (disch := omega) only [go_sem, hb0, hb1, hnl] <;> exact rfl))) | (apply w_gT (hop := rfl) (hg := rfl); (next => (simp (maxSteps := 2000000) (disch := omega) only [go_sem, hb0, hb1, hnl] <;> exact rfl)); (next => (simp (maxSteps := 2000000) (disch := omega) only [go_sem, hb0, hb1, hnl] <;> exact rfl)); (next => (simp (maxSteps := 2000000) (disch := omega) only [go_sem, hb0, hb1, hnl] <;> exact rfl))))
            (simp (maxSteps := 2000000) (disch := omega) only [go_sem, noId_c, noId_agg, noId_tup, noId_snap, encL_noIdE, sec_noIdE, List.drop_zero, List.take_length]; (repeat (first | exact .refl _ | exact .nil | exact wks_nil | refine wks_cons ?_ ?_ | refine wk_tup ?_ | refine wk_agg ?_)))
          · repeat (first | (refine aw_seq ?_) | (apply w_region (by rfl); (next => (simp (maxSteps := 2000000) (disch := omega) only [go_sem, hb0, hb1, hnl] <;> exact rfl))) | (refine w_nil ?_) | (refine w_hold2 ?_) | (refine w_then ?_) | (refine w_thenR ?_) | (refine aw_skip ?_) | (refine aw_ret ?_) | (apply w_end; (next => (simp (maxSteps := 2000000) (disch := omega) only [go_sem, hb0, hb1, hnl, Try.f9] <;> exact rfl))) | (apply w_condT; (next => (simp (maxSteps := 2000000) (disch := omega) only [go_sem, hb0, hb1, hnl] <;> done))) | (apply w_condF; (next => (simp (maxSteps := 2000000) (disch := omega) only [go_sem, hb0, hb1, hnl] <;> done))) | (apply w_callP (hop := rfl) (hg := rfl) (hp := (fewOps_p ops hol)); (next => (simp (maxSteps := 2000000) (disch := omega) only [go_sem, hb0, hb1, hnl] <;> exact rfl)); (next => (simp [noId_c, noId_agg, noId_snap, noId_tup,encD,sec_noIdE,encL_noId,encL_noIdE,encCa,encOp,encExt]; done)); (next => (simp (maxSteps := 2000000) (disch := omega) only [go_sem, hb0, hb1, hnl] <;> exact rfl))) | (apply w_callXG (hop := rfl) (hg := rfl) (hp := (fewOps_p [o] (by simp))); (next => (simp (maxSteps := 2000000) (disch := omega) only [go_sem, hb0, hb1, hnl] <;> done)); (next => (simp (maxSteps := 2000000) (disch := omega) only [go_sem, hb0, hb1, hnl] <;> exact rfl)); (next => (simp (maxSteps := 2000000) (disch := omega) only [go_sem, hb0, hb1, hnl] <;> exact rfl)); (next => (simp [noId_c, noId_agg, noId_snap, noId_tup,encD,sec_noIdE,encL_noId,encL_noIdE,encCa,encOp,encExt]; done)); (next => (simp (maxSteps := 2000000) (disch := omega) only [go_sem, hb0, hb1, hnl] <;> exact rfl)); (next => (simp (maxSteps := 2000000) (disch := omega) only [go_sem, hb0, hb1, hnl] <;> exact rfl))) | (apply w_callP (hop := rfl) (hg := rfl) (hp := c1); (next => (simp (maxSteps := 2000000) (disch := omega) only [go_sem, hb0, hb1, hnl] <;> exact rfl)); (next => (simp [noId_c, noId_agg, noId_snap, noId_tup,encD,sec_noIdE,encL_noId,encL_noIdE,encCa,encOp,encExt]; done)); (next => (simp (maxSteps := 2000000) (disch := omega) only [go_sem, hb0, hb1, hnl] <;> exact rfl))) | (apply w_callP (hop := rfl) (hg := rfl) (hp := c2); (next => (simp (maxSteps := 2000000) (disch := omega) only [go_sem, hb0, hb1, hnl] <;> exact rfl)); (next => (simp [noId_c, noId_agg, noId_snap, noId_tup,encD,sec_noIdE,encL_noId,encL_noIdE,encCa,encOp,encExt]; done)); (next => (simp (maxSteps := 2000000) (disch := omega) only [go_sem, hb0, hb1, hnl] <;> exact rfl))) | (apply w_callP (hop := rfl) (hg := rfl) (hp := c3); (next => (simp (maxSteps := 2000000) (disch := omega) only [go_sem, hb0, hb1, hnl] <;> exact rfl)); (next => (simp [noId_c, noId_agg, noId_snap, noId_tup,encD,sec_noIdE,encL_noId,encL_noIdE,encCa,encOp,encExt]; done)); (next => (simp (maxSteps := 2000000) (disch := omega) only [go_sem, hb0, hb1, hnl] <;> exact rfl))) | (apply w_callXG (hop := rfl) (hg := rfl) (hp := awake_p); (next => (simp (maxSteps := 2000000) (disch := omega) only [go_sem, hb0, hb1, hnl] <;> done)); (next => (simp (maxSteps := 2000000) (disch := omega) only [go_sem, hb0, hb1, hnl] <;> exact rfl)); (next => (simp (maxSteps := 2000000) (disch := omega) only [go_sem, hb0, hb1, hnl] <;> exact rfl)); (next => (simp [noId_c, noId_agg, noId_snap, noId_tup,encD,sec_noIdE,encL_noId,encL_noIdE,encCa,encOp,encExt]; done)); (next => (simp (maxSteps := 2000000) (disch := omega) only [go_sem, hb0, hb1, hnl] <;> exact rfl)); (next => (simp (maxSteps := 2000000) (disch := omega) only [go_sem, hb0, hb1, hnl] <;> exact rfl))) | (apply w_gT (hop := rfl) (hg := rfl); (next => (simp (maxSteps := 2000000) (disch := omega) only [go_sem, hb0, hb1, hnl] <;> exact rfl)); (next => (simp (maxSteps := 2000000) (disch := omega) only [go_sem, hb0, hb1, hnl] <;> exact rfl)); (next => (simp (maxSteps := 2000000) (disch := omega) only [go_sem, hb0, hb1, hnl] <;> exact rfl))))
            (simp (maxSteps := 2000000) (disch := omega) only [go_sem, noId_c, noId_agg, noId_tup, noId_snap, encL_noIdE, sec_noIdE, List.drop_zero, List.take_length]; (repeat (first | exact .refl _ | exact .nil | exact wks_nil | refine wks_cons ?_ ?_ | refine wk_tup ?_ | refine wk_agg ?_)))
        · repeat (first | (refine aw_seq ?_) | (apply w_region (by rfl); (next => (simp (maxSteps := 2000000) (disch := omega) only [go_sem, hb0, hb1, hnl] <;> exact rfl))) | (refine w_nil ?_) | (refine w_hold2 ?_) | (refine w_then ?_) | (refine w_thenR ?_) | (refine aw_skip ?_) | (refine aw_ret ?_) | (apply w_end; (next => (simp (maxSteps := 2000000) (disch := omega) only [go_sem, hb0, hb1, hnl, Try.f9] <;> exact rfl))) | (apply w_condT; (next => (simp (maxSteps := 2000000) (disch := omega) only [go_sem, hb0, hb1, hnl] <;> done))) | (apply w_condF; (next => (simp (maxSteps := 2000000) (disch := omega) only [go_sem, hb0, hb1, hnl] <;> done))) | (apply w_callP (hop := rfl) (hg := rfl) (hp := (fewOps_p ops hol)); (next => (simp (maxSteps := 2000000) (disch := omega) only [go_sem, hb0, hb1, hnl] <;> exact rfl)); (next => (simp [noId_c, noId_agg, noId_snap, noId_tup,encD,sec_noIdE,encL_noId,encL_noIdE,encCa,encOp,encExt]; done)); (next => (simp (maxSteps := 2000000) (disch := omega) only [go_sem, hb0, hb1, hnl] <;> exact rfl))) | (apply w_callXG (hop := rfl) (hg := rfl) (hp := (fewOps_p [o] (by simp))); (next => (simp (maxSteps := 2000000) (disch := omega) only [go_sem, hb0, hb1, hnl] <;> done)); (next => (simp (maxSteps := 2000000) (disch := omega) only [go_sem, hb0, hb1, hnl] <;> exact rfl)); (next => (simp (maxSteps := 2000000) (disch := omega) only [go_sem, hb0, hb1, hnl] <;> exact rfl)); (next => (simp [noId_c, noId_agg, noId_snap, noId_tup,encD,sec_noIdE,encL_noId,encL_noIdE,encCa,encOp,encExt]; done)); (next => (simp (maxSteps := 2000000) (disch := omega) only [go_sem, hb0, hb1, hnl] <;> exact rfl)); (next => (simp (maxSteps := 2000000) (disch := omega) only [go_sem, hb0, hb1, hnl] <;> exact rfl))) | (apply w_callP (hop := rfl) (hg := rfl) (hp := c1); (next => (simp (maxSteps := 2000000) (disch := omega) only [go_sem, hb0, hb1, hnl] <;> exact rfl)); (next => (simp [noId_c, noId_agg, noId_snap, noId_tup,encD,sec_noIdE,encL_noId,encL_noIdE,encCa,encOp,encExt]; done)); (next => (simp (maxSteps := 2000000) (disch := omega) only [go_sem, hb0, hb1, hnl] <;> exact rfl))) | (apply w_callP (hop := rfl) (hg := rfl) (hp := c2); (next => (simp (maxSteps := 2000000) (disch := omega) only [go_sem, hb0, hb1, hnl] <;> exact rfl)); (next => (simp [noId_c, noId_agg, noId_snap, noId_tup,encD,sec_noIdE,encL_noId,encL_noIdE,encCa,encOp,encExt]; done)); (next => (simp (maxSteps := 2000000) (disch := omega) only [go_sem, hb0, hb1, hnl] <;> exact rfl))) | (apply w_callP (hop := rfl) (hg := rfl) (hp := c3); (next => (simp (maxSteps := 2000000) (disch := omega) only [go_sem, hb0, hb1, hnl] <;> exact rfl)); (next => (simp [noId_c, noId_agg, noId_snap, noId_tup,encD,sec_noIdE,encL_noId,encL_noIdE,encCa,encOp,encExt]; done)); (next => (simp (maxSteps := 2000000) (disch := omega) only [go_sem, hb0, hb1, hnl] <;> exact rfl))) | (apply w_callXG (hop := rfl) (hg := rfl) (hp := awake_p); (next => (simp (maxSteps := 2000000) (disch := omega) only [go_sem, hb0, hb1, hnl] <;> done)); (next => (simp (maxSteps := 2000000) (disch := omega) only [go_sem, hb0, hb1, hnl] <;> exact rfl)); (next => (simp (maxSteps := 2000000) (disch := omega) only [go_sem, hb0, hb1, hnl] <;> exact rfl)); (next => (simp [noId_c, noId_agg, noId_snap, noId_tup,encD,sec_noIdE,encL_noId,encL_noIdE,encCa,encOp,encExt]; done)); (next => (simp (maxSteps := 2000000) (disch := omega) only [go_sem, hb0, hb1, hnl] <;> exact rfl)); (next => (simp (maxSteps := 2000000) (disch := omega) only [go_sem, hb0, hb1, hnl] <;> exact rfl))) | (apply w_gT (hop := rfl) (hg := rfl); (next => (simp (maxSteps := 2000000) (disch := omega) only [go_sem, hb0, hb1, hnl] <;> exact rfl)); (next => (simp (maxSteps := 2000000) (disch := omega) only [go_sem, hb0, hb1, hnl] <;> exact rfl)); (next => (simp (maxSteps := 2000000) (disch := omega) only [go_sem, hb0, hb1, hnl] <;> exact rfl))))
          (simp (maxSteps := 2000000) (disch := omega) only [go_sem, noId_c, noId_agg, noId_tup, noId_snap, encL_noIdE, sec_noIdE, List.drop_zero, List.take_length]; (repeat (first | exact .refl _ | exact .nil | exact wks_nil | refine wks_cons ?_ ?_ | refine wk_tup ?_ | refine wk_agg ?_)))

end Go.Proofs.Ytniccdnhjbnaeaa
