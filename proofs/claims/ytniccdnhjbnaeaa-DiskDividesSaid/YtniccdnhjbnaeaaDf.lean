/- The laws on what survives. No condition but those named. -/
import Derived.Test.YtniccdnhjbnaeaaDe
import Derived.KernelRfl
import Derived.Test.YtniccdnhjbnaeaaLc
namespace Go.Proofs.Ytniccdnhjbnaeaa
open Go.Proofs Go.AL
set_option maxRecDepth 100000
set_option maxHeartbeats 1000000
set_option linter.unusedVariables false
set_option linter.unusedSimpArgs false
attribute [local irreducible] endA
attribute [local go_sem] dec_ltT dec_ltF dec_leT dec_leF beq_T beq_F bne_T bne_F encD


abbrev zExt : Int × Int := (0, 0)
def I64e (x : Int) : Prop := -9223372036854775808 ≤ x ∧ x ≤ 9223372036854775807
/-- The part of an extent inside the greatest size. -/
def wFrom (e : Int × Int) : Int := if 0 > e.1 then 0 else e.1
def wTo (e : Int × Int) : Int := if e.1 < 0 ∨ e.2 < 4096 - e.1 then (if 4096 < e.1 + e.2 then 4096 else e.1 + e.2) else 4096
def wIn (e : Int × Int) : Int × Int × Bool := if e.2 ≤ 0 then (0, 0, false) else (wFrom e, wTo e, decide (wFrom e < wTo e))
def inE (i : Int) (e : Int × Int) : Bool := (wIn e).2.2 && (decide ((wIn e).1 ≤ i) && decide (i < (wIn e).2.1))

theorem within_p (s c : Int) (hs : I64e s) (hc : I64e c) : PCall Try.prog 56 [.agg (encExt (s, c))] (· = .tup [zV (wIn (s, c)).1, zV (wIn (s, c)).2.1, bV (wIn (s, c)).2.2]) := by
  refine PCall.wk ?_ (noId_tup.2 fun x hx => by simp only [List.mem_cons, List.not_mem_nil, or_false] at hx; rcases hx with rfl | rfl | rfl <;> exact .c _)
  refine pcall Try.func56 rfl (by kernel_rfl) (by simp [Try.ntmps56]) ?_
  rw [Try.ntmps56]
  unfold I64e at hs hc
  by_cases h0 : c ≤ 0
  · have hw : wIn (s, c) = (0, 0, false) := if_pos h0
    rw [hw]
    repeat (first | (refine aw_seq ?_) | (apply w_region (by rfl); (next => (simp (maxSteps := 2000000) (disch := omega) only [go_sem] <;> exact rfl))) | (refine w_nil ?_) | (refine w_hold2 ?_) | (refine w_then ?_) | (refine w_thenR ?_) | (refine aw_ret ?_) | (apply w_end; (next => (simp (maxSteps := 2000000) (disch := omega) only [go_sem, Try.f56] <;> exact rfl))) | (apply w_condT; (next => (simp (maxSteps := 2000000) (disch := omega) only [go_sem] <;> done))))
    (simp (maxSteps := 2000000) (disch := omega) only [go_sem, noId_c, noId_agg, noId_tup, noId_snap, encL_noIdE, sec_noIdE, List.drop_zero, List.take_length]; (repeat (first | exact .refl _ | exact .nil | exact wks_nil | refine wks_cons ?_ ?_ | refine wk_tup ?_ | refine wk_agg ?_)))
  · by_cases h1 : s < 0
    · by_cases h2 : 4096 < s + c
      · have hw : wIn (s, c) = (0, 4096, decide ((0 : Int) < 4096)) := by
          simp only [wIn, wFrom, wTo, if_neg h0, if_pos (show (0 : Int) > s from h1), h1, true_or, if_true, if_pos h2]
        rw [hw]
        repeat (first | (refine aw_seq ?_) | (apply w_region (by rfl); (next => (simp (maxSteps := 2000000) (disch := omega) only [go_sem] <;> exact rfl))) | (refine w_nil ?_) | (refine w_hold2 ?_) | (refine w_then ?_) | (refine aw_skip ?_) | (refine aw_ret ?_) | (apply w_end; (next => (simp (maxSteps := 2000000) (disch := omega) only [go_sem, Try.f56] <;> exact rfl))) | (apply w_condT; (next => (simp (maxSteps := 2000000) (disch := omega) only [go_sem] <;> done))) | (apply w_condF; (next => (simp (maxSteps := 2000000) (disch := omega) only [go_sem] <;> done))))
        (simp (maxSteps := 2000000) (disch := omega) only [go_sem, noId_c, noId_agg, noId_tup, noId_snap, encL_noIdE, sec_noIdE, List.drop_zero, List.take_length]; (repeat (first | exact .refl _ | exact .nil | exact wks_nil | refine wks_cons ?_ ?_ | refine wk_tup ?_ | refine wk_agg ?_)))
      · have hw : wIn (s, c) = (0, s + c, decide ((0 : Int) < s + c)) := by
          simp only [wIn, wFrom, wTo, if_neg h0, if_pos (show (0 : Int) > s from h1), h1, true_or, if_true, if_neg h2]
        rw [hw]
        repeat (first | (refine aw_seq ?_) | (apply w_region (by rfl); (next => (simp (maxSteps := 2000000) (disch := omega) only [go_sem] <;> exact rfl))) | (refine w_nil ?_) | (refine w_hold2 ?_) | (refine w_then ?_) | (refine aw_skip ?_) | (refine aw_ret ?_) | (apply w_end; (next => (simp (maxSteps := 2000000) (disch := omega) only [go_sem, Try.f56] <;> exact rfl))) | (apply w_condT; (next => (simp (maxSteps := 2000000) (disch := omega) only [go_sem] <;> done))) | (apply w_condF; (next => (simp (maxSteps := 2000000) (disch := omega) only [go_sem] <;> done))))
        (simp (maxSteps := 2000000) (disch := omega) only [go_sem, noId_c, noId_agg, noId_tup, noId_snap, encL_noIdE, sec_noIdE, List.drop_zero, List.take_length]; (repeat (first | exact .refl _ | exact .nil | exact wks_nil | refine wks_cons ?_ ?_ | refine wk_tup ?_ | refine wk_agg ?_)))
    · by_cases h3 : c < 4096 - s
      · have hw : wIn (s, c) = (s, s + c, decide (s < s + c)) := by
          simp only [wIn, wFrom, wTo, if_neg h0, if_neg (show ¬ (0 : Int) > s by omega), h3, or_true, if_true, if_neg (show ¬ 4096 < s + c by omega)]
        rw [hw]
        repeat (first | (refine aw_seq ?_) | (apply w_region (by rfl); (next => (simp (maxSteps := 2000000) (disch := omega) only [go_sem] <;> exact rfl))) | (refine w_nil ?_) | (refine w_hold2 ?_) | (refine w_then ?_) | (refine aw_skip ?_) | (refine aw_ret ?_) | (apply w_end; (next => (simp (maxSteps := 2000000) (disch := omega) only [go_sem, Try.f56] <;> exact rfl))) | (apply w_condT; (next => (simp (maxSteps := 2000000) (disch := omega) only [go_sem] <;> done))) | (apply w_condF; (next => (simp (maxSteps := 2000000) (disch := omega) only [go_sem] <;> done))))
        (simp (maxSteps := 2000000) (disch := omega) only [go_sem, noId_c, noId_agg, noId_tup, noId_snap, encL_noIdE, sec_noIdE, List.drop_zero, List.take_length]; (repeat (first | exact .refl _ | exact .nil | exact wks_nil | refine wks_cons ?_ ?_ | refine wk_tup ?_ | refine wk_agg ?_)))
      · have hw : wIn (s, c) = (s, 4096, decide (s < 4096)) := by
          simp only [wIn, wFrom, wTo, if_neg h0, if_neg (show ¬ (0 : Int) > s by omega), h3, h1, or_self, if_false]
        rw [hw]
        repeat (first | (refine aw_seq ?_) | (apply w_region (by rfl); (next => (simp (maxSteps := 2000000) (disch := omega) only [go_sem] <;> exact rfl))) | (refine w_nil ?_) | (refine w_hold2 ?_) | (refine w_then ?_) | (refine aw_skip ?_) | (refine aw_ret ?_) | (apply w_end; (next => (simp (maxSteps := 2000000) (disch := omega) only [go_sem, Try.f56] <;> exact rfl))) | (apply w_condF; (next => (simp (maxSteps := 2000000) (disch := omega) only [go_sem] <;> done))))
        (simp (maxSteps := 2000000) (disch := omega) only [go_sem, noId_c, noId_agg, noId_tup, noId_snap, encL_noIdE, sec_noIdE, List.drop_zero, List.take_length]; (repeat (first | exact .refl _ | exact .nil | exact wks_nil | refine wks_cons ?_ ?_ | refine wk_tup ?_ | refine wk_agg ?_)))

theorem contains1_p (i : Int) (e : Int × Int) (hs : I64e e.1) (hc : I64e e.2) : PCall Try.prog 55 [.agg (encExt e), .sptr [[zV i]] 0 0] (· = bV (inE i e)) := by
  refine pcall Try.func55 rfl (by kernel_rfl) (by simp [Try.ntmps55]) ?_
  rw [Try.ntmps55]
  have hw := within_p e.1 e.2 hs hc
  have hi : inE i e = ((wIn (e.1, e.2)).2.2 && (decide ((wIn (e.1, e.2)).1 ≤ i) && decide (i < (wIn (e.1, e.2)).2.1))) := rfl
  rw [hi]
  generalize wIn (e.1, e.2) = w at hw
  obtain ⟨a, b, c⟩ := w
  simp only [] at hw
  cases c
  · repeat (first | (refine aw_seq ?_) | (apply w_region (by rfl); (next => (simp (maxSteps := 2000000) (disch := omega) only [go_sem] <;> exact rfl))) | (refine w_nil ?_) | (refine w_hold2 ?_) | (refine w_then ?_) | (refine aw_ret ?_) | (apply w_end; (next => (simp (maxSteps := 2000000) (disch := omega) only [go_sem, Try.f55] <;> exact rfl))) | (apply w_callP (hop := rfl) (hg := rfl) (hp := hw); (next => (simp (maxSteps := 2000000) (disch := omega) only [go_sem] <;> exact rfl)); (next => (simp [noId_c, noId_agg, noId_snap, noId_tup,encD,sec_noIdE,encL_noId,encL_noIdE,encCa,encOp,encExt]; done)); (next => (simp (maxSteps := 2000000) (disch := omega) only [go_sem] <;> exact rfl))))
    (simp (maxSteps := 2000000) (disch := omega) only [go_sem, noId_c, noId_agg, noId_tup, noId_snap, encL_noIdE, sec_noIdE, List.drop_zero, List.take_length]; (repeat (first | exact .refl _ | exact .nil | exact wks_nil | refine wks_cons ?_ ?_ | refine wk_tup ?_ | refine wk_agg ?_)))
  · by_cases h1 : a ≤ i
    · repeat (first | (refine aw_seq ?_) | (apply w_region (by rfl); (next => (simp (maxSteps := 2000000) (disch := omega) only [go_sem] <;> exact rfl))) | (refine w_nil ?_) | (refine w_hold2 ?_) | (refine w_then ?_) | (refine aw_ret ?_) | (apply w_end; (next => (simp (maxSteps := 2000000) (disch := omega) only [go_sem, Try.f55] <;> exact rfl))) | (apply w_callP (hop := rfl) (hg := rfl) (hp := hw); (next => (simp (maxSteps := 2000000) (disch := omega) only [go_sem] <;> exact rfl)); (next => (simp [noId_c, noId_agg, noId_snap, noId_tup,encD,sec_noIdE,encL_noId,encL_noIdE,encCa,encOp,encExt]; done)); (next => (simp (maxSteps := 2000000) (disch := omega) only [go_sem] <;> exact rfl))))
      (simp (maxSteps := 2000000) (disch := omega) only [go_sem, noId_c, noId_agg, noId_tup, noId_snap, encL_noIdE, sec_noIdE, List.drop_zero, List.take_length]; (repeat (first | exact .refl _ | exact .nil | exact wks_nil | refine wks_cons ?_ ?_ | refine wk_tup ?_ | refine wk_agg ?_)))
    · repeat (first | (refine aw_seq ?_) | (apply w_region (by rfl); (next => (simp (maxSteps := 2000000) (disch := omega) only [go_sem] <;> exact rfl))) | (refine w_nil ?_) | (refine w_hold2 ?_) | (refine w_then ?_) | (refine aw_ret ?_) | (apply w_end; (next => (simp (maxSteps := 2000000) (disch := omega) only [go_sem, Try.f55] <;> exact rfl))) | (apply w_callP (hop := rfl) (hg := rfl) (hp := hw); (next => (simp (maxSteps := 2000000) (disch := omega) only [go_sem] <;> exact rfl)); (next => (simp [noId_c, noId_agg, noId_snap, noId_tup,encD,sec_noIdE,encL_noId,encL_noIdE,encCa,encOp,encExt]; done)); (next => (simp (maxSteps := 2000000) (disch := omega) only [go_sem] <;> exact rfl))))
      (simp (maxSteps := 2000000) (disch := omega) only [go_sem, noId_c, noId_agg, noId_tup, noId_snap, encL_noIdE, sec_noIdE, List.drop_zero, List.take_length]; (repeat (first | exact .refl _ | exact .nil | exact wks_nil | refine wks_cons ?_ ?_ | refine wk_tup ?_ | refine wk_agg ?_)))

theorem indexE_p (p : Int × Int → Bool) (n : FuncId) (l : List (Int × Int)) (first cap : List AV) (hp : ∀ x ∈ l, PCall Try.prog n (first ++ [.agg (encExt x)] ++ cap) (· = bV (p x))) (hn1 : ∀ x ∈ first, NoId x) (hn2 : ∀ x ∈ cap, NoId x) (hL : l.length ≤ 1000000) : PCall Try.prog 67 [.snap (encL encExt l), .fn (.func n) first cap] (· = zV (idxFrom p l 0)) := by
  refine pcall Try.func67 rfl (by kernel_rfl) (by simp [Try.ntmps67]) ?_
  rw [Try.ntmps67]
  repeat (first | (refine aw_seq ?_) | (apply w_region (by rfl); (next => (simp (maxSteps := 2000000) (disch := omega) only [go_sem] <;> exact rfl))) | (refine w_nil ?_) | (refine w_then ?_) | (refine aw_block ?_))
  refine w_loop (HeadI encExt p l (.fn (.func n) first cap)) l.length ?_ ?_
  · refine ⟨_, _, ⟨0, 1000, by omega, by omega, by simp, rfl, rfl⟩, ?_⟩
    refine holds_cons (by rfl) (holds_cons (by rfl) (holds_cons (by rfl) (holds_cons (by rfl) (holds_nil (by simp only []; omega) (fun _ _ h => h)))))
  · rintro n' env H ⟨k, m, rfl, hk, hix, rfl, rfl⟩
    by_cases hlt : k < l.length
    · have hq := hp (l.getD k zExt) (getD_mem' zExt hlt)
      cases hb : p (l.getD k zExt)
      · rw [hb] at hq
        repeat (first | (refine aw_seq ?_) | (apply w_region (by rfl); (next => (simp (maxSteps := 2000000) (disch := omega) only [go_sem, (encL_get (f := encExt) zExt)] <;> exact rfl))) | (refine w_nil ?_) | (refine w_then ?_) | (refine aw_skip ?_) | (refine aw_block ?_) | (apply w_condT; (next => (simp (maxSteps := 2000000) (disch := omega) only [go_sem, (encL_get (f := encExt) zExt)] <;> done))) | (apply w_condF; (next => (simp (maxSteps := 2000000) (disch := omega) only [go_sem, (encL_get (f := encExt) zExt)] <;> done))) | (apply w_callP (hop := rfl) (hg := rfl) (hp := hq); (next => (simp (maxSteps := 2000000) (disch := omega) only [go_sem, (encL_get (f := encExt) zExt)] <;> exact rfl)); (next => (simp [noId_c, noId_agg, noId_snap, noId_tup,encD,sec_noIdE,encL_noId,encL_noIdE,encCa,encOp,encExt,List.mem_append,or_imp,forall_and,eq_true hn1,eq_true hn2]; done)); (next => (simp (maxSteps := 2000000) (disch := omega) only [go_sem, (encL_get (f := encExt) zExt)] <;> exact rfl))))
        refine ⟨l.length - (k + 1), by omega, _, _, ⟨k + 1, m, rfl, by omega, by rw [hix, idxFrom_miss hlt hb], rfl, rfl⟩, ?_⟩
        refine holds_cons (by rfl) (holds_cons (by rfl) (holds_cons (by rfl) (holds_cons (by rfl) (holds_nil (by simp only []; omega) (fun _ _ h => h)))))
      · rw [hb] at hq
        repeat (first | (refine aw_seq ?_) | (apply w_region (by rfl); (next => (simp (maxSteps := 2000000) (disch := omega) only [go_sem, (encL_get (f := encExt) zExt)] <;> exact rfl))) | (refine w_nil ?_) | (refine w_hold2 ?_) | (refine w_then ?_) | (refine w_thenR ?_) | (refine w_blockR ?_) | (refine aw_skip ?_) | (refine aw_ret ?_) | (refine aw_block ?_) | (apply w_end; (next => (simp (maxSteps := 2000000) (disch := omega) only [go_sem, (encL_get (f := encExt) zExt), Try.f67] <;> exact rfl))) | (apply w_condT; (next => (simp (maxSteps := 2000000) (disch := omega) only [go_sem, (encL_get (f := encExt) zExt)] <;> done))) | (apply w_callP (hop := rfl) (hg := rfl) (hp := hq); (next => (simp (maxSteps := 2000000) (disch := omega) only [go_sem, (encL_get (f := encExt) zExt)] <;> exact rfl)); (next => (simp [noId_c, noId_agg, noId_snap, noId_tup,encD,sec_noIdE,encL_noId,encL_noIdE,encCa,encOp,encExt,List.mem_append,or_imp,forall_and,eq_true hn1,eq_true hn2]; done)); (next => (simp (maxSteps := 2000000) (disch := omega) only [go_sem, (encL_get (f := encExt) zExt)] <;> exact rfl))))
        (simp (maxSteps := 2000000) (disch := omega) only [go_sem, noId_c, noId_agg, noId_tup, noId_snap, encL_noIdE, sec_noIdE] <;> simp [hix, idxFrom_hit hlt hb])
    · repeat (first | (refine aw_seq ?_) | (apply w_region (by rfl); (next => (simp (maxSteps := 2000000) (disch := omega) only [go_sem] <;> exact rfl))) | (refine w_nil ?_) | (refine w_hold2 ?_) | (refine w_then ?_) | (refine aw_ret ?_) | (refine aw_exit ?_) | (apply w_end; (next => (simp (maxSteps := 2000000) (disch := omega) only [go_sem, Try.f67] <;> exact rfl))) | (apply w_condF; (next => (simp (maxSteps := 2000000) (disch := omega) only [go_sem] <;> done))))
      (simp (maxSteps := 2000000) (disch := omega) only [go_sem, noId_c, noId_agg, noId_tup, noId_snap, encL_noIdE, sec_noIdE] <;> simp [hix, idxFrom_end (show l.length ≤ k by omega)])

theorem containsE_p (p : Int × Int → Bool) (n : FuncId) (l : List (Int × Int)) (first cap : List AV) (hp : ∀ x ∈ l, PCall Try.prog n (first ++ [.agg (encExt x)] ++ cap) (· = bV (p x))) (hn1 : ∀ x ∈ first, NoId x) (hn2 : ∀ x ∈ cap, NoId x) (hL : l.length ≤ 1000000) : PCall Try.prog 54 [.snap (encL encExt l), .fn (.func n) first cap] (· = bV (l.any p)) := by
  refine pcall Try.func54 rfl (by kernel_rfl) (by simp [Try.ntmps54]) ?_
  rw [Try.ntmps54]
  have hany := idxFrom_any p l 0
  repeat (first | (refine aw_seq ?_) | (apply w_region (by rfl); (next => (simp (maxSteps := 2000000) (disch := omega) only [go_sem] <;> exact rfl))) | (refine w_nil ?_) | (refine w_hold2 ?_) | (refine w_then ?_) | (refine aw_ret ?_) | (apply w_end; (next => (simp (maxSteps := 2000000) (disch := omega) only [go_sem, Try.f54] <;> exact rfl))) | (apply w_callP (hop := rfl) (hg := rfl) (hp := (indexE_p p n l first cap hp hn1 hn2 hL)); (next => (simp (maxSteps := 2000000) (disch := omega) only [go_sem] <;> exact rfl)); (next => (simp [noId_c, noId_agg, noId_snap, noId_tup,encD,sec_noIdE,encL_noId,encL_noIdE,encCa,encOp,encExt,noId_fn,List.mem_append,or_imp,forall_and,eq_true hn1,eq_true hn2,encL_noIdE]; done)); (next => (simp (maxSteps := 2000000) (disch := omega) only [go_sem] <;> exact rfl))))
  first | done | (simp (maxSteps := 2000000) (disch := omega) only [go_sem, noId_c, noId_agg, noId_tup, noId_snap, encL_noIdE, sec_noIdE] <;> simp [hany])

theorem contains_p (l : List (Int × Int)) (i : Int) (hl : ∀ x ∈ l, I64e x.1 ∧ I64e x.2) (hC : l.length ≤ 1000000) : PCall Try.prog 30 [.snap (encL encExt l), zV i] (· = bV (l.any (inE i))) := by
  refine pcall Try.func30 rfl (by kernel_rfl) (by simp [Try.ntmps30]) ?_
  rw [Try.ntmps30]
  have hna : ∀ x ∈ ([] : List AV), NoId x := fun x h => by cases h
  have hnb : ∀ x ∈ [AV.sptr [[zV i]] 0 0], NoId x := fun x h => by
    rw [List.mem_singleton.1 h, noId_sptr]
    intro row hr x hx
    rw [List.mem_singleton.1 hr] at hx
    rw [List.mem_singleton.1 hx]
    exact .c _
  repeat (first | (refine aw_seq ?_) | (apply w_region (by rfl); (next => (simp (maxSteps := 2000000) (disch := omega) only [go_sem] <;> exact rfl))) | (refine w_nil ?_) | (refine w_hold2 ?_) | (refine w_then ?_) | (refine aw_ret ?_) | (apply w_end; (next => (simp (maxSteps := 2000000) (disch := omega) only [go_sem, Try.f30] <;> exact rfl))) | (apply w_callX (hop := rfl) (hg := rfl) (hp := (containsE_p (inE i) 55 l [] [.sptr [[zV i]] 0 0] (fun x hx => contains1_p i x (hl x hx).1 (hl x hx).2) hna hnb hC)); (next => (simp (maxSteps := 2000000) (disch := omega) only [go_sem] <;> exact rfl)); (next => (simp (maxSteps := 2000000) (disch := omega) only [go_sem] <;> exact rfl)); (next => (simp [noId_c, noId_agg, noId_snap, noId_tup,encD,sec_noIdE,encL_noId,encL_noIdE,encCa,encOp,encExt,noId_fn,noId_sptr]; done)); (next => (simp (maxSteps := 2000000) (disch := omega) only [go_sem] <;> exact rfl)); (next => (simp (maxSteps := 2000000) (disch := omega) only [go_sem] <;> exact rfl))))
  (simp (maxSteps := 2000000) (disch := omega) only [go_sem, noId_c, noId_agg, noId_tup, noId_snap, encL_noIdE, sec_noIdE, List.drop_zero, List.take_length]; (repeat (first | exact .refl _ | exact .nil | exact wks_nil | refine wks_cons ?_ ?_ | refine wk_tup ?_ | refine wk_agg ?_)))

end Go.Proofs.Ytniccdnhjbnaeaa

/- What running in two parts and what a crash behind a sync keep. Plain. -/
namespace Go.Proofs.Ytniccdnhjbnaeaa
open Go.Proofs Go.AL
set_option linter.unusedVariables false
set_option linter.unusedSimpArgs false

/-- All went well. -/
def okL (d : Dsk) (ops : List Opr) : Prop := (runL d ops 0).2.2 = 0
theorem stepS_e {d d' : Dsk} (h : d.st.length = d'.st.length) (o : Opr) {e : Int} : stepS d o = .inl e → stepS d' o = .inl e := by
  unfold stepS
  rw [h]
  intro h1
  split at h1
  · rename_i h0
    rw [if_pos h0]
    split at h1
    · cases h1
    · rename_i h2; rw [if_neg h2]; exact h1
  · rename_i h0
    rw [if_neg h0]
    split at h1
    · cases h1
    · rename_i h2; rw [if_neg h2]; exact h1
theorem stepS_len {d d' : Dsk} {o : Opr} (h : stepS d o = .inr d') : d'.st.length = d.st.length := by
  unfold stepS at h
  split at h
  · split at h
    · injection h with h; subst h; rfl
    · cases h
  · split at h
    · injection h with h; subst h; exact newD_len d
    · cases h
theorem stepS_ok {d d' : Dsk} {o : Opr} (hd : inAll d) (h : stepS d o = .inr d') : inAll d' := by
  unfold stepS at h
  split at h
  · split at h
    · rename_i hi
      injection h with h; subst h; exact inAll_put hd hi
    · cases h
  · split at h
    · injection h with h; subst h; exact inAll_new d
    · cases h
theorem stepS_pos {d : Dsk} {o : Opr} {e : Int} (h : stepS d o = .inl e) : e ≠ 0 := by
  unfold stepS at h
  split at h
  · split at h
    · cases h
    · injection h with h; subst h; decide
  · split at h
    · cases h
    · injection h with h; subst h; decide
/-- The index plays no part. -/
theorem runL_idx : ∀ (ops : List Opr) (d : Dsk) (j : Nat), (runL d ops j).1 = (runL d ops 0).1 ∧ (runL d ops j).2.2 = (runL d ops 0).2.2
  | [], d, j => ⟨rfl, rfl⟩
  | o :: r, d, j => by
    simp only [runL]
    cases hs : stepS d o with
    | inl e => exact ⟨rfl, rfl⟩
    | inr d' =>
      obtain ⟨h1, h2⟩ := runL_idx r d' (j + 1)
      obtain ⟨h3, h4⟩ := runL_idx r d' (0 + 1)
      exact ⟨h1.trans h3.symm, h2.trans h4.symm⟩
theorem runL_n : ∀ (ops : List Opr) (d : Dsk) (j : Nat), (runL d ops j).2.2 = 0 → (runL d ops j).2.1 = ((j + ops.length : Nat) : Int)
  | [], d, j, _ => rfl
  | o :: r, d, j, h => by
    simp only [runL] at h ⊢
    cases hs : stepS d o with
    | inl e => rw [hs] at h; exact absurd h (stepS_pos hs)
    | inr d' =>
      rw [hs] at h
      simp only [] at h ⊢
      rw [runL_n r d' (j + 1) h, List.length_cons]
      congr 1; omega
theorem runL_ok : ∀ (ops : List Opr) (d : Dsk) (j : Nat), inAll d → (runL d ops j).2.2 = 0 → inAll (runL d ops j).1 ∧ (runL d ops j).1.st.length = d.st.length
  | [], d, j, h, _ => ⟨h, rfl⟩
  | o :: r, d, j, hd, h => by
    simp only [runL] at h ⊢
    cases hs : stepS d o with
    | inl e => rw [hs] at h; exact absurd h (stepS_pos hs)
    | inr d' =>
      rw [hs] at h
      obtain ⟨h1, h2⟩ := runL_ok r d' (j + 1) (stepS_ok hd hs) h
      exact ⟨h1, h2.trans (stepS_len hs)⟩
theorem runL_app : ∀ (a b : List Opr) (d : Dsk) (j : Nat), (runL d (a ++ b) j).2.2 = 0 → (runL d a j).2.2 = 0 ∧ (runL (runL d a j).1 b 0).2.2 = 0 ∧ (runL d (a ++ b) j).1 = (runL (runL d a j).1 b 0).1
  | [], b, d, j, h => ⟨rfl, by rw [← (runL_idx b _ j).2]; exact h, (runL_idx b _ j).1⟩
  | o :: r, b, d, j, h => by
    simp only [runL, List.cons_append] at h ⊢
    cases hs : stepS d o with
    | inl e => rw [hs] at h; exact absurd h (stepS_pos hs)
    | inr d' =>
      rw [hs] at h
      exact runL_app r b d' (j + 1) h
theorem runL_join : ∀ (a b : List Opr) (d : Dsk) (j : Nat), (runL d a j).2.2 = 0 → (runL (runL d a j).1 b 0).2.2 = 0 → (runL d (a ++ b) j).2.2 = 0 ∧ (runL d (a ++ b) j).1 = (runL (runL d a j).1 b 0).1
  | [], b, d, j, _, h => ⟨by rw [← (runL_idx b _ j).2] at h; exact h, (runL_idx b _ j).1⟩
  | o :: r, b, d, j, h, h2 => by
    simp only [runL, List.cons_append] at h h2 ⊢
    cases hs : stepS d o with
    | inl e => rw [hs] at h; exact absurd h (stepS_pos hs)
    | inr d' =>
      rw [hs] at h h2
      exact runL_join r b d' (j + 1) h h2
theorem runL_same : ∀ (ops : List Opr) (d d' : Dsk) (j : Nat), d.st.length = d'.st.length → (runL d ops j).2.2 = 0 → (runL d' ops j).2.2 = 0
  | [], d, d', j, _, _ => rfl
  | o :: r, d, d', j, hl, h => by
    simp only [runL] at h ⊢
    cases hs : stepS d o with
    | inl e => rw [hs] at h; exact absurd h (stepS_pos hs)
    | inr d1 =>
      rw [hs] at h
      cases hs' : stepS d' o with
      | inl e => rw [stepS_e hl.symm o hs'] at hs; cases hs
      | inr d2 => exact runL_same r d1 d2 (j + 1) (by rw [stepS_len hs, stepS_len hs', hl]) h

/-- Sector i is kept: its stable content, and no version in the cache. -/
def Keeps (d : Dsk) (i : Nat) (s : Sec) : Prop := d.st.getD i zSec = s ∧ ∀ c ∈ d.ca, c.1 ≠ (i : Int)
theorem newD_keep {d : Dsk} {i : Nat} (hd : inAll d) (h : ∀ c ∈ d.ca, c.1 ≠ (i : Int)) : (newD d).getD i zSec = d.st.getD i zSec := by
  unfold newD newTo
  rw [List.take_length]
  have key : ∀ (l : List (Int × Sec)) (o : List Sec), (∀ c ∈ l, 0 ≤ c.1 ∧ c.1 ≠ (i : Int)) → (l.foldl (fun o c => o.set c.1.toNat c.2) o).getD i zSec = o.getD i zSec := by
    intro l
    induction l with
    | nil => intro o _; rfl
    | cons x r ih =>
      intro o hl
      rw [List.foldl_cons, ih _ fun c hc => hl c (by simp [hc])]
      have := hl x (by simp)
      rw [List.getD_eq_getElem?_getD, List.getElem?_set_ne (by omega), ← List.getD_eq_getElem?_getD]
  exact key _ _ fun c hc => ⟨(hd c hc).1, h c hc⟩
/-- No write of the operations meets sector i. -/
def misses (ops : List Opr) (i : Nat) : Prop := ∀ o ∈ ops, o.kind = 0 → inE i (o.at_, o.data.length) = false
theorem inE_in {n : Nat} {a : Int} {l : Nat} {i : Nat} (hn : n ≤ 4096) (h : insideB n a l = true) (hj : ∃ j : Nat, j < l ∧ a + (j : Int) = i) : inE i (a, l) = true := by
  simp only [insideB, Bool.and_eq_true, decide_eq_true_eq] at h
  obtain ⟨j, h1, h2⟩ := hj
  unfold inE wIn
  rw [if_neg (by show ¬ (l : Int) ≤ 0; omega)]
  have hf : wFrom (a, (l : Int)) = a := by unfold wFrom; exact if_neg (by show ¬ (0 : Int) > a; omega)
  have ht : i < wTo (a, (l : Int)) := by
    unfold wTo
    show (i : Int) < if a < 0 ∨ (l : Int) < 4096 - a then (if 4096 < a + l then 4096 else a + l) else 4096
    split
    · split <;> omega
    · omega
  simp only [hf, Bool.and_eq_true, decide_eq_true_eq]
  omega
theorem step_keep {d d' : Dsk} {o : Opr} {i : Nat} {s : Sec} (hd : inAll d) (hL : d.st.length ≤ 4096) (hk : Keeps d i s) (hm : o.kind = 0 → inE i (o.at_, o.data.length) = false) (h : stepS d o = .inr d') : Keeps d' i s := by
  unfold stepS at h
  split at h
  · rename_i h0
    split at h
    · rename_i hi
      injection h with h
      subst h
      refine ⟨hk.1, fun c hc => ?_⟩
      simp only [putS, List.mem_append, List.mem_map, List.mem_range] at hc
      rcases hc with hc | ⟨j, hj, rfl⟩
      · exact hk.2 c hc
      · intro he
        have := inE_in hL hi ⟨j, hj, he⟩
        rw [hm h0] at this
        cases this
    · cases h
  · split at h
    · injection h with h
      subst h
      exact ⟨(newD_keep hd hk.2).trans hk.1, fun c hc => by cases hc⟩
    · cases h
theorem run_keep : ∀ (ops : List Opr) (d : Dsk) (j : Nat) {i : Nat} {s : Sec}, inAll d → d.st.length ≤ 4096 → Keeps d i s → misses ops i → (runL d ops j).2.2 = 0 → Keeps (runL d ops j).1 i s
  | [], d, j, i, s, _, _, hk, _, _ => hk
  | o :: r, d, j, i, s, hd, hL, hk, hm, h => by
    simp only [runL] at h ⊢
    cases hs : stepS d o with
    | inl e => rw [hs] at h; exact absurd h (stepS_pos hs)
    | inr d' =>
      rw [hs] at h
      exact run_keep r d' (j + 1) (stepS_ok hd hs) (by rw [stepS_len hs]; exact hL) (step_keep hd hL hk (hm o (by simp)) hs) (fun o' ho' => hm o' (by simp [ho'])) h
theorem vers_none {ca : List (Int × Sec)} {i : Nat} (h : ∀ c ∈ ca, c.1 ≠ (i : Int)) : versS ca i = [] := by
  unfold versS
  rw [List.filter_eq_nil_iff.2 fun c hc => by have := h c hc; simpa using this]
  rfl
theorem crashStep_other (ca : List (Int × Sec)) (s : List Sec × List Int) {k i : Nat} (h : k ≠ i) : (crashStep ca s k).1.getD i zSec = s.1.getD i zSec := by
  unfold crashStep
  split
  · rfl
  · split
    · simp only [List.getD_eq_getElem?_getD]; rw [List.getElem?_set_ne h]
    · rfl
theorem crashTo_keep {ca : List (Int × Sec)} {st : List Sec} {c : List Int} {i : Nat} (h : versS ca i = []) : ∀ k, (crashTo ca st c k).1.getD i zSec = st.getD i zSec
  | 0 => rfl
  | k + 1 => by
    rw [crashTo_succ]
    by_cases hk : k = i
    · subst hk
      unfold crashStep
      rw [if_pos (by rw [h]; rfl)]
      exact crashTo_keep h k
    · rw [crashStep_other _ _ hk]
      exact crashTo_keep h k
theorem crashS_keep {d : Dsk} {c : List Int} {i : Nat} {s : Sec} (h : Keeps d i s) : (crashS d c).1.st.getD i zSec = s := by
  unfold crashS
  split
  · exact (crashTo_keep (vers_none h.2) _).trans h.1
  · exact h.1
theorem crashS_len (d : Dsk) (c : List Int) : (crashS d c).1.st.length = d.st.length := by
  unfold crashS
  split
  · exact crashTo_len _ _ _ _
  · rfl

/-- The disk of zeros. -/
def zD (n : Nat) : Dsk := ⟨List.replicate n zSec, []⟩
theorem zD_ok (n : Nat) : inAll (zD n) := fun c hc => by cases hc
theorem zD_check {n : Nat} (h : n ≤ 4096) : checkD (zD n) = 0 := checkD_of (zD_ok n) (by simpa [zD] using h)
theorem zD_len (n : Nat) : (zD n).st.length = n := by simp [zD]

abbrev syncO : Opr := ⟨1, 0, []⟩
/-- The whole: what the law asks. -/
structure Divides (n : Nat) (ops : List Opr) (k : Nat) (c : List Int) : Prop where
  e1 : (runS (zD n) (ops.take k)).2.2 = 0
  n1 : (runS (zD n) (ops.take k)).2.1 = k
  e2 : (runS (runS (zD n) (ops.take k)).1 (ops.drop k)).2.2 = 0
  all : (runS (runS (zD n) (ops.take k)).1 (ops.drop k)).1 = (runS (zD n) ops).1
  syn : syncS (runS (zD n) (ops.take k)).1 = ⟨newD (runS (zD n) (ops.take k)).1, []⟩
  len1 : (newD (runS (zD n) (ops.take k)).1).length = n
  inter : (interS (zD n) (ops.take k ++ [syncO] ++ ops.drop k) (ops.take k ++ [syncO] ++ ops.drop k).length c).2.2 = 0
  len2 : (interS (zD n) (ops.take k ++ [syncO] ++ ops.drop k) (ops.take k ++ [syncO] ++ ops.drop k).length c).1.st.length = n
  keep : ∀ i, misses (ops.drop k) i → (interS (zD n) (ops.take k ++ [syncO] ++ ops.drop k) (ops.take k ++ [syncO] ++ ops.drop k).length c).1.st.getD i zSec = (newD (runS (zD n) (ops.take k)).1).getD i zSec
theorem divides {n : Nat} {ops : List Opr} {k : Nat} (c : List Int) (hn : n ≤ 4096) (hk : k ≤ ops.length) (h : (runS (zD n) ops).2.2 = 0) : Divides n ops k c := by
  have hz := zD_check hn
  have hr : ∀ ops, runS (zD n) ops = runL (zD n) ops 0 := fun ops => if_pos hz
  rw [hr] at h
  have hsp : ops = ops.take k ++ ops.drop k := (List.take_append_drop k ops).symm
  obtain ⟨h1, h2, h3⟩ := runL_app (ops.take k) (ops.drop k) (zD n) 0 (by rw [← hsp]; exact h)
  rw [← hsp] at h3
  obtain ⟨h4, h5⟩ := runL_ok (ops.take k) (zD n) 0 (zD_ok n) h1
  have hn1 := runL_n (ops.take k) (zD n) 0 h1
  rw [zD_len] at h5
  have hc1 : checkD (runL (zD n) (ops.take k) 0).1 = 0 := checkD_of h4 (by omega)
  have hr2 : runS (runL (zD n) (ops.take k) 0).1 (ops.drop k) = runL (runL (zD n) (ops.take k) 0).1 (ops.drop k) 0 := if_pos hc1
  have hl1 : (newD (runL (zD n) (ops.take k) 0).1).length = n := by rw [newD_len]; exact h5
  have hs1 : (runL ⟨newD (runL (zD n) (ops.take k) 0).1, []⟩ (ops.drop k) 0).2.2 = 0 := runL_same _ _ _ 0 (by simp only []; rw [hl1]; exact h5) h2
  have hj1 : (runL (zD n) (ops.take k ++ [syncO]) 0).2.2 = 0 ∧ (runL (zD n) (ops.take k ++ [syncO]) 0).1 = ⟨newD (runL (zD n) (ops.take k) 0).1, []⟩ := by
    obtain ⟨g1, g2⟩ := runL_join (ops.take k) [syncO] (zD n) 0 h1 rfl
    exact ⟨g1, g2⟩
  obtain ⟨g1, g2⟩ := runL_join (ops.take k ++ [syncO]) (ops.drop k) (zD n) 0 hj1.1 (by rw [hj1.2]; exact hs1)
  rw [hj1.2] at g2
  have hmo := hr (ops.take k ++ [syncO] ++ ops.drop k)
  have hin : ∀ m : List Opr, (runL (zD n) m 0).2.2 = 0 → interS (zD n) m m.length c = ((crashS (runL (zD n) m 0).1 c).1, (crashS (runL (zD n) m 0).1 c).2, 0) := fun m hm => by
    unfold interS
    rw [if_pos hz, if_pos (by omega), Int.toNat_natCast, List.take_length, hr, if_pos hm]
  have hmi := hin _ g1
  rw [g2] at hmi
  refine ⟨?_, ?_, ?_, ?_, ?_, ?_, ?_, ?_, fun i hi => ?_⟩
  · rw [hr]; exact h1
  · rw [hr, hn1]; simp; omega
  · rw [hr, hr2]; exact h2
  · rw [hr, hr2, hr]; exact h3.symm
  · rw [hr]; exact if_pos hc1
  · rw [hr]; exact hl1
  · rw [hmi]
  · rw [hmi, crashS_len]
    exact (runL_ok _ _ _ (inAll_new _) hs1).2.trans hl1
  · rw [hmi, hr]
    exact crashS_keep (run_keep (ops.drop k) _ 0 (inAll_new _) (by simp only []; omega) ⟨rfl, fun c hc => by cases hc⟩ hi hs1)
end Go.Proofs.Ytniccdnhjbnaeaa

namespace Go.Proofs.Ytniccdnhjbnaeaa
open Go.Proofs Go.AL
set_option maxRecDepth 100000
set_option maxHeartbeats 1000000
set_option linter.unusedVariables false
set_option linter.unusedSimpArgs false
attribute [local irreducible] endA AW aops thenA blockA hold
attribute [local go_sem] dec_ltT dec_ltF dec_leT dec_leF beq_T beq_F bne_T bne_F encD

attribute [local go_sem] keepE keepT
set_option maxHeartbeats 8000000

def kOf (ops : List Opr) (x : Int) : Nat := if ops.length = 0 then 0 else (x % (ops.length : Int)).toNat
theorem kOf_le (ops : List Opr) (x : Int) : kOf ops x ≤ ops.length := by
  unfold kOf
  split
  · omega
  · have := Int.emod_lt_of_pos x (show (0 : Int) < ops.length by omega)
    have := Int.emod_nonneg x (show (ops.length : Int) ≠ 0 by omega)
    omega
theorem rep40 (n : Nat) : (n : Int).tmod 40 = ((n % 40 : Nat) : Int) := by rw [Int.tmod_eq_emod_of_nonneg (by omega)]; omega
theorem ops_sync : [[zV 1, zV 0, .snap (encL encSec [])]] = encL encOp [syncO] := rfl
theorem z8_rep (m : Nat) : List.replicate m [uV 0, uV 0, uV 0, uV 0, uV 0, uV 0, uV 0, uV 0] = encL encSec (List.replicate m zSec) := (encL_repl (f := encSec) m zSec)


/-- The extents that the operations write. -/
def extsOf (l : List Opr) : List (Int × Int) := (l.filter fun o => o.kind == 0).map fun o => (o.at_, (o.data.length : Int))
theorem exts_miss {l : List Opr} {i : Nat} (h : (extsOf l).any (inE i) = false) : misses l i := fun o ho h0 => by
  rw [List.any_eq_false] at h
  have := h (o.at_, (o.data.length : Int)) (List.mem_map.2 ⟨o, List.mem_filter.2 ⟨ho, by simpa using h0⟩, rfl⟩)
  simpa using this
theorem exts_rng {l : List Opr} (h : ∀ o ∈ l, I64e o.at_ ∧ o.data.length ≤ 9223372036854775807) : ∀ x ∈ extsOf l, I64e x.1 ∧ I64e x.2 := fun x hx => by
  obtain ⟨o, ho, rfl⟩ := List.mem_map.1 hx
  have := h o (List.mem_filter.1 ho).1
  refine ⟨this.1, ?_⟩
  unfold I64e
  simp only []
  omega
theorem exts_len (l : List Opr) : (extsOf l).length ≤ l.length := by
  unfold extsOf; rw [List.length_map]; exact List.length_filter_le _ _
theorem exts_hit {l : List Opr} {k : Nat} (h : k < l.length) (h0 : (l.getD k default).kind = 0) : extsOf (l.take (k + 1)) = extsOf (l.take k) ++ [((l.getD k default).at_, ((l.getD k default).data.length : Int))] := by
  have h1 : l[k].kind = 0 := by simpa [h] using h0
  unfold extsOf
  rw [List.take_succ_eq_append_getElem h, List.filter_append, List.map_append]
  simp [h, h1]
theorem exts_skip {l : List Opr} {k : Nat} (h : k < l.length) (h0 : ¬ (l.getD k default).kind = 0) : extsOf (l.take (k + 1)) = extsOf (l.take k) := by
  have h1 : ¬ l[k].kind = 0 := by simpa [h] using h0
  unfold extsOf
  rw [List.take_succ_eq_append_getElem h, List.filter_append, List.map_append]
  simp [h, h1]
def Evv (wv : AV) (m : Nat) (mb : Option Blk) (l : List (Int × Int)) : Prop :=
  (∃ w, wv = .own m 0 l.length ∧ mb = some (.cells 29 2 (encL encExt l) w true)) ∨ (wv = .c (.slice none 0 0) ∧ mb = none ∧ l = [])
theorem Evv.mk {m n : Nat} {w : Bool} {l : List (Int × Int)} (h : n = l.length) : Evv (.own m 0 n) m (some (.cells 29 2 (encL encExt l) w true)) l := .inl ⟨w, by rw [h], rfl⟩
theorem Evv.nil0 {m : Nat} : Evv (.c (.slice none 0 0)) m none [] := .inr ⟨rfl, rfl, rfl⟩
theorem ext_snocE (a : List (Int × Int)) (x y : Int) : encL encExt a ++ [[zV x, zV y]] = encL encExt (a ++ [(x, y)]) := encL_snoc a (x, y)
def HeadWa (dr : List Opr) (SY : List Sec) (Y : Dsk) (n : Nat) (env : List (Nat × Bool × AV)) (H : Heap) : Prop :=
  ∃ (j : Nat) (wv : AV) (m : Nat) (mb : Option Blk) (N : Nat), n = dr.length - j ∧ j ≤ dr.length ∧ Evv wv m mb (extsOf (dr.take j)) ∧ m < N ∧ 142 ≤ m ∧
    env = [(141, true, zV (j : Int)), (140, true, zV (dr.length : Int)), (139, true, .snap (encL encOp dr)), (23, true, wv), (20, true, .ptr 141 0 0), (18, true, .ptr 126 0 0)] ∧
    H = ⟨N, tabG [(m, mb), (126, some (.cells 25 2 [encD ⟨SY, []⟩] true false)), (141, some (.cells 25 2 [encD Y] true false))]⟩
def HeadWb (M : Nat) (l : List (Int × Int)) (SY : List Sec) (Y : Dsk) (n : Nat) (env : List (Nat × Bool × AV)) (H : Heap) : Prop :=
  ∃ (i : Nat) (wv : AV) (m : Nat) (mb : Option Blk) (N : Nat), n = M - i ∧ i ≤ M ∧ Evv wv m mb l ∧ m < N ∧ 142 ≤ m ∧
    env = [(161, true, zV (i : Int)), (160, true, zV (M : Int)), (23, true, wv), (20, true, .ptr 141 0 0), (18, true, .ptr 126 0 0)] ∧
    H = ⟨N, tabG [(m, mb), (126, some (.cells 25 2 [encD ⟨SY, []⟩] true false)), (141, some (.cells 25 2 [encD Y] true false))]⟩

theorem law7_p (n : Nat) (ops : List Opr) (x : Int) (c : List Int) (hn : n < 256) (hx : I64e x) (hol : ops.length ≤ 9223372036854775807) (hcl : c.length ≤ 9223372036854775807) (hod : ∀ o ∈ ops, I64e o.at_ ∧ o.data.length ≤ 9223372036854775807) : PCall Try.prog 7 [.c (.int .u8 (n : Int)), .snap (encL encOp ops), .agg [zV x, .snap (encL intRow c)]] (· = bV true) := by
  refine pcall Try.func7 rfl (by kernel_rfl) (by simp [Try.ntmps7]) ?_
  rw [Try.ntmps7]
  cases hb0 : fewOps ops
  · repeat (first | (refine aw_seq ?_) | (apply w_region (by rfl); (next => (simp (maxSteps := 2000000) (disch := omega) only [go_sem, hb0] <;> exact rfl))) | (refine w_nil ?_) | (refine w_hold2 ?_) | (refine w_then ?_) | (refine w_thenR ?_) | (refine aw_ret ?_) | (apply w_end; (next => (simp (maxSteps := 2000000) (disch := omega) only [go_sem, hb0, Try.f7] <;> exact rfl))) | (apply w_condT; (next => (simp (maxSteps := 2000000) (disch := omega) only [go_sem, hb0] <;> done))) | (apply w_callP (hop := rfl) (hg := rfl) (hp := (fewOps_p ops hol)); (next => (simp (maxSteps := 2000000) (disch := omega) only [go_sem, hb0] <;> exact rfl)); (next => (simp [noId_c, noId_agg, noId_snap, noId_tup,encD,sec_noIdE,encL_noId,encL_noIdE,encCa,encOp,encExt]; done)); (next => (simp (maxSteps := 2000000) (disch := omega) only [go_sem, hb0] <;> exact rfl))) | (apply w_callP (hop := rfl) (hg := rfl) (hp := awake_p); (next => (simp (maxSteps := 2000000) (disch := omega) only [go_sem, hb0] <;> exact rfl)); (next => (simp [noId_c, noId_agg, noId_snap, noId_tup,encD,sec_noIdE,encL_noId,encL_noIdE,encCa,encOp,encExt]; done)); (next => (simp (maxSteps := 2000000) (disch := omega) only [go_sem, hb0] <;> exact rfl))))
    (simp (maxSteps := 2000000) (disch := omega) only [go_sem, noId_c, noId_agg, noId_tup, noId_snap, encL_noIdE, sec_noIdE, List.drop_zero, List.take_length]; (repeat (first | exact .refl _ | exact .nil | exact wks_nil | refine wks_cons ?_ ?_ | refine wk_tup ?_ | refine wk_agg ?_)))
  · have ho := fewOps_len hb0
    by_cases hc4 : c.length ≤ 400
    · have hm : n % 40 < 40 := Nat.mod_lt _ (by omega)
      have hm2 := rep40 n
      generalize n % 40 = m at hm hm2
      have c1 := lessD' (st := List.replicate m zSec) (ca := []) (a := none) (cap := 0) rfl (run_p (zD m) ops (by simp [zD]; omega) (by simp [zD]; omega) (by omega))
      have hall := divides (n := m) (ops := ops) (k := kOf ops x) c (by omega) (kOf_le ops x)
      generalize hq : runS (zD m) ops = q at c1 hall
      obtain ⟨dA, nA, eA⟩ := q
      simp only [] at c1 hall
      by_cases he : eA = 0
      · subst he
        have hD := hall rfl
        have hkl := kOf_le ops x
        have hk0 : ops.length = 0 → kOf ops x = 0 := fun h => if_pos h
        have hk1 : ops.length ≠ 0 → x % (ops.length : Int) = ((kOf ops x : Nat) : Int) := fun h => by
          have := Int.emod_nonneg x (show (ops.length : Int) ≠ 0 by omega)
          unfold kOf; rw [if_neg h]; omega
        generalize kOf ops x = k at hD hkl hk0 hk1
        obtain ⟨e1, n1, e2, hsec, hsyn, hlen1, hint, hlen2, hkeep⟩ := hD
        rw [hq] at hsec
        have hbA := runS_bd (zD m) ops
        rw [hq] at hbA
        have hb2 := runS_bd (zD m) (ops.take k)
        have hz : (zD m).st.length = m := zD_len m
        have hzc : (zD m).ca.length = 0 := rfl
        have htl : (ops.take k).length = k := by simp; omega
        have hdl : (ops.drop k).length = ops.length - k := by simp
        have c2 := lessD' (st := List.replicate m zSec) (ca := []) (a := none) (cap := 0) rfl (run_p (zD m) (ops.take k) (by omega) (by omega) (by omega))
        have c3 := run_p (runS (zD m) (ops.take k)).1 (ops.drop k) (by omega) (by omega) (by omega)
        have c5 := sync_p (runS (zD m) (ops.take k)).1 (by omega) (by omega)
        rw [hsyn] at c5
        have c4 := same_p dA dA (by simp only [] at hbA; omega) (by simp only [] at hbA; omega) (by simp only [] at hbA; omega) (by simp only [] at hbA; omega)
        rw [sameD_self] at c4
        have hA : k + 1 + (ops.length - k) = ops.length + 1 := by omega
        have hmot : List.take (ops.length + 1) (ops.take k ++ [syncO] ++ ops.drop k) = ops.take k ++ [syncO] ++ ops.drop k := List.take_of_length_le (by simp; omega)
        have htkd : (ops.drop k).take (ops.length - k) = ops.drop k := List.take_of_length_le (by omega)
        have hmol : (ops.take k ++ [syncO] ++ ops.drop k).length = ops.length + 1 := by simp; omega
        have c6 := lessD' (st := List.replicate m zSec) (ca := []) (a := none) (cap := 0) rfl (inter_p crashSaid (zD m) (ops.take k ++ [syncO] ++ ops.drop k) (ops.take k ++ [syncO] ++ ops.drop k).length c (by omega) (by omega) (by omega) (by omega))
        have hbi := interS_bd (zD m) (ops.take k ++ [syncO] ++ ops.drop k) (ops.take k ++ [syncO] ++ ops.drop k).length c
        generalize interS (zD m) (ops.take k ++ [syncO] ++ ops.drop k) (ops.take k ++ [syncO] ++ ops.drop k).length c = qi at *
        obtain ⟨Y, left, eY⟩ := qi
        simp only [] at hint hlen2 hkeep c6 hbi
        subst hint
        generalize runS (zD m) (ops.take k) = qf at *
        obtain ⟨F, nF, eF⟩ := qf
        simp only [] at e1 n1 e2 hsec hsyn hlen1 hkeep c2 c3 c5 hb2
        subst e1
        subst n1
        generalize runS F (ops.drop k) = qs at *
        obtain ⟨D2, nS, eS⟩ := qs
        simp only [] at e2 hsec c3
        subst e2
        subst hsec
        generalize newD F = SY at *
        rw [hmol] at c6
        repeat (first | (refine w_mark (id := 8) ?_) | (refine aw_seq ?_) | (apply w_region (by rfl); (next => (simp (maxSteps := 2000000) (disch := omega) only [go_sem, hb0, hm2, z8_rep, List.take_replicate, Nat.min_self, List.length_replicate, hlen1, hlen2, htl, hdl, htkd, hA, ops_sync, hmot] <;> exact rfl))) | (refine w_nil ?_) | (refine w_then ?_) | (refine aw_skip ?_) | (apply w_condF; (next => (simp (maxSteps := 2000000) (disch := omega) only [go_sem, hb0, hm2, z8_rep, List.take_replicate, Nat.min_self, List.length_replicate, hlen1, hlen2, htl, hdl, htkd, hA, ops_sync, hmot] <;> done))) | (apply w_callP (f := .func 12) (hop := rfl) (hg := rfl) (hp := (fewOps_p ops hol)); (next => (simp (maxSteps := 2000000) (disch := omega) only [go_sem, hb0, hm2, z8_rep, List.take_replicate, Nat.min_self, List.length_replicate, hlen1, hlen2, htl, hdl, htkd, hA, ops_sync, hmot] <;> exact rfl)); (next => (simp [noId_c, noId_agg, noId_snap, noId_tup,encD,sec_noIdE,encL_noId,encL_noIdE,encCa,encOp,encExt]; done)); (next => (simp (maxSteps := 2000000) (disch := omega) only [go_sem, hb0, hm2, z8_rep, List.take_replicate, Nat.min_self, List.length_replicate, hlen1, hlen2, htl, hdl, htkd, hA, ops_sync, hmot] <;> exact rfl))) | (apply w_callX (f := .func 20) (hop := rfl) (hg := rfl) (hp := c1); (next => (simp (maxSteps := 2000000) (disch := omega) only [go_sem, hb0, hm2, z8_rep, List.take_replicate, Nat.min_self, List.length_replicate, hlen1, hlen2, htl, hdl, htkd, hA, ops_sync, hmot] <;> exact rfl)); (next => (simp (maxSteps := 2000000) (disch := omega) only [go_sem, hb0, hm2, z8_rep, List.take_replicate, Nat.min_self, List.length_replicate, hlen1, hlen2, htl, hdl, htkd, hA, ops_sync, hmot] <;> exact rfl)); (next => (simp [noId_c, noId_agg, noId_snap, noId_tup,encD,sec_noIdE,encL_noId,encL_noIdE,encCa,encOp,encExt]; done)); (next => (simp (maxSteps := 2000000) (disch := omega) only [go_sem, hb0, hm2, z8_rep, List.take_replicate, Nat.min_self, List.length_replicate, hlen1, hlen2, htl, hdl, htkd, hA, ops_sync, hmot] <;> exact rfl)); (next => (simp (maxSteps := 2000000) (disch := omega) only [go_sem, hb0, hm2, z8_rep, List.take_replicate, Nat.min_self, List.length_replicate, hlen1, hlen2, htl, hdl, htkd, hA, ops_sync, hmot] <;> exact rfl))))
        refine w_join [(11, true, zV (k : Int)), (8, true, .ptr 4 0 0), (7, true, .ptr 2 0 0), (5, true, .ptr 0 0 0), (1, true, .snap (encL encOp ops))] ⟨100, tabG [(0, some (.cells 56 2 [[zV x, .snap (encL intRow c)]] true false)), (1, some (.cells 65 8 (encL encSec (List.replicate m zSec)) false true)), (2, some (.cells 25 2 [[.own 1 0 m, .c (.slice none 0 0)]] true false)), (4, some (.cells 25 2 [encD D2] true false))]⟩ ?_ ?_
        · by_cases h0 : ops.length = 0
          · have hk := hk0 h0
            subst hk
            repeat (first | (refine aw_seq ?_) | (apply w_region (by rfl); (next => (simp (maxSteps := 2000000) (disch := omega) only [go_sem, hb0, hm2, z8_rep, List.take_replicate, Nat.min_self, List.length_replicate, hlen1, hlen2, htl, hdl, htkd, hA, ops_sync, hmot] <;> exact rfl))) | (refine w_nil ?_) | (refine w_then ?_) | (refine aw_skip ?_) | (apply w_condF; (next => (simp (maxSteps := 2000000) (disch := omega) only [go_sem, hb0, hm2, z8_rep, List.take_replicate, Nat.min_self, List.length_replicate, hlen1, hlen2, htl, hdl, htkd, hA, ops_sync, hmot] <;> done))))
            refine joinQ_mk (by rfl) ?_
            refine holds_cons (by rfl) (holds_cons (by rfl) (holds_cons (by rfl) (holds_cons (by rfl) (holds_cons (by rfl) (holds_nil (by simp only []; omega) (sub_cons (by (first | rfl | (simp (disch := omega) only [go_sem, encD]; done) | (simp (disch := omega) only [go_sem, encD]; rfl))) (sub_cons (by (first | rfl | (simp (disch := omega) only [go_sem, encD]; done) | (simp (disch := omega) only [go_sem, encD]; rfl))) (sub_cons (by (first | rfl | (simp (disch := omega) only [go_sem, encD]; done) | (simp (disch := omega) only [go_sem, encD]; rfl))) (sub_cons (by (first | rfl | (simp (disch := omega) only [go_sem, encD]; done) | (simp (disch := omega) only [go_sem, encD]; rfl))) (sub_nil))))))))))
          · have hk := hk1 h0
            have hb := tm_lo (x := x) (n := (ops.length : Int)) (by omega)
            have h2 := dec2 (x := x) (n := (ops.length : Int)) (by omega)
            rw [hk] at h2
            repeat (first | (refine aw_seq ?_) | (apply w_region (by rfl); (next => (simp (maxSteps := 2000000) (disch := omega) only [go_sem, hb0, hm2, z8_rep, List.take_replicate, Nat.min_self, List.length_replicate, hlen1, hlen2, htl, hdl, htkd, hA, ops_sync, hmot, h2] <;> exact rfl))) | (refine w_nil ?_) | (refine w_then ?_) | (apply w_condT; (next => (simp (maxSteps := 2000000) (disch := omega) only [go_sem, hb0, hm2, z8_rep, List.take_replicate, Nat.min_self, List.length_replicate, hlen1, hlen2, htl, hdl, htkd, hA, ops_sync, hmot, h2] <;> done))))
            refine joinQ_mk (by rfl) ?_
            refine holds_cons (by rfl) (holds_cons (by rfl) (holds_cons (by rfl) (holds_cons (by rfl) (holds_cons (by rfl) (holds_nil (by simp only []; omega) (sub_cons (by (first | rfl | (simp (disch := omega) only [go_sem, encD]; done) | (simp (disch := omega) only [go_sem, encD]; rfl))) (sub_cons (by (first | rfl | (simp (disch := omega) only [go_sem, encD]; done) | (simp (disch := omega) only [go_sem, encD]; rfl))) (sub_cons (by (first | rfl | (simp (disch := omega) only [go_sem, encD]; done) | (simp (disch := omega) only [go_sem, encD]; rfl))) (sub_cons (by (first | rfl | (simp (disch := omega) only [go_sem, encD]; done) | (simp (disch := omega) only [go_sem, encD]; rfl))) (sub_nil))))))))))
        · have hdr : ∀ o ∈ ops.drop k, I64e o.at_ ∧ o.data.length ≤ 9223372036854775807 := fun o h => hod o (List.mem_of_mem_drop h)
          repeat (first | (apply w_keep (id := 11) 27 [0, 1, 2, 4, 109]; (next => (simp (maxSteps := 2000000) (disch := omega) only [go_sem, hb0, hm2, z8_rep, List.take_replicate, Nat.min_self, List.length_replicate, hlen1, hlen2, htl, hdl, htkd, hA, ops_sync, hmot] <;> exact rfl)); (next => (simp (maxSteps := 2000000) (disch := omega) only [go_sem, hb0, hm2, z8_rep, List.take_replicate, Nat.min_self, List.length_replicate, hlen1, hlen2, htl, hdl, htkd, hA, ops_sync, hmot] <;> exact rfl))) | (apply w_keep (id := 12) 27 [0, 1, 2, 4, 109, 122]; (next => (simp (maxSteps := 2000000) (disch := omega) only [go_sem, hb0, hm2, z8_rep, List.take_replicate, Nat.min_self, List.length_replicate, hlen1, hlen2, htl, hdl, htkd, hA, ops_sync, hmot] <;> exact rfl)); (next => (simp (maxSteps := 2000000) (disch := omega) only [go_sem, hb0, hm2, z8_rep, List.take_replicate, Nat.min_self, List.length_replicate, hlen1, hlen2, htl, hdl, htkd, hA, ops_sync, hmot] <;> exact rfl))) | (apply w_keep (id := 15) 27 [0, 1, 2, 109, 122, 126]; (next => (simp (maxSteps := 2000000) (disch := omega) only [go_sem, hb0, hm2, z8_rep, List.take_replicate, Nat.min_self, List.length_replicate, hlen1, hlen2, htl, hdl, htkd, hA, ops_sync, hmot] <;> exact rfl)); (next => (simp (maxSteps := 2000000) (disch := omega) only [go_sem, hb0, hm2, z8_rep, List.take_replicate, Nat.min_self, List.length_replicate, hlen1, hlen2, htl, hdl, htkd, hA, ops_sync, hmot] <;> exact rfl))) | (apply w_keep (id := 16) 27 [0, 1, 2, 109, 122, 126, 139]; (next => (simp (maxSteps := 2000000) (disch := omega) only [go_sem, hb0, hm2, z8_rep, List.take_replicate, Nat.min_self, List.length_replicate, hlen1, hlen2, htl, hdl, htkd, hA, ops_sync, hmot] <;> exact rfl)); (next => (simp (maxSteps := 2000000) (disch := omega) only [go_sem, hb0, hm2, z8_rep, List.take_replicate, Nat.min_self, List.length_replicate, hlen1, hlen2, htl, hdl, htkd, hA, ops_sync, hmot] <;> exact rfl))) | (apply w_keep (id := 19) 27 [126, 141]; (next => (simp (maxSteps := 2000000) (disch := omega) only [go_sem, hb0, hm2, z8_rep, List.take_replicate, Nat.min_self, List.length_replicate, hlen1, hlen2, htl, hdl, htkd, hA, ops_sync, hmot] <;> exact rfl)); (next => (simp (maxSteps := 2000000) (disch := omega) only [go_sem, hb0, hm2, z8_rep, List.take_replicate, Nat.min_self, List.length_replicate, hlen1, hlen2, htl, hdl, htkd, hA, ops_sync, hmot] <;> exact rfl))) | (refine aw_seq ?_) | (apply w_region (by rfl); (next => (simp (maxSteps := 2000000) (disch := omega) only [go_sem, hb0, hm2, z8_rep, List.take_replicate, Nat.min_self, List.length_replicate, hlen1, hlen2, htl, hdl, htkd, hA, ops_sync, hmot] <;> exact rfl))) | (apply w_draw (by kernel_rfl) (by kernel_rfl) (by rfl); (case hr => (repeat (apply d_run; (next => (simp (maxSteps := 2000000) (disch := omega) only [go_sem, hb0, hm2, z8_rep, List.take_replicate, Nat.min_self, List.length_replicate, hlen1, hlen2, htl, hdl, htkd, hA, ops_sync, hmot] <;> exact rfl)); first | exact d_nil | (apply d_callX (f := .func 20) (hop := rfl) (hg := rfl) (hp := c2); (next => (simp (maxSteps := 2000000) (disch := omega) only [go_sem, hb0, hm2, z8_rep, List.take_replicate, Nat.min_self, List.length_replicate, hlen1, hlen2, htl, hdl, htkd, hA, ops_sync, hmot] <;> exact rfl)); (next => (simp (maxSteps := 2000000) (disch := omega) only [go_sem, hb0, hm2, z8_rep, List.take_replicate, Nat.min_self, List.length_replicate, hlen1, hlen2, htl, hdl, htkd, hA, ops_sync, hmot] <;> exact rfl)); (next => (simp [noId_c, noId_agg, noId_snap, noId_tup,encD,sec_noIdE,encL_noId,encL_noIdE,encCa,encOp,encExt]; done)); (next => (simp (maxSteps := 2000000) (disch := omega) only [go_sem, hb0, hm2, z8_rep, List.take_replicate, Nat.min_self, List.length_replicate, hlen1, hlen2, htl, hdl, htkd, hA, ops_sync, hmot] <;> exact rfl)); (next => (simp (maxSteps := 2000000) (disch := omega) only [go_sem, hb0, hm2, z8_rep, List.take_replicate, Nat.min_self, List.length_replicate, hlen1, hlen2, htl, hdl, htkd, hA, ops_sync, hmot] <;> exact rfl))) | (apply d_callP (f := .func 20) (hop := rfl) (hg := rfl) (hp := c3); (next => (simp (maxSteps := 2000000) (disch := omega) only [go_sem, hb0, hm2, z8_rep, List.take_replicate, Nat.min_self, List.length_replicate, hlen1, hlen2, htl, hdl, htkd, hA, ops_sync, hmot] <;> exact rfl)); (next => (simp [noId_c, noId_agg, noId_snap, noId_tup,encD,sec_noIdE,encL_noId,encL_noIdE,encCa,encOp,encExt]; done))) | (apply d_callP (f := .func 29) (hop := rfl) (hg := rfl) (hp := opsync_p); (next => (simp (maxSteps := 2000000) (disch := omega) only [go_sem, hb0, hm2, z8_rep, List.take_replicate, Nat.min_self, List.length_replicate, hlen1, hlen2, htl, hdl, htkd, hA, ops_sync, hmot] <;> exact rfl)); (next => (simp [noId_c, noId_agg, noId_snap, noId_tup,encD,sec_noIdE,encL_noId,encL_noIdE,encCa,encOp,encExt]; done)))))); (case hdyn => (simp (maxSteps := 2000000) (disch := omega) only [go_sem, nbeq_F, nbeq_T, hb0, hm2, z8_rep, List.take_replicate, Nat.min_self, List.length_replicate, hlen1, hlen2, htl, hdl, htkd, hA, ops_sync, hmot] <;> kernel_rfl))) | (refine w_nil ?_) | (refine w_then ?_) | (refine aw_skip ?_) | (refine aw_block ?_) | (apply w_condF; (next => (simp (maxSteps := 2000000) (disch := omega) only [go_sem, hb0, hm2, z8_rep, List.take_replicate, Nat.min_self, List.length_replicate, hlen1, hlen2, htl, hdl, htkd, hA, ops_sync, hmot] <;> done))) | (apply w_callXG (f := .func 18) (hop := rfl) (hg := rfl) (hp := c4); (next => (simp (maxSteps := 2000000) (disch := omega) only [go_sem, hb0, hm2, z8_rep, List.take_replicate, Nat.min_self, List.length_replicate, hlen1, hlen2, htl, hdl, htkd, hA, ops_sync, hmot] <;> done)); (next => (simp (maxSteps := 2000000) (disch := omega) only [go_sem, hb0, hm2, z8_rep, List.take_replicate, Nat.min_self, List.length_replicate, hlen1, hlen2, htl, hdl, htkd, hA, ops_sync, hmot] <;> exact rfl)); (next => (simp (maxSteps := 2000000) (disch := omega) only [go_sem, hb0, hm2, z8_rep, List.take_replicate, Nat.min_self, List.length_replicate, hlen1, hlen2, htl, hdl, htkd, hA, ops_sync, hmot] <;> exact rfl)); (next => (simp [noId_c, noId_agg, noId_snap, noId_tup,encD,sec_noIdE,encL_noId,encL_noIdE,encCa,encOp,encExt]; done)); (next => (simp (maxSteps := 2000000) (disch := omega) only [go_sem, hb0, hm2, z8_rep, List.take_replicate, Nat.min_self, List.length_replicate, hlen1, hlen2, htl, hdl, htkd, hA, ops_sync, hmot] <;> exact rfl)); (next => (simp (maxSteps := 2000000) (disch := omega) only [go_sem, hb0, hm2, z8_rep, List.take_replicate, Nat.min_self, List.length_replicate, hlen1, hlen2, htl, hdl, htkd, hA, ops_sync, hmot] <;> exact rfl))) | (apply w_callP (f := .func 28) (hop := rfl) (hg := rfl) (hp := c5); (next => (simp (maxSteps := 2000000) (disch := omega) only [go_sem, hb0, hm2, z8_rep, List.take_replicate, Nat.min_self, List.length_replicate, hlen1, hlen2, htl, hdl, htkd, hA, ops_sync, hmot] <;> exact rfl)); (next => (simp [noId_c, noId_agg, noId_snap, noId_tup,encD,sec_noIdE,encL_noId,encL_noIdE,encCa,encOp,encExt]; done)); (next => (simp (maxSteps := 2000000) (disch := omega) only [go_sem, hb0, hm2, z8_rep, List.take_replicate, Nat.min_self, List.length_replicate, hlen1, hlen2, htl, hdl, htkd, hA, ops_sync, hmot] <;> exact rfl))) | (apply w_callX (f := .func 25) (hop := rfl) (hg := rfl) (hp := c6); (next => (simp (maxSteps := 2000000) (disch := omega) only [go_sem, hb0, hm2, z8_rep, List.take_replicate, Nat.min_self, List.length_replicate, hlen1, hlen2, htl, hdl, htkd, hA, ops_sync, hmot] <;> exact rfl)); (next => (simp (maxSteps := 2000000) (disch := omega) only [go_sem, hb0, hm2, z8_rep, List.take_replicate, Nat.min_self, List.length_replicate, hlen1, hlen2, htl, hdl, htkd, hA, ops_sync, hmot] <;> exact rfl)); (next => (simp [noId_c, noId_agg, noId_snap, noId_tup,encD,sec_noIdE,encL_noId,encL_noIdE,encCa,encOp,encExt]; done)); (next => (simp (maxSteps := 2000000) (disch := omega) only [go_sem, hb0, hm2, z8_rep, List.take_replicate, Nat.min_self, List.length_replicate, hlen1, hlen2, htl, hdl, htkd, hA, ops_sync, hmot] <;> exact rfl)); (next => (simp (maxSteps := 2000000) (disch := omega) only [go_sem, hb0, hm2, z8_rep, List.take_replicate, Nat.min_self, List.length_replicate, hlen1, hlen2, htl, hdl, htkd, hA, ops_sync, hmot] <;> exact rfl))))
          have hdl' : ops.length - k = (ops.drop k).length := hdl.symm
          generalize ops.drop k = dr at hdr hkeep hdl'
          have hdrl : dr.length ≤ 60 := by omega
          refine w_loop (HeadWa dr SY Y) dr.length ?_ ?_
          · refine ⟨_, _, ⟨0, _, 142, none, 1000, by omega, by omega, Evv.nil0, by omega, by omega, rfl, rfl⟩, ?_⟩
            rw [← hdl']
            refine holds_cons (by rfl) (holds_cons (by rfl) (holds_cons (by rfl) (holds_cons (by rfl) (holds_cons (by rfl) (holds_cons (by rfl) (holds_nil (by simp only []; omega) (sub_none (sub_cons (by (first | rfl | (simp (disch := omega) only [go_sem, encD]; done) | (simp (disch := omega) only [go_sem, encD]; rfl))) (sub_cons (by (first | rfl | (simp (disch := omega) only [go_sem, encD]; done) | (simp (disch := omega) only [go_sem, encD]; rfl))) (sub_nil))))))))))
          · rintro n' env H ⟨j, wv, mw, mb, N, rfl, hj, hwv, hmN, hm2, rfl, rfl⟩
            by_cases hjl : j < dr.length
            · by_cases hkd : (dr.getD j default).kind = 0
              · have hxh := exts_hit hjl hkd
                have hxl := exts_len (dr.take j)
                have hxl2 : (dr.take j).length ≤ 60 := by simp; omega
                have hdd := hdr _ (getD_mem' (default : Opr) hjl)
                rcases hwv with ⟨w, rfl, rfl⟩ | ⟨rfl, rfl, hnil⟩
                · repeat (first | (refine aw_seq ?_) | (apply w_region (by rfl); (next => (simp (maxSteps := 2000000) (disch := omega) only [go_sem, (encL_get (f := encOp) default), hkd, ext_snocE] <;> exact rfl))) | (refine w_nil ?_) | (refine w_then ?_) | (refine w_blockN ?_) | (refine aw_skip ?_) | (refine aw_block ?_) | (apply w_condT; (next => (simp (maxSteps := 2000000) (disch := omega) only [go_sem, (encL_get (f := encOp) default), hkd, ext_snocE] <;> done))))
                  refine ⟨dr.length - (j + 1), by omega, _, _, ⟨j + 1, .own (N + 1 + 1 + 1) 0 ((extsOf (dr.take j)).length + 1), N + 1 + 1 + 1, _, N + 1000, rfl, by omega, (by rw [hxh]; exact Evv.mk (w := w) (by simp)), by omega, by omega, rfl, rfl⟩, ?_⟩
                  refine holds_cons (by rfl) (holds_cons (by rfl) (holds_cons (by rfl) (holds_cons (by rfl) (holds_cons (by rfl) (holds_cons (by rfl) (holds_nil (by simp only []; omega) (sub_cons (by (first | rfl | (simp (disch := omega) only [go_sem, encD]; done) | (simp (disch := omega) only [go_sem, encD]; rfl))) (sub_cons (by (first | rfl | (simp (disch := omega) only [go_sem, encD]; done) | (simp (disch := omega) only [go_sem, encD]; rfl))) (sub_cons (by (first | rfl | (simp (disch := omega) only [go_sem, encD]; done) | (simp (disch := omega) only [go_sem, encD]; rfl))) (sub_nil))))))))))
                · rw [hnil] at hxh
                  repeat (first | (refine aw_seq ?_) | (apply w_region (by rfl); (next => (simp (maxSteps := 2000000) (disch := omega) only [go_sem, (encL_get (f := encOp) default), hkd] <;> exact rfl))) | (refine w_nil ?_) | (refine w_then ?_) | (refine w_blockN ?_) | (refine aw_skip ?_) | (refine aw_block ?_) | (apply w_condT; (next => (simp (maxSteps := 2000000) (disch := omega) only [go_sem, (encL_get (f := encOp) default), hkd] <;> done))))
                  refine ⟨dr.length - (j + 1), by omega, _, _, ⟨j + 1, .own (N + 1 + 1 + 1) 0 1, N + 1 + 1 + 1, _, N + 1000, rfl, by omega, (by rw [hxh]; exact Evv.mk (w := true) rfl), by omega, by omega, rfl, rfl⟩, ?_⟩
                  refine holds_cons (by rfl) (holds_cons (by rfl) (holds_cons (by rfl) (holds_cons (by rfl) (holds_cons (by rfl) (holds_cons (by rfl) (holds_nil (by simp only []; omega) (sub_cons (by (first | rfl | (simp (disch := omega) only [go_sem, encD]; done) | (simp (disch := omega) only [go_sem, encD]; rfl))) (sub_cons (by (first | rfl | (simp (disch := omega) only [go_sem, encD]; done) | (simp (disch := omega) only [go_sem, encD]; rfl))) (sub_cons (by (first | rfl | (simp (disch := omega) only [go_sem, encD]; done) | (simp (disch := omega) only [go_sem, encD]; rfl))) (sub_nil))))))))))
              · have hxh := exts_skip hjl hkd
                repeat (first | (refine aw_seq ?_) | (apply w_region (by rfl); (next => (simp (maxSteps := 2000000) (disch := omega) only [go_sem, (encL_get (f := encOp) default)] <;> exact rfl))) | (refine w_nil ?_) | (refine w_then ?_) | (refine w_blockN ?_) | (refine aw_skip ?_) | (refine aw_block ?_) | (apply w_condT; (next => (simp (maxSteps := 2000000) (disch := omega) only [go_sem, (encL_get (f := encOp) default)] <;> done))) | (apply w_condF; (next => (simp (maxSteps := 2000000) (disch := omega) only [go_sem, (encL_get (f := encOp) default)] <;> done))))
                refine ⟨dr.length - (j + 1), by omega, _, _, ⟨j + 1, wv, mw, mb, N + 1000, rfl, by omega, (by rw [hxh]; exact hwv), by omega, by omega, rfl, rfl⟩, ?_⟩
                refine holds_cons (by rfl) (holds_cons (by rfl) (holds_cons (by rfl) (holds_cons (by rfl) (holds_cons (by rfl) (holds_cons (by rfl) (holds_nil (by simp only []; omega) (sub_cons (by (first | rfl | (simp (disch := omega) only [go_sem, encD]; done) | (simp (disch := omega) only [go_sem, encD]; rfl))) (sub_cons (by (first | rfl | (simp (disch := omega) only [go_sem, encD]; done) | (simp (disch := omega) only [go_sem, encD]; rfl))) (sub_cons (by (first | rfl | (simp (disch := omega) only [go_sem, encD]; done) | (simp (disch := omega) only [go_sem, encD]; rfl))) (sub_nil))))))))))
            · obtain rfl : j = dr.length := by omega
              rw [List.take_length] at hwv
              have hxr := exts_rng hdr
              have hxl := exts_len dr
              have hxm := fun i => exts_miss (l := dr) (i := i)
              generalize extsOf dr = wl at hwv hxr hxl hxm
              repeat (first | (refine aw_seq ?_) | (apply w_region (by rfl); (next => (simp (maxSteps := 2000000) (disch := omega) only [go_sem, hlen2] <;> exact rfl))) | (refine w_nil ?_) | (refine w_then ?_) | (refine w_thenE ?_) | (refine w_blockE ?_) | (refine aw_exit ?_) | (refine aw_block ?_) | (apply w_condF; (next => (simp (maxSteps := 2000000) (disch := omega) only [go_sem, hlen2] <;> done))))
              refine w_loop (HeadWb m wl SY Y) m ?_ ?_
              · refine ⟨_, _, ⟨0, wv, mw, mb, N, by omega, by omega, hwv, hmN, hm2, rfl, rfl⟩, ?_⟩
                refine holds_cons (by rfl) (holds_cons (by rfl) (holds_cons (by rfl) (holds_cons (by rfl) (holds_cons (by rfl) (holds_nil (by simp only []; omega) (sub_cons (by (first | rfl | (simp (disch := omega) only [go_sem, encD]; done) | (simp (disch := omega) only [go_sem, encD]; rfl))) (sub_cons (by (first | rfl | (simp (disch := omega) only [go_sem, encD]; done) | (simp (disch := omega) only [go_sem, encD]; rfl))) (sub_cons (by (first | rfl | (simp (disch := omega) only [go_sem, encD]; done) | (simp (disch := omega) only [go_sem, encD]; rfl))) (sub_nil)))))))))
              · rintro n' env H ⟨i, wv, mw, mb, N, rfl, hi, hwv, hmN, hm2, rfl, rfl⟩
                by_cases hil : i < m
                · have c7 := contains_p wl i hxr (by omega)
                  have hck := hxm i
                  have hkp := hkeep i
                  cases hcb : wl.any (inE i)
                  · rw [hcb] at c7
                    have hkp2 := hkp (hck hcb)
                    rcases hwv with ⟨w, rfl, rfl⟩ | ⟨rfl, rfl, hnil⟩
                    · repeat (first | (refine aw_seq ?_) | (apply w_region (by rfl); (next => (simp (maxSteps := 2000000) (disch := omega) only [go_sem, (encL_get (f := encSec) zSec), hlen1, hlen2, hkp2, List.take_length, List.drop_zero] <;> exact rfl))) | (apply w_draw (by kernel_rfl) (by kernel_rfl) (by rfl); (case hr => (repeat (apply d_run; (next => (simp (maxSteps := 2000000) (disch := omega) only [go_sem, (encL_get (f := encSec) zSec), hlen1, hlen2, hkp2, List.take_length, List.drop_zero] <;> exact rfl)); first | exact d_nil | (apply d_callX (f := .func 30) (hop := rfl) (hg := rfl) (hp := c7); (next => (simp (maxSteps := 2000000) (disch := omega) only [go_sem, (encL_get (f := encSec) zSec), hlen1, hlen2, hkp2, List.take_length, List.drop_zero] <;> exact rfl)); (next => (simp (maxSteps := 2000000) (disch := omega) only [go_sem, (encL_get (f := encSec) zSec), hlen1, hlen2, hkp2, List.take_length, List.drop_zero] <;> exact rfl)); (next => (simp [noId_c, noId_agg, noId_snap, noId_tup,encD,sec_noIdE,encL_noId,encL_noIdE,encCa,encOp,encExt]; done)); (next => (simp (maxSteps := 2000000) (disch := omega) only [go_sem, (encL_get (f := encSec) zSec), hlen1, hlen2, hkp2, List.take_length, List.drop_zero] <;> exact rfl)); (next => (simp (maxSteps := 2000000) (disch := omega) only [go_sem, (encL_get (f := encSec) zSec), hlen1, hlen2, hkp2, List.take_length, List.drop_zero] <;> exact rfl)))))); (case hdyn => (simp (maxSteps := 2000000) (disch := omega) only [go_sem, nbeq_F, nbeq_T, (encL_get (f := encSec) zSec), hlen1, hlen2, hkp2, List.take_length, List.drop_zero] <;> kernel_rfl))) | (refine w_nil ?_) | (refine w_then ?_) | (refine w_blockN ?_) | (refine aw_skip ?_) | (refine aw_block ?_) | (apply w_condT; (next => (simp (maxSteps := 2000000) (disch := omega) only [go_sem, (encL_get (f := encSec) zSec), hlen1, hlen2, hkp2, List.take_length, List.drop_zero] <;> done))) | (apply w_condF; (next => (simp (maxSteps := 2000000) (disch := omega) only [go_sem, (encL_get (f := encSec) zSec), hlen1, hlen2, hkp2, List.take_length, List.drop_zero] <;> done))))
                      refine ⟨m - (i + 1), by omega, _, _, ⟨i + 1, .own mw 0 wl.length, mw, _, N + 1000, rfl, by omega, Evv.mk (w := false) rfl, by omega, by omega, rfl, rfl⟩, ?_⟩
                      refine holds_cons (by rfl) (holds_cons (by rfl) (holds_cons (by rfl) (holds_cons (by rfl) (holds_cons (by rfl) (holds_nil (by simp only []; omega) (sub_cons (by (first | rfl | (simp (disch := omega) only [go_sem, encD]; done) | (simp (disch := omega) only [go_sem, encD]; rfl))) (sub_cons (by (first | rfl | (simp (disch := omega) only [go_sem, encD]; done) | (simp (disch := omega) only [go_sem, encD]; rfl))) (sub_cons (by (first | rfl | (simp (disch := omega) only [go_sem, encD]; done) | (simp (disch := omega) only [go_sem, encD]; rfl))) (sub_nil)))))))))
                    · subst hnil
                      have c8 : PCall Try.prog 30 [.c (.slice none 0 0), zV (i : Int)] (· = bV false) := c7.less (wks_cons .nil (wks_refl _))
                      repeat (first | (refine aw_seq ?_) | (apply w_region (by rfl); (next => (simp (maxSteps := 2000000) (disch := omega) only [go_sem, (encL_get (f := encSec) zSec), hlen1, hlen2, hkp2] <;> exact rfl))) | (apply w_draw (by kernel_rfl) (by kernel_rfl) (by rfl); (case hr => (repeat (apply d_run; (next => (simp (maxSteps := 2000000) (disch := omega) only [go_sem, (encL_get (f := encSec) zSec), hlen1, hlen2, hkp2] <;> exact rfl)); first | exact d_nil | (apply d_callP (f := .func 30) (hop := rfl) (hg := rfl) (hp := c8); (next => (simp (maxSteps := 2000000) (disch := omega) only [go_sem, (encL_get (f := encSec) zSec), hlen1, hlen2, hkp2] <;> exact rfl)); (next => (simp [noId_c, noId_agg, noId_snap, noId_tup,encD,sec_noIdE,encL_noId,encL_noIdE,encCa,encOp,encExt]; done)))))); (case hdyn => (simp (maxSteps := 2000000) (disch := omega) only [go_sem, nbeq_F, nbeq_T, (encL_get (f := encSec) zSec), hlen1, hlen2, hkp2] <;> kernel_rfl))) | (refine w_nil ?_) | (refine w_then ?_) | (refine w_blockN ?_) | (refine aw_skip ?_) | (refine aw_block ?_) | (apply w_condT; (next => (simp (maxSteps := 2000000) (disch := omega) only [go_sem, (encL_get (f := encSec) zSec), hlen1, hlen2, hkp2] <;> done))) | (apply w_condF; (next => (simp (maxSteps := 2000000) (disch := omega) only [go_sem, (encL_get (f := encSec) zSec), hlen1, hlen2, hkp2] <;> done))))
                      refine ⟨m - (i + 1), by omega, _, _, ⟨i + 1, _, mw, none, N + 1000, rfl, by omega, Evv.nil0, by omega, by omega, rfl, rfl⟩, ?_⟩
                      refine holds_cons (by rfl) (holds_cons (by rfl) (holds_cons (by rfl) (holds_cons (by rfl) (holds_cons (by rfl) (holds_nil (by simp only []; omega) (sub_none (sub_cons (by (first | rfl | (simp (disch := omega) only [go_sem, encD]; done) | (simp (disch := omega) only [go_sem, encD]; rfl))) (sub_cons (by (first | rfl | (simp (disch := omega) only [go_sem, encD]; done) | (simp (disch := omega) only [go_sem, encD]; rfl))) (sub_nil)))))))))
                  · rw [hcb] at c7
                    rcases hwv with ⟨w, rfl, rfl⟩ | ⟨rfl, rfl, hnil⟩
                    · repeat (first | (refine aw_seq ?_) | (apply w_region (by rfl); (next => (simp (maxSteps := 2000000) (disch := omega) only [go_sem, (encL_get (f := encSec) zSec), hlen1, hlen2, List.take_length, List.drop_zero] <;> exact rfl))) | (apply w_draw (by kernel_rfl) (by kernel_rfl) (by rfl); (case hr => (repeat (apply d_run; (next => (simp (maxSteps := 2000000) (disch := omega) only [go_sem, (encL_get (f := encSec) zSec), hlen1, hlen2, List.take_length, List.drop_zero] <;> exact rfl)); first | exact d_nil | (apply d_callX (f := .func 30) (hop := rfl) (hg := rfl) (hp := c7); (next => (simp (maxSteps := 2000000) (disch := omega) only [go_sem, (encL_get (f := encSec) zSec), hlen1, hlen2, List.take_length, List.drop_zero] <;> exact rfl)); (next => (simp (maxSteps := 2000000) (disch := omega) only [go_sem, (encL_get (f := encSec) zSec), hlen1, hlen2, List.take_length, List.drop_zero] <;> exact rfl)); (next => (simp [noId_c, noId_agg, noId_snap, noId_tup,encD,sec_noIdE,encL_noId,encL_noIdE,encCa,encOp,encExt]; done)); (next => (simp (maxSteps := 2000000) (disch := omega) only [go_sem, (encL_get (f := encSec) zSec), hlen1, hlen2, List.take_length, List.drop_zero] <;> exact rfl)); (next => (simp (maxSteps := 2000000) (disch := omega) only [go_sem, (encL_get (f := encSec) zSec), hlen1, hlen2, List.take_length, List.drop_zero] <;> exact rfl)))))); (case hdyn => (simp (maxSteps := 2000000) (disch := omega) only [go_sem, nbeq_F, nbeq_T, (encL_get (f := encSec) zSec), hlen1, hlen2, List.take_length, List.drop_zero] <;> kernel_rfl))) | (refine w_nil ?_) | (refine w_then ?_) | (refine w_blockN ?_) | (refine aw_skip ?_) | (refine aw_block ?_) | (apply w_condT; (next => (simp (maxSteps := 2000000) (disch := omega) only [go_sem, (encL_get (f := encSec) zSec), hlen1, hlen2, List.take_length, List.drop_zero] <;> done))) | (apply w_condF; (next => (simp (maxSteps := 2000000) (disch := omega) only [go_sem, (encL_get (f := encSec) zSec), hlen1, hlen2, List.take_length, List.drop_zero] <;> done))))
                      refine ⟨m - (i + 1), by omega, _, _, ⟨i + 1, .own mw 0 wl.length, mw, _, N + 1000, rfl, by omega, Evv.mk (w := false) rfl, by omega, by omega, rfl, rfl⟩, ?_⟩
                      refine holds_cons (by rfl) (holds_cons (by rfl) (holds_cons (by rfl) (holds_cons (by rfl) (holds_cons (by rfl) (holds_nil (by simp only []; omega) (sub_cons (by (first | rfl | (simp (disch := omega) only [go_sem, encD]; done) | (simp (disch := omega) only [go_sem, encD]; rfl))) (sub_cons (by (first | rfl | (simp (disch := omega) only [go_sem, encD]; done) | (simp (disch := omega) only [go_sem, encD]; rfl))) (sub_cons (by (first | rfl | (simp (disch := omega) only [go_sem, encD]; done) | (simp (disch := omega) only [go_sem, encD]; rfl))) (sub_nil)))))))))
                    · subst hnil
                      cases hcb
                · obtain rfl : i = m := by omega
                  repeat (first | (refine aw_seq ?_) | (apply w_region (by rfl); (next => (simp (maxSteps := 2000000) (disch := omega) only [go_sem] <;> exact rfl))) | (refine w_nil ?_) | (refine w_hold2 ?_) | (refine w_then ?_) | (refine w_thenE ?_) | (refine w_blockE ?_) | (refine aw_ret ?_) | (refine aw_exit ?_) | (apply w_end; (next => (simp (maxSteps := 2000000) (disch := omega) only [go_sem, Try.f7] <;> exact rfl))) | (apply w_condF; (next => (simp (maxSteps := 2000000) (disch := omega) only [go_sem] <;> done))) | (apply w_callP (f := .func 13) (hop := rfl) (hg := rfl) (hp := awake_p); (next => (simp (maxSteps := 2000000) (disch := omega) only [go_sem] <;> exact rfl)); (next => (simp [noId_c, noId_agg, noId_snap, noId_tup,encD,sec_noIdE,encL_noId,encL_noIdE,encCa,encOp,encExt]; done)); (next => (simp (maxSteps := 2000000) (disch := omega) only [go_sem] <;> exact rfl))))
                  (simp (maxSteps := 2000000) (disch := omega) only [go_sem, noId_c, noId_agg, noId_tup, noId_snap, encL_noIdE, sec_noIdE, List.drop_zero, List.take_length]; (repeat (first | exact .refl _ | exact .nil | exact wks_nil | refine wks_cons ?_ ?_ | refine wk_tup ?_ | refine wk_agg ?_)))
      · have hb1 : (eA != 0) = true := bne_T he
        repeat (first | (refine aw_seq ?_) | (apply w_region (by rfl); (next => (simp (maxSteps := 2000000) (disch := omega) only [go_sem, hb0, hb1, hm2, z8_rep, List.take_replicate, Nat.min_self, List.length_replicate] <;> exact rfl))) | (refine w_nil ?_) | (refine w_hold2 ?_) | (refine w_then ?_) | (refine w_thenR ?_) | (refine aw_skip ?_) | (refine aw_ret ?_) | (apply w_end; (next => (simp (maxSteps := 2000000) (disch := omega) only [go_sem, hb0, hb1, hm2, z8_rep, List.take_replicate, Nat.min_self, List.length_replicate, Try.f7] <;> exact rfl))) | (apply w_condT; (next => (simp (maxSteps := 2000000) (disch := omega) only [go_sem, hb0, hb1, hm2, z8_rep, List.take_replicate, Nat.min_self, List.length_replicate] <;> done))) | (apply w_condF; (next => (simp (maxSteps := 2000000) (disch := omega) only [go_sem, hb0, hb1, hm2, z8_rep, List.take_replicate, Nat.min_self, List.length_replicate] <;> done))) | (apply w_callP (f := .func 12) (hop := rfl) (hg := rfl) (hp := (fewOps_p ops hol)); (next => (simp (maxSteps := 2000000) (disch := omega) only [go_sem, hb0, hb1, hm2, z8_rep, List.take_replicate, Nat.min_self, List.length_replicate] <;> exact rfl)); (next => (simp [noId_c, noId_agg, noId_snap, noId_tup,encD,sec_noIdE,encL_noId,encL_noIdE,encCa,encOp,encExt]; done)); (next => (simp (maxSteps := 2000000) (disch := omega) only [go_sem, hb0, hb1, hm2, z8_rep, List.take_replicate, Nat.min_self, List.length_replicate] <;> exact rfl))) | (apply w_callP (f := .func 13) (hop := rfl) (hg := rfl) (hp := awake_p); (next => (simp (maxSteps := 2000000) (disch := omega) only [go_sem, hb0, hb1, hm2, z8_rep, List.take_replicate, Nat.min_self, List.length_replicate] <;> exact rfl)); (next => (simp [noId_c, noId_agg, noId_snap, noId_tup,encD,sec_noIdE,encL_noId,encL_noIdE,encCa,encOp,encExt]; done)); (next => (simp (maxSteps := 2000000) (disch := omega) only [go_sem, hb0, hb1, hm2, z8_rep, List.take_replicate, Nat.min_self, List.length_replicate] <;> exact rfl))) | (apply w_callX (f := .func 20) (hop := rfl) (hg := rfl) (hp := c1); (next => (simp (maxSteps := 2000000) (disch := omega) only [go_sem, hb0, hb1, hm2, z8_rep, List.take_replicate, Nat.min_self, List.length_replicate] <;> exact rfl)); (next => (simp (maxSteps := 2000000) (disch := omega) only [go_sem, hb0, hb1, hm2, z8_rep, List.take_replicate, Nat.min_self, List.length_replicate] <;> exact rfl)); (next => (simp [noId_c, noId_agg, noId_snap, noId_tup,encD,sec_noIdE,encL_noId,encL_noIdE,encCa,encOp,encExt]; done)); (next => (simp (maxSteps := 2000000) (disch := omega) only [go_sem, hb0, hb1, hm2, z8_rep, List.take_replicate, Nat.min_self, List.length_replicate] <;> exact rfl)); (next => (simp (maxSteps := 2000000) (disch := omega) only [go_sem, hb0, hb1, hm2, z8_rep, List.take_replicate, Nat.min_self, List.length_replicate] <;> exact rfl))))
        (simp (maxSteps := 2000000) (disch := omega) only [go_sem, noId_c, noId_agg, noId_tup, noId_snap, encL_noIdE, sec_noIdE, List.drop_zero, List.take_length]; (repeat (first | exact .refl _ | exact .nil | exact wks_nil | refine wks_cons ?_ ?_ | refine wk_tup ?_ | refine wk_agg ?_)))
    · repeat (first | (refine aw_seq ?_) | (apply w_region (by rfl); (next => (simp (maxSteps := 2000000) (disch := omega) only [go_sem, hb0] <;> exact rfl))) | (refine w_nil ?_) | (refine w_hold2 ?_) | (refine w_then ?_) | (refine w_thenR ?_) | (refine aw_ret ?_) | (apply w_end; (next => (simp (maxSteps := 2000000) (disch := omega) only [go_sem, hb0, Try.f7] <;> exact rfl))) | (apply w_condT; (next => (simp (maxSteps := 2000000) (disch := omega) only [go_sem, hb0] <;> done))) | (apply w_callP (hop := rfl) (hg := rfl) (hp := (fewOps_p ops hol)); (next => (simp (maxSteps := 2000000) (disch := omega) only [go_sem, hb0] <;> exact rfl)); (next => (simp [noId_c, noId_agg, noId_snap, noId_tup,encD,sec_noIdE,encL_noId,encL_noIdE,encCa,encOp,encExt]; done)); (next => (simp (maxSteps := 2000000) (disch := omega) only [go_sem, hb0] <;> exact rfl))) | (apply w_callP (hop := rfl) (hg := rfl) (hp := awake_p); (next => (simp (maxSteps := 2000000) (disch := omega) only [go_sem, hb0] <;> exact rfl)); (next => (simp [noId_c, noId_agg, noId_snap, noId_tup,encD,sec_noIdE,encL_noId,encL_noIdE,encCa,encOp,encExt]; done)); (next => (simp (maxSteps := 2000000) (disch := omega) only [go_sem, hb0] <;> exact rfl))))
      (simp (maxSteps := 2000000) (disch := omega) only [go_sem, noId_c, noId_agg, noId_tup, noId_snap, encL_noIdE, sec_noIdE, List.drop_zero, List.take_length]; (repeat (first | exact .refl _ | exact .nil | exact wks_nil | refine wks_cons ?_ ?_ | refine wk_tup ?_ | refine wk_agg ?_)))

end Go.Proofs.Ytniccdnhjbnaeaa

/- Numbers as arguments. -/
namespace Go.Proofs.Ytniccdnhjbnaeaa
open Go.Proofs Go.AL
open Go.ChangeShapes Go.WideShapes Go.RowKit
set_option linter.unusedVariables false
set_option linter.unusedSimpArgs false
theorem open_u8 {a : AV} (h : CfS (.int .u8) a) : ∃ n : Nat, n < 256 ∧ a = .c (.int .u8 (n : Int)) := by
  obtain ⟨n, rfl, hw⟩ := h.unint
  have hb : 0 ≤ n ∧ n ≤ 255 := Go.bounds_u8 hw
  exact ⟨n.toNat, by omega, by rw [show ((n.toNat : Nat) : Int) = n by omega]⟩
theorem open_u16 {a : AV} (h : CfS (.int .u16) a) : ∃ n : Nat, n < 65536 ∧ a = .c (.int .u16 (n : Int)) := by
  obtain ⟨n, rfl, hw⟩ := h.unint
  have hb : 0 ≤ n ∧ n ≤ 65535 := Go.bounds_u16 hw
  exact ⟨n.toNat, by omega, by rw [show ((n.toNat : Nat) : Int) = n by omega]⟩
theorem open_i64 {a : AV} (h : CfS (.int .i64) a) : ∃ n : Int, I64r n ∧ a = .c (.int .i64 n) := by
  obtain ⟨n, rfl, hw⟩ := h.unint
  exact ⟨n, i64_of hw, rfl⟩
end Go.Proofs.Ytniccdnhjbnaeaa
