/- The laws on what survives. No condition but those named. -/
import Derived.Test.YtniccdnhjbnaeaaDe
import Derived.KernelRfl
import Derived.Test.YtniccdnhjbnaeaaLc
namespace Go.Proofs.Ytniccdnhjbnaeaa
open Go.Proofs Go.AL
set_option maxRecDepth 100000
set_option maxHeartbeats 1000000
set_option linter.unusedVariables false
set_option linter.unusedSimpArgs false
attribute [local irreducible] endA
attribute [local go_sem] dec_ltT dec_ltF dec_leT dec_leF beq_T beq_F bne_T bne_F encD


abbrev zExt : Int × Int := (0, 0)
def I64e (x : Int) : Prop := -9223372036854775808 ≤ x ∧ x ≤ 9223372036854775807
/-- The part of an extent inside the greatest size. -/
def wFrom (e : Int × Int) : Int := if 0 > e.1 then 0 else e.1
def wTo (e : Int × Int) : Int := if e.1 < 0 ∨ e.2 < 4096 - e.1 then (if 4096 < e.1 + e.2 then 4096 else e.1 + e.2) else 4096
def wIn (e : Int × Int) : Int × Int × Bool := if e.2 ≤ 0 then (0, 0, false) else (wFrom e, wTo e, decide (wFrom e < wTo e))
def inE (i : Int) (e : Int × Int) : Bool := (wIn e).2.2 && (decide ((wIn e).1 ≤ i) && decide (i < (wIn e).2.1))

theorem within_p (s c : Int) (hs : I64e s) (hc : I64e c) : PCall Try.prog 56 [.agg (encExt (s, c))] (· = .tup [zV (wIn (s, c)).1, zV (wIn (s, c)).2.1, bV (wIn (s, c)).2.2]) := by
  refine PCall.wk ?_ (noId_tup.2 fun x hx => by simp only [List.mem_cons, List.not_mem_nil, or_false] at hx; rcases hx with rfl | rfl | rfl <;> exact .c _)
  refine pcall Try.func56 rfl (by kernel_rfl) (by simp [Try.ntmps56]) ?_
  rw [Try.ntmps56]
  unfold I64e at hs hc
  by_cases h0 : c ≤ 0
  · have hw : wIn (s, c) = (0, 0, false) := if_pos h0
    rw [hw]
    repeat (first | (refine aw_seq ?_) | (apply w_region (by rfl); (next => (simp (maxSteps := 2000000) (disch := omega) only [go_sem] <;> exact rfl))) | (refine w_nil ?_) | (refine w_hold2 ?_) | (refine w_then ?_) | (refine w_thenR ?_) | (refine aw_ret ?_) | (apply w_end; (next => (simp (maxSteps := 2000000) (disch := omega) only [go_sem, Try.f56] <;> exact rfl))) | (apply w_condT; (next => (simp (maxSteps := 2000000) (disch := omega) only [go_sem] <;> done))))
    (simp (maxSteps := 2000000) (disch := omega) only [go_sem, noId_c, noId_agg, noId_tup, noId_snap, encL_noIdE, sec_noIdE, List.drop_zero, List.take_length]; (repeat (first | exact .refl _ | exact .nil | exact wks_nil | refine wks_cons ?_ ?_ | refine wk_tup ?_ | refine wk_agg ?_)))
  · by_cases h1 : s < 0
    · by_cases h2 : 4096 < s + c
      · have hw : wIn (s, c) = (0, 4096, decide ((0 : Int) < 4096)) := by
          simp only [wIn, wFrom, wTo, if_neg h0, if_pos (show (0 : Int) > s from h1), h1, true_or, if_true, if_pos h2]
        rw [hw]
        repeat (first | (refine aw_seq ?_) | (apply w_region (by rfl); (next => (simp (maxSteps := 2000000) (disch := omega) only [go_sem] <;> exact rfl))) | (refine w_nil ?_) | (refine w_hold2 ?_) | (refine w_then ?_) | (refine aw_skip ?_) | (refine aw_ret ?_) | (apply w_end; (next => (simp (maxSteps := 2000000) (disch := omega) only [go_sem, Try.f56] <;> exact rfl))) | (apply w_condT; (next => (simp (maxSteps := 2000000) (disch := omega) only [go_sem] <;> done))) | (apply w_condF; (next => (simp (maxSteps := 2000000) (disch := omega) only [go_sem] <;> done))))
        (simp (maxSteps := 2000000) (disch := omega) only [go_sem, noId_c, noId_agg, noId_tup, noId_snap, encL_noIdE, sec_noIdE, List.drop_zero, List.take_length]; (repeat (first | exact .refl _ | exact .nil | exact wks_nil | refine wks_cons ?_ ?_ | refine wk_tup ?_ | refine wk_agg ?_)))
      · have hw : wIn (s, c) = (0, s + c, decide ((0 : Int) < s + c)) := by
          simp only [wIn, wFrom, wTo, if_neg h0, if_pos (show (0 : Int) > s from h1), h1, true_or, if_true, if_neg h2]
        rw [hw]
        repeat (first | (refine aw_seq ?_) | (apply w_region (by rfl); (next => (simp (maxSteps := 2000000) (disch := omega) only [go_sem] <;> exact rfl))) | (refine w_nil ?_) | (refine w_hold2 ?_) | (refine w_then ?_) | (refine aw_skip ?_) | (refine aw_ret ?_) | (apply w_end; (next => (simp (maxSteps := 2000000) (disch := omega) only [go_sem, Try.f56] <;> exact rfl))) | (apply w_condT; (next => (simp (maxSteps := 2000000) (disch := omega) only [go_sem] <;> done))) | (apply w_condF; (next => (simp (maxSteps := 2000000) (disch := omega) only [go_sem] <;> done))))
        (simp (maxSteps := 2000000) (disch := omega) only [go_sem, noId_c, noId_agg, noId_tup, noId_snap, encL_noIdE, sec_noIdE, List.drop_zero, List.take_length]; (repeat (first | exact .refl _ | exact .nil | exact wks_nil | refine wks_cons ?_ ?_ | refine wk_tup ?_ | refine wk_agg ?_)))
    · by_cases h3 : c < 4096 - s
      · have hw : wIn (s, c) = (s, s + c, decide (s < s + c)) := by
          simp only [wIn, wFrom, wTo, if_neg h0, if_neg (show ¬ (0 : Int) > s by omega), h3, or_true, if_true, if_neg (show ¬ 4096 < s + c by omega)]
        rw [hw]
        repeat (first | (refine aw_seq ?_) | (apply w_region (by rfl); (next => (simp (maxSteps := 2000000) (disch := omega) only [go_sem] <;> exact rfl))) | (refine w_nil ?_) | (refine w_hold2 ?_) | (refine w_then ?_) | (refine aw_skip ?_) | (refine aw_ret ?_) | (apply w_end; (next => (simp (maxSteps := 2000000) (disch := omega) only [go_sem, Try.f56] <;> exact rfl))) | (apply w_condT; (next => (simp (maxSteps := 2000000) (disch := omega) only [go_sem] <;> done))) | (apply w_condF; (next => (simp (maxSteps := 2000000) (disch := omega) only [go_sem] <;> done))))
        (simp (maxSteps := 2000000) (disch := omega) only [go_sem, noId_c, noId_agg, noId_tup, noId_snap, encL_noIdE, sec_noIdE, List.drop_zero, List.take_length]; (repeat (first | exact .refl _ | exact .nil | exact wks_nil | refine wks_cons ?_ ?_ | refine wk_tup ?_ | refine wk_agg ?_)))
      · have hw : wIn (s, c) = (s, 4096, decide (s < 4096)) := by
          simp only [wIn, wFrom, wTo, if_neg h0, if_neg (show ¬ (0 : Int) > s by omega), h3, h1, or_self, if_false]
        rw [hw]
        repeat (first | (refine aw_seq ?_) | (apply w_region (by rfl); (next => (simp (maxSteps := 2000000) (disch := omega) only [go_sem] <;> exact rfl))) | (refine w_nil ?_) | (refine w_hold2 ?_) | (refine w_then ?_) | (refine aw_skip ?_) | (refine aw_ret ?_) | (apply w_end; (next => (simp (maxSteps := 2000000) (disch := omega) only [go_sem, Try.f56] <;> exact rfl))) | (apply w_condF; (next => (simp (maxSteps := 2000000) (disch := omega) only [go_sem] <;> done))))
        (simp (maxSteps := 2000000) (disch := omega) only [go_sem, noId_c, noId_agg, noId_tup, noId_snap, encL_noIdE, sec_noIdE, List.drop_zero, List.take_length]; (repeat (first | exact .refl _ | exact .nil | exact wks_nil | refine wks_cons ?_ ?_ | refine wk_tup ?_ | refine wk_agg ?_)))

theorem contains1_p (i : Int) (e : Int × Int) (hs : I64e e.1) (hc : I64e e.2) : PCall Try.prog 55 [.agg (encExt e), .sptr [[zV i]] 0 0] (· = bV (inE i e)) := by
  refine pcall Try.func55 rfl (by kernel_rfl) (by simp [Try.ntmps55]) ?_
  rw [Try.ntmps55]
  have hw := within_p e.1 e.2 hs hc
  have hi : inE i e = ((wIn (e.1, e.2)).2.2 && (decide ((wIn (e.1, e.2)).1 ≤ i) && decide (i < (wIn (e.1, e.2)).2.1))) := rfl
  rw [hi]
  generalize wIn (e.1, e.2) = w at hw
  obtain ⟨a, b, c⟩ := w
  simp only [] at hw
  cases c
  · repeat (first | (refine aw_seq ?_) | (apply w_region (by rfl); (next => (simp (maxSteps := 2000000) (disch := omega) only [go_sem] <;> exact rfl))) | (refine w_nil ?_) | (refine w_hold2 ?_) | (refine w_then ?_) | (refine aw_ret ?_) | (apply w_end; (next => (simp (maxSteps := 2000000) (disch := omega) only [go_sem, Try.f55] <;> exact rfl))) | (apply w_callP (hop := rfl) (hg := rfl) (hp := hw); (next => (simp (maxSteps := 2000000) (disch := omega) only [go_sem] <;> exact rfl)); (next => (simp [noId_c, noId_agg, noId_snap, noId_tup,encD,sec_noIdE,encL_noId,encL_noIdE,encCa,encOp,encExt]; done)); (next => (simp (maxSteps := 2000000) (disch := omega) only [go_sem] <;> exact rfl))))
    (simp (maxSteps := 2000000) (disch := omega) only [go_sem, noId_c, noId_agg, noId_tup, noId_snap, encL_noIdE, sec_noIdE, List.drop_zero, List.take_length]; (repeat (first | exact .refl _ | exact .nil | exact wks_nil | refine wks_cons ?_ ?_ | refine wk_tup ?_ | refine wk_agg ?_)))
  · by_cases h1 : a ≤ i
    · repeat (first | (refine aw_seq ?_) | (apply w_region (by rfl); (next => (simp (maxSteps := 2000000) (disch := omega) only [go_sem] <;> exact rfl))) | (refine w_nil ?_) | (refine w_hold2 ?_) | (refine w_then ?_) | (refine aw_ret ?_) | (apply w_end; (next => (simp (maxSteps := 2000000) (disch := omega) only [go_sem, Try.f55] <;> exact rfl))) | (apply w_callP (hop := rfl) (hg := rfl) (hp := hw); (next => (simp (maxSteps := 2000000) (disch := omega) only [go_sem] <;> exact rfl)); (next => (simp [noId_c, noId_agg, noId_snap, noId_tup,encD,sec_noIdE,encL_noId,encL_noIdE,encCa,encOp,encExt]; done)); (next => (simp (maxSteps := 2000000) (disch := omega) only [go_sem] <;> exact rfl))))
      (simp (maxSteps := 2000000) (disch := omega) only [go_sem, noId_c, noId_agg, noId_tup, noId_snap, encL_noIdE, sec_noIdE, List.drop_zero, List.take_length]; (repeat (first | exact .refl _ | exact .nil | exact wks_nil | refine wks_cons ?_ ?_ | refine wk_tup ?_ | refine wk_agg ?_)))
    · repeat (first | (refine aw_seq ?_) | (apply w_region (by rfl); (next => (simp (maxSteps := 2000000) (disch := omega) only [go_sem] <;> exact rfl))) | (refine w_nil ?_) | (refine w_hold2 ?_) | (refine w_then ?_) | (refine aw_ret ?_) | (apply w_end; (next => (simp (maxSteps := 2000000) (disch := omega) only [go_sem, Try.f55] <;> exact rfl))) | (apply w_callP (hop := rfl) (hg := rfl) (hp := hw); (next => (simp (maxSteps := 2000000) (disch := omega) only [go_sem] <;> exact rfl)); (next => (simp [noId_c, noId_agg, noId_snap, noId_tup,encD,sec_noIdE,encL_noId,encL_noIdE,encCa,encOp,encExt]; done)); (next => (simp (maxSteps := 2000000) (disch := omega) only [go_sem] <;> exact rfl))))
      (simp (maxSteps := 2000000) (disch := omega) only [go_sem, noId_c, noId_agg, noId_tup, noId_snap, encL_noIdE, sec_noIdE, List.drop_zero, List.take_length]; (repeat (first | exact .refl _ | exact .nil | exact wks_nil | refine wks_cons ?_ ?_ | refine wk_tup ?_ | refine wk_agg ?_)))

theorem indexE_p (p : Int × Int → Bool) (n : FuncId) (l : List (Int × Int)) (first cap : List AV) (hp : ∀ x ∈ l, PCall Try.prog n (first ++ [.agg (encExt x)] ++ cap) (· = bV (p x))) (hn1 : ∀ x ∈ first, NoId x) (hn2 : ∀ x ∈ cap, NoId x) (hL : l.length ≤ 1000000) : PCall Try.prog 67 [.snap (encL encExt l), .fn (.func n) first cap] (· = zV (idxFrom p l 0)) := by
  refine pcall Try.func67 rfl (by kernel_rfl) (by simp [Try.ntmps67]) ?_
  rw [Try.ntmps67]
  repeat (first | (refine aw_seq ?_) | (apply w_region (by rfl); (next => (simp (maxSteps := 2000000) (disch := omega) only [go_sem] <;> exact rfl))) | (refine w_nil ?_) | (refine w_then ?_) | (refine aw_block ?_))
  refine w_loop (HeadI encExt p l (.fn (.func n) first cap)) l.length ?_ ?_
  · refine ⟨_, _, ⟨0, 1000, by omega, by omega, by simp, rfl, rfl⟩, ?_⟩
    refine holds_cons (by rfl) (holds_cons (by rfl) (holds_cons (by rfl) (holds_cons (by rfl) (holds_nil (by simp only []; omega) (fun _ _ h => h)))))
  · rintro n' env H ⟨k, m, rfl, hk, hix, rfl, rfl⟩
    by_cases hlt : k < l.length
    · have hq := hp (l.getD k zExt) (getD_mem' zExt hlt)
      cases hb : p (l.getD k zExt)
      · rw [hb] at hq
        repeat (first | (refine aw_seq ?_) | (apply w_region (by rfl); (next => (simp (maxSteps := 2000000) (disch := omega) only [go_sem, (encL_get (f := encExt) zExt)] <;> exact rfl))) | (refine w_nil ?_) | (refine w_then ?_) | (refine aw_skip ?_) | (refine aw_block ?_) | (apply w_condT; (next => (simp (maxSteps := 2000000) (disch := omega) only [go_sem, (encL_get (f := encExt) zExt)] <;> done))) | (apply w_condF; (next => (simp (maxSteps := 2000000) (disch := omega) only [go_sem, (encL_get (f := encExt) zExt)] <;> done))) | (apply w_callP (hop := rfl) (hg := rfl) (hp := hq); (next => (simp (maxSteps := 2000000) (disch := omega) only [go_sem, (encL_get (f := encExt) zExt)] <;> exact rfl)); (next => (simp [noId_c, noId_agg, noId_snap, noId_tup,encD,sec_noIdE,encL_noId,encL_noIdE,encCa,encOp,encExt,List.mem_append,or_imp,forall_and,eq_true hn1,eq_true hn2]; done)); (next => (simp (maxSteps := 2000000) (disch := omega) only [go_sem, (encL_get (f := encExt) zExt)] <;> exact rfl))))
        refine ⟨l.length - (k + 1), by omega, _, _, ⟨k + 1, m, rfl, by omega, by rw [hix, idxFrom_miss hlt hb], rfl, rfl⟩, ?_⟩
        refine holds_cons (by rfl) (holds_cons (by rfl) (holds_cons (by rfl) (holds_cons (by rfl) (holds_nil (by simp only []; omega) (fun _ _ h => h)))))
      · rw [hb] at hq
        repeat (first | (refine aw_seq ?_) | (apply w_region (by rfl); (next => (simp (maxSteps := 2000000) (disch := omega) only [go_sem, (encL_get (f := encExt) zExt)] <;> exact rfl))) | (refine w_nil ?_) | (refine w_hold2 ?_) | (refine w_then ?_) | (refine w_thenR ?_) | (refine w_blockR ?_) | (refine aw_skip ?_) | (refine aw_ret ?_) | (refine aw_block ?_) | (apply w_end; (next => (simp (maxSteps := 2000000) (disch := omega) only [go_sem, (encL_get (f := encExt) zExt), Try.f67] <;> exact rfl))) | (apply w_condT; (next => (simp (maxSteps := 2000000) (disch := omega) only [go_sem, (encL_get (f := encExt) zExt)] <;> done))) | (apply w_callP (hop := rfl) (hg := rfl) (hp := hq); (next => (simp (maxSteps := 2000000) (disch := omega) only [go_sem, (encL_get (f := encExt) zExt)] <;> exact rfl)); (next => (simp [noId_c, noId_agg, noId_snap, noId_tup,encD,sec_noIdE,encL_noId,encL_noIdE,encCa,encOp,encExt,List.mem_append,or_imp,forall_and,eq_true hn1,eq_true hn2]; done)); (next => (simp (maxSteps := 2000000) (disch := omega) only [go_sem, (encL_get (f := encExt) zExt)] <;> exact rfl))))
        (simp (maxSteps := 2000000) (disch := omega) only [go_sem, noId_c, noId_agg, noId_tup, noId_snap, encL_noIdE, sec_noIdE] <;> simp [hix, idxFrom_hit hlt hb])
    · repeat (first | (refine aw_seq ?_) | (apply w_region (by rfl); (next => (simp (maxSteps := 2000000) (disch := omega) only [go_sem] <;> exact rfl))) | (refine w_nil ?_) | (refine w_hold2 ?_) | (refine w_then ?_) | (refine aw_ret ?_) | (refine aw_exit ?_) | (apply w_end; (next => (simp (maxSteps := 2000000) (disch := omega) only [go_sem, Try.f67] <;> exact rfl))) | (apply w_condF; (next => (simp (maxSteps := 2000000) (disch := omega) only [go_sem] <;> done))))
      (simp (maxSteps := 2000000) (disch := omega) only [go_sem, noId_c, noId_agg, noId_tup, noId_snap, encL_noIdE, sec_noIdE] <;> simp [hix, idxFrom_end (show l.length ≤ k by omega)])

theorem containsE_p (p : Int × Int → Bool) (n : FuncId) (l : List (Int × Int)) (first cap : List AV) (hp : ∀ x ∈ l, PCall Try.prog n (first ++ [.agg (encExt x)] ++ cap) (· = bV (p x))) (hn1 : ∀ x ∈ first, NoId x) (hn2 : ∀ x ∈ cap, NoId x) (hL : l.length ≤ 1000000) : PCall Try.prog 54 [.snap (encL encExt l), .fn (.func n) first cap] (· = bV (l.any p)) := by
  refine pcall Try.func54 rfl (by kernel_rfl) (by simp [Try.ntmps54]) ?_
  rw [Try.ntmps54]
  have hany := idxFrom_any p l 0
  repeat (first | (refine aw_seq ?_) | (apply w_region (by rfl); (next => (simp (maxSteps := 2000000) (disch := omega) only [go_sem] <;> exact rfl))) | (refine w_nil ?_) | (refine w_hold2 ?_) | (refine w_then ?_) | (refine aw_ret ?_) | (apply w_end; (next => (simp (maxSteps := 2000000) (disch := omega) only [go_sem, Try.f54] <;> exact rfl))) | (apply w_callP (hop := rfl) (hg := rfl) (hp := (indexE_p p n l first cap hp hn1 hn2 hL)); (next => (simp (maxSteps := 2000000) (disch := omega) only [go_sem] <;> exact rfl)); (next => (simp [noId_c, noId_agg, noId_snap, noId_tup,encD,sec_noIdE,encL_noId,encL_noIdE,encCa,encOp,encExt,noId_fn,List.mem_append,or_imp,forall_and,eq_true hn1,eq_true hn2,encL_noIdE]; done)); (next => (simp (maxSteps := 2000000) (disch := omega) only [go_sem] <;> exact rfl))))
  first | done | (simp (maxSteps := 2000000) (disch := omega) only [go_sem, noId_c, noId_agg, noId_tup, noId_snap, encL_noIdE, sec_noIdE] <;> simp [hany])

theorem contains_p (l : List (Int × Int)) (i : Int) (hl : ∀ x ∈ l, I64e x.1 ∧ I64e x.2) (hC : l.length ≤ 1000000) : PCall Try.prog 30 [.snap (encL encExt l), zV i] (· = bV (l.any (inE i))) := by
  refine pcall Try.func30 rfl (by kernel_rfl) (by simp [Try.ntmps30]) ?_
  rw [Try.ntmps30]
  have hna : ∀ x ∈ ([] : List AV), NoId x := fun x h => by cases h
  have hnb : ∀ x ∈ [AV.sptr [[zV i]] 0 0], NoId x := fun x h => by
    rw [List.mem_singleton.1 h, noId_sptr]
    intro row hr x hx
    rw [List.mem_singleton.1 hr] at hx
    rw [List.mem_singleton.1 hx]
    exact .c _
  repeat (first | (refine aw_seq ?_) | (apply w_region (by rfl); (next => (simp (maxSteps := 2000000) (disch := omega) only [go_sem] <;> exact rfl))) | (refine w_nil ?_) | (refine w_hold2 ?_) | (refine w_then ?_) | (refine aw_ret ?_) | (apply w_end; (next => (simp (maxSteps := 2000000) (disch := omega) only [go_sem, Try.f30] <;> exact rfl))) | (apply w_callX (hop := rfl) (hg := rfl) (hp := (containsE_p (inE i) 55 l [] [.sptr [[zV i]] 0 0] (fun x hx => contains1_p i x (hl x hx).1 (hl x hx).2) hna hnb hC)); (next => (simp (maxSteps := 2000000) (disch := omega) only [go_sem] <;> exact rfl)); (next => (simp (maxSteps := 2000000) (disch := omega) only [go_sem] <;> exact rfl)); (next => (simp [noId_c, noId_agg, noId_snap, noId_tup,encD,sec_noIdE,encL_noId,encL_noIdE,encCa,encOp,encExt,noId_fn,noId_sptr]; done)); (next => (simp (maxSteps := 2000000) (disch := omega) only [go_sem] <;> exact rfl)); (next => (simp (maxSteps := 2000000) (disch := omega) only [go_sem] <;> exact rfl))))
  (simp (maxSteps := 2000000) (disch := omega) only [go_sem, noId_c, noId_agg, noId_tup, noId_snap, encL_noIdE, sec_noIdE, List.drop_zero, List.take_length]; (repeat (first | exact .refl _ | exact .nil | exact wks_nil | refine wks_cons ?_ ?_ | refine wk_tup ?_ | refine wk_agg ?_)))

end Go.Proofs.Ytniccdnhjbnaeaa

/- What running in two parts and what a crash behind a sync keep. Plain. -/
namespace Go.Proofs.Ytniccdnhjbnaeaa
open Go.Proofs Go.AL
set_option linter.unusedVariables false
set_option linter.unusedSimpArgs false

/-- All went well. -/
def okL (d : Dsk) (ops : List Opr) : Prop := (runL d ops 0).2.2 = 0
theorem stepS_e {d d' : Dsk} (h : d.st.length = d'.st.length) (o : Opr) {e : Int} : stepS d o = .inl e → stepS d' o = .inl e := by
  unfold stepS
  rw [h]
  intro h1
  split at h1
  · rename_i h0
    rw [if_pos h0]
    split at h1
    · cases h1
    · rename_i h2; rw [if_neg h2]; exact h1
  · rename_i h0
    rw [if_neg h0]
    split at h1
    · cases h1
    · rename_i h2; rw [if_neg h2]; exact h1
theorem stepS_len {d d' : Dsk} {o : Opr} (h : stepS d o = .inr d') : d'.st.length = d.st.length := by
  unfold stepS at h
  split at h
  · split at h
    · injection h with h; subst h; rfl
    · cases h
  · split at h
    · injection h with h; subst h; exact newD_len d
    · cases h
theorem stepS_ok {d d' : Dsk} {o : Opr} (hd : inAll d) (h : stepS d o = .inr d') : inAll d' := by
  unfold stepS at h
  split at h
  · split at h
    · rename_i hi
      injection h with h; subst h; exact inAll_put hd hi
    · cases h
  · split at h
    · injection h with h; subst h; exact inAll_new d
    · cases h
theorem stepS_pos {d : Dsk} {o : Opr} {e : Int} (h : stepS d o = .inl e) : e ≠ 0 := by
  unfold stepS at h
  split at h
  · split at h
    · cases h
    · injection h with h; subst h; decide
  · split at h
    · cases h
    · injection h with h; subst h; decide
/-- The index plays no part. -/
theorem runL_idx : ∀ (ops : List Opr) (d : Dsk) (j : Nat), (runL d ops j).1 = (runL d ops 0).1 ∧ (runL d ops j).2.2 = (runL d ops 0).2.2
  | [], d, j => ⟨rfl, rfl⟩
  | o :: r, d, j => by
    simp only [runL]
    cases hs : stepS d o with
    | inl e => exact ⟨rfl, rfl⟩
    | inr d' =>
      obtain ⟨h1, h2⟩ := runL_idx r d' (j + 1)
      obtain ⟨h3, h4⟩ := runL_idx r d' (0 + 1)
      exact ⟨h1.trans h3.symm, h2.trans h4.symm⟩
theorem runL_n : ∀ (ops : List Opr) (d : Dsk) (j : Nat), (runL d ops j).2.2 = 0 → (runL d ops j).2.1 = ((j + ops.length : Nat) : Int)
  | [], d, j, _ => rfl
  | o :: r, d, j, h => by
    simp only [runL] at h ⊢
    cases hs : stepS d o with
    | inl e => rw [hs] at h; exact absurd h (stepS_pos hs)
    | inr d' =>
      rw [hs] at h
      simp only [] at h ⊢
      rw [runL_n r d' (j + 1) h, List.length_cons]
      congr 1; omega
theorem runL_ok : ∀ (ops : List Opr) (d : Dsk) (j : Nat), inAll d → (runL d ops j).2.2 = 0 → inAll (runL d ops j).1 ∧ (runL d ops j).1.st.length = d.st.length
  | [], d, j, h, _ => ⟨h, rfl⟩
  | o :: r, d, j, hd, h => by
    simp only [runL] at h ⊢
    cases hs : stepS d o with
    | inl e => rw [hs] at h; exact absurd h (stepS_pos hs)
    | inr d' =>
      rw [hs] at h
      obtain ⟨h1, h2⟩ := runL_ok r d' (j + 1) (stepS_ok hd hs) h
      exact ⟨h1, h2.trans (stepS_len hs)⟩
theorem runL_app : ∀ (a b : List Opr) (d : Dsk) (j : Nat), (runL d (a ++ b) j).2.2 = 0 → (runL d a j).2.2 = 0 ∧ (runL (runL d a j).1 b 0).2.2 = 0 ∧ (runL d (a ++ b) j).1 = (runL (runL d a j).1 b 0).1
  | [], b, d, j, h => ⟨rfl, by rw [← (runL_idx b _ j).2]; exact h, (runL_idx b _ j).1⟩
  | o :: r, b, d, j, h => by
    simp only [runL, List.cons_append] at h ⊢
    cases hs : stepS d o with
    | inl e => rw [hs] at h; exact absurd h (stepS_pos hs)
    | inr d' =>
      rw [hs] at h
      exact runL_app r b d' (j + 1) h
theorem runL_join : ∀ (a b : List Opr) (d : Dsk) (j : Nat), (runL d a j).2.2 = 0 → (runL (runL d a j).1 b 0).2.2 = 0 → (runL d (a ++ b) j).2.2 = 0 ∧ (runL d (a ++ b) j).1 = (runL (runL d a j).1 b 0).1
  | [], b, d, j, _, h => ⟨by rw [← (runL_idx b _ j).2] at h; exact h, (runL_idx b _ j).1⟩
  | o :: r, b, d, j, h, h2 => by
    simp only [runL, List.cons_append] at h h2 ⊢
    cases hs : stepS d o with
    | inl e => rw [hs] at h; exact absurd h (stepS_pos hs)
    | inr d' =>
      rw [hs] at h h2
      exact runL_join r b d' (j + 1) h h2
theorem runL_same : ∀ (ops : List Opr) (d d' : Dsk) (j : Nat), d.st.length = d'.st.length → (runL d ops j).2.2 = 0 → (runL d' ops j).2.2 = 0
  | [], d, d', j, _, _ => rfl
  | o :: r, d, d', j, hl, h => by
    simp only [runL] at h ⊢
    cases hs : stepS d o with
    | inl e => rw [hs] at h; exact absurd h (stepS_pos hs)
    | inr d1 =>
      rw [hs] at h
      cases hs' : stepS d' o with
      | inl e => rw [stepS_e hl.symm o hs'] at hs; cases hs
      | inr d2 => exact runL_same r d1 d2 (j + 1) (by rw [stepS_len hs, stepS_len hs', hl]) h

/-- Sector i is kept: its stable content, and no version in the cache. -/
def Keeps (d : Dsk) (i : Nat) (s : Sec) : Prop := d.st.getD i zSec = s ∧ ∀ c ∈ d.ca, c.1 ≠ (i : Int)
theorem newD_keep {d : Dsk} {i : Nat} (hd : inAll d) (h : ∀ c ∈ d.ca, c.1 ≠ (i : Int)) : (newD d).getD i zSec = d.st.getD i zSec := by
  unfold newD newTo
  rw [List.take_length]
  have key : ∀ (l : List (Int × Sec)) (o : List Sec), (∀ c ∈ l, 0 ≤ c.1 ∧ c.1 ≠ (i : Int)) → (l.foldl (fun o c => o.set c.1.toNat c.2) o).getD i zSec = o.getD i zSec := by
    intro l
    induction l with
    | nil => intro o _; rfl
    | cons x r ih =>
      intro o hl
      rw [List.foldl_cons, ih _ fun c hc => hl c (by simp [hc])]
      have := hl x (by simp)
      rw [List.getD_eq_getElem?_getD, List.getElem?_set_ne (by omega), ← List.getD_eq_getElem?_getD]
  exact key _ _ fun c hc => ⟨(hd c hc).1, h c hc⟩
/-- No write of the operations meets sector i. -/
def misses (ops : List Opr) (i : Nat) : Prop := ∀ o ∈ ops, o.kind = 0 → inE i (o.at_, o.data.length) = false
theorem inE_in {n : Nat} {a : Int} {l : Nat} {i : Nat} (hn : n ≤ 4096) (h : insideB n a l = true) (hj : ∃ j : Nat, j < l ∧ a + (j : Int) = i) : inE i (a, l) = true := by
  simp only [insideB, Bool.and_eq_true, decide_eq_true_eq] at h
  obtain ⟨j, h1, h2⟩ := hj
  unfold inE wIn
  rw [if_neg (by show ¬ (l : Int) ≤ 0; omega)]
  have hf : wFrom (a, (l : Int)) = a := by unfold wFrom; exact if_neg (by show ¬ (0 : Int) > a; omega)
  have ht : i < wTo (a, (l : Int)) := by
    unfold wTo
    show (i : Int) < if a < 0 ∨ (l : Int) < 4096 - a then (if 4096 < a + l then 4096 else a + l) else 4096
    split
    · split <;> omega
    · omega
  simp only [hf, Bool.and_eq_true, decide_eq_true_eq]
  omega
theorem step_keep {d d' : Dsk} {o : Opr} {i : Nat} {s : Sec} (hd : inAll d) (hL : d.st.length ≤ 4096) (hk : Keeps d i s) (hm : o.kind = 0 → inE i (o.at_, o.data.length) = false) (h : stepS d o = .inr d') : Keeps d' i s := by
  unfold stepS at h
  split at h
  · rename_i h0
    split at h
    · rename_i hi
      injection h with h
      subst h
      refine ⟨hk.1, fun c hc => ?_⟩
      simp only [putS, List.mem_append, List.mem_map, List.mem_range] at hc
      rcases hc with hc | ⟨j, hj, rfl⟩
      · exact hk.2 c hc
      · intro he
        have := inE_in hL hi ⟨j, hj, he⟩
        rw [hm h0] at this
        cases this
    · cases h
  · split at h
    · injection h with h
      subst h
      exact ⟨(newD_keep hd hk.2).trans hk.1, fun c hc => by cases hc⟩
    · cases h
theorem run_keep : ∀ (ops : List Opr) (d : Dsk) (j : Nat) {i : Nat} {s : Sec}, inAll d → d.st.length ≤ 4096 → Keeps d i s → misses ops i → (runL d ops j).2.2 = 0 → Keeps (runL d ops j).1 i s
  | [], d, j, i, s, _, _, hk, _, _ => hk
  | o :: r, d, j, i, s, hd, hL, hk, hm, h => by
    simp only [runL] at h ⊢
    cases hs : stepS d o with
    | inl e => rw [hs] at h; exact absurd h (stepS_pos hs)
    | inr d' =>
      rw [hs] at h
      exact run_keep r d' (j + 1) (stepS_ok hd hs) (by rw [stepS_len hs]; exact hL) (step_keep hd hL hk (hm o (by simp)) hs) (fun o' ho' => hm o' (by simp [ho'])) h
theorem vers_none {ca : List (Int × Sec)} {i : Nat} (h : ∀ c ∈ ca, c.1 ≠ (i : Int)) : versS ca i = [] := by
  unfold versS
  rw [List.filter_eq_nil_iff.2 fun c hc => by have := h c hc; simpa using this]
  rfl
theorem crashStep_other (ca : List (Int × Sec)) (s : List Sec × List Int) {k i : Nat} (h : k ≠ i) : (crashStep ca s k).1.getD i zSec = s.1.getD i zSec := by
  unfold crashStep
  split
  · rfl
  · split
    · simp only [List.getD_eq_getElem?_getD]; rw [List.getElem?_set_ne h]
    · rfl
theorem crashTo_keep {ca : List (Int × Sec)} {st : List Sec} {c : List Int} {i : Nat} (h : versS ca i = []) : ∀ k, (crashTo ca st c k).1.getD i zSec = st.getD i zSec
  | 0 => rfl
  | k + 1 => by
    rw [crashTo_succ]
    by_cases hk : k = i
    · subst hk
      unfold crashStep
      rw [if_pos (by rw [h]; rfl)]
      exact crashTo_keep h k
    · rw [crashStep_other _ _ hk]
      exact crashTo_keep h k
theorem crashS_keep {d : Dsk} {c : List Int} {i : Nat} {s : Sec} (h : Keeps d i s) : (crashS d c).1.st.getD i zSec = s := by
  unfold crashS
  split
  · exact (crashTo_keep (vers_none h.2) _).trans h.1
  · exact h.1
theorem crashS_len (d : Dsk) (c : List Int) : (crashS d c).1.st.length = d.st.length := by
  unfold crashS
  split
  · exact crashTo_len _ _ _ _
  · rfl

/-- The disk of zeros. -/
def zD (n : Nat) : Dsk := ⟨List.replicate n zSec, []⟩
theorem zD_ok (n : Nat) : inAll (zD n) := fun c hc => by cases hc
theorem zD_check {n : Nat} (h : n ≤ 4096) : checkD (zD n) = 0 := checkD_of (zD_ok n) (by simpa [zD] using h)
theorem zD_len (n : Nat) : (zD n).st.length = n := by simp [zD]

abbrev syncO : Opr := ⟨1, 0, []⟩
/-- The whole: what the law asks. -/
structure Divides (n : Nat) (ops : List Opr) (k : Nat) (c : List Int) : Prop where
  e1 : (runS (zD n) (ops.take k)).2.2 = 0
  n1 : (runS (zD n) (ops.take k)).2.1 = k
  e2 : (runS (runS (zD n) (ops.take k)).1 (ops.drop k)).2.2 = 0
  all : (runS (runS (zD n) (ops.take k)).1 (ops.drop k)).1 = (runS (zD n) ops).1
  syn : syncS (runS (zD n) (ops.take k)).1 = ⟨newD (runS (zD n) (ops.take k)).1, []⟩
  len1 : (newD (runS (zD n) (ops.take k)).1).length = n
  inter : (interS (zD n) (ops.take k ++ [syncO] ++ ops.drop k) (ops.take k ++ [syncO] ++ ops.drop k).length c).2.2 = 0
  len2 : (interS (zD n) (ops.take k ++ [syncO] ++ ops.drop k) (ops.take k ++ [syncO] ++ ops.drop k).length c).1.st.length = n
  keep : ∀ i, misses (ops.drop k) i → (interS (zD n) (ops.take k ++ [syncO] ++ ops.drop k) (ops.take k ++ [syncO] ++ ops.drop k).length c).1.st.getD i zSec = (newD (runS (zD n) (ops.take k)).1).getD i zSec
theorem divides {n : Nat} {ops : List Opr} {k : Nat} (c : List Int) (hn : n ≤ 4096) (hk : k ≤ ops.length) (h : (runS (zD n) ops).2.2 = 0) : Divides n ops k c := by
  have hz := zD_check hn
  have hr : ∀ ops, runS (zD n) ops = runL (zD n) ops 0 := fun ops => if_pos hz
  rw [hr] at h
  have hsp : ops = ops.take k ++ ops.drop k := (List.take_append_drop k ops).symm
  obtain ⟨h1, h2, h3⟩ := runL_app (ops.take k) (ops.drop k) (zD n) 0 (by rw [← hsp]; exact h)
  rw [← hsp] at h3
  obtain ⟨h4, h5⟩ := runL_ok (ops.take k) (zD n) 0 (zD_ok n) h1
  have hn1 := runL_n (ops.take k) (zD n) 0 h1
  rw [zD_len] at h5
  have hc1 : checkD (runL (zD n) (ops.take k) 0).1 = 0 := checkD_of h4 (by omega)
  have hr2 : runS (runL (zD n) (ops.take k) 0).1 (ops.drop k) = runL (runL (zD n) (ops.take k) 0).1 (ops.drop k) 0 := if_pos hc1
  have hl1 : (newD (runL (zD n) (ops.take k) 0).1).length = n := by rw [newD_len]; exact h5
  have hs1 : (runL ⟨newD (runL (zD n) (ops.take k) 0).1, []⟩ (ops.drop k) 0).2.2 = 0 := runL_same _ _ _ 0 (by simp only []; rw [hl1]; exact h5) h2
  have hj1 : (runL (zD n) (ops.take k ++ [syncO]) 0).2.2 = 0 ∧ (runL (zD n) (ops.take k ++ [syncO]) 0).1 = ⟨newD (runL (zD n) (ops.take k) 0).1, []⟩ := by
    obtain ⟨g1, g2⟩ := runL_join (ops.take k) [syncO] (zD n) 0 h1 rfl
    exact ⟨g1, g2⟩
  obtain ⟨g1, g2⟩ := runL_join (ops.take k ++ [syncO]) (ops.drop k) (zD n) 0 hj1.1 (by rw [hj1.2]; exact hs1)
  rw [hj1.2] at g2
  have hmo := hr (ops.take k ++ [syncO] ++ ops.drop k)
  have hin : ∀ m : List Opr, (runL (zD n) m 0).2.2 = 0 → interS (zD n) m m.length c = ((crashS (runL (zD n) m 0).1 c).1, (crashS (runL (zD n) m 0).1 c).2, 0) := fun m hm => by
    unfold interS
    rw [if_pos hz, if_pos (by omega), Int.toNat_natCast, List.take_length, hr, if_pos hm]
  have hmi := hin _ g1
  rw [g2] at hmi
  refine ⟨?_, ?_, ?_, ?_, ?_, ?_, ?_, ?_, fun i hi => ?_⟩
  · rw [hr]; exact h1
  · rw [hr, hn1]; simp; omega
  · rw [hr, hr2]; exact h2
  · rw [hr, hr2, hr]; exact h3.symm
  · rw [hr]; exact if_pos hc1
  · rw [hr]; exact hl1
  · rw [hmi]
  · rw [hmi, crashS_len]
    exact (runL_ok _ _ _ (inAll_new _) hs1).2.trans hl1
  · rw [hmi, hr]
    exact crashS_keep (run_keep (ops.drop k) _ 0 (inAll_new _) (by simp only []; omega) ⟨rfl, fun c hc => by cases hc⟩ hi hs1)
end Go.Proofs.Ytniccdnhjbnaeaa

namespace Go.Proofs.Ytniccdnhjbnaeaa
open Go.Proofs Go.AL
set_option maxRecDepth 100000
set_option maxHeartbeats 1000000
set_option linter.unusedVariables false
set_option linter.unusedSimpArgs false
attribute [local irreducible] endA AW aops thenA blockA hold
attribute [local go_sem] dec_ltT dec_ltF dec_leT dec_leF beq_T beq_F bne_T bne_F encD

attribute [local go_sem] keepE keepT
set_option maxHeartbeats 8000000

def kOf (ops : List Opr) (x : Int) : Nat := if ops.length = 0 then 0 else (x % (ops.length : Int)).toNat
theorem kOf_le (ops : List Opr) (x : Int) : kOf ops x ≤ ops.length := by
  unfold kOf
  split
  · omega
  · have := Int.emod_lt_of_pos x (show (0 : Int) < ops.length by omega)
    have := Int.emod_nonneg x (show (ops.length : Int) ≠ 0 by omega)
    omega
theorem rep40 (n : Nat) : (n : Int).tmod 40 = ((n % 40 : Nat) : Int) := by rw [Int.tmod_eq_emod_of_nonneg (by omega)]; omega
theorem ops_sync : [[zV 1, zV 0, .snap (encL encSec [])]] = encL encOp [syncO] := rfl
theorem z8_rep (m : Nat) : List.replicate m [uV 0, uV 0, uV 0, uV 0, uV 0, uV 0, uV 0, uV 0] = encL encSec (List.replicate m zSec) := (encL_repl (f := encSec) m zSec)


/-- The extents that the operations write. -/
def extsOf (l : List Opr) : List (Int × Int) := (l.filter fun o => o.kind == 0).map fun o => (o.at_, (o.data.length : Int))
theorem exts_miss {l : List Opr} {i : Nat} (h : (extsOf l).any (inE i) = false) : misses l i := fun o ho h0 => by
  rw [List.any_eq_false] at h
  have := h (o.at_, (o.data.length : Int)) (List.mem_map.2 ⟨o, List.mem_filter.2 ⟨ho, by simpa using h0⟩, rfl⟩)
  simpa using this
theorem exts_rng {l : List Opr} (h : ∀ o ∈ l, I64e o.at_ ∧ o.data.length ≤ 9223372036854775807) : ∀ x ∈ extsOf l, I64e x.1 ∧ I64e x.2 := fun x hx => by
  obtain ⟨o, ho, rfl⟩ := List.mem_map.1 hx
  have := h o (List.mem_filter.1 ho).1
  refine ⟨this.1, ?_⟩
  unfold I64e
  simp only []
  omega
theorem exts_len (l : List Opr) : (extsOf l).length ≤ l.length := by
  unfold extsOf; rw [List.length_map]; exact List.length_filter_le _ _
theorem exts_hit {l : List Opr} {k : Nat} (h : k < l.length) (h0 : (l.getD k default).kind = 0) : extsOf (l.take (k + 1)) = extsOf (l.take k) ++ [((l.getD k default).at_, ((l.getD k default).data.length : Int))] := by
  have h1 : l[k].kind = 0 := by simpa [h] using h0
  unfold extsOf
  rw [List.take_succ_eq_append_getElem h, List.filter_append, List.map_append]
  simp [h, h1]
theorem exts_skip {l : List Opr} {k : Nat} (h : k < l.length) (h0 : ¬ (l.getD k default).kind = 0) : extsOf (l.take (k + 1)) = extsOf (l.take k) := by
  have h1 : ¬ l[k].kind = 0 := by simpa [h] using h0
  unfold extsOf
  rw [List.take_succ_eq_append_getElem h, List.filter_append, List.map_append]
  simp [h, h1]
def Evv (wv : AV) (m : Nat) (mb : Option Blk) (l : List (Int × Int)) : Prop :=
  (∃ w, wv = .own m 0 l.length ∧ mb = some (.cells 29 2 (encL encExt l) w true)) ∨ (wv = .c (.slice none 0 0) ∧ mb = none ∧ l = [])
theorem Evv.mk {m n : Nat} {w : Bool} {l : List (Int × Int)} (h : n = l.length) : Evv (.own m 0 n) m (some (.cells 29 2 (encL encExt l) w true)) l := .inl ⟨w, by rw [h], rfl⟩
theorem Evv.nil0 {m : Nat} : Evv (.c (.slice none 0 0)) m none [] := .inr ⟨rfl, rfl, rfl⟩
theorem ext_snocE (a : List (Int × Int)) (x y : Int) : encL encExt a ++ [[zV x, zV y]] = encL encExt (a ++ [(x, y)]) := encL_snoc a (x, y)
def HeadWa (dr : List Opr) (SY : List Sec) (Y : Dsk) (n : Nat) (env : List (Nat × Bool × AV)) (H : Heap) : Prop :=
  ∃ (j : Nat) (wv : AV) (m : Nat) (mb : Option Blk) (N : Nat), n = dr.length - j ∧ j ≤ dr.length ∧ Evv wv m mb (extsOf (dr.take j)) ∧ m < N ∧ 142 ≤ m ∧
    env = [(141, true, zV (j : Int)), (140, true, zV (dr.length : Int)), (139, true, .snap (encL encOp dr)), (23, true, wv), (20, true, .ptr 141 0 0), (18, true, .ptr 126 0 0)] ∧
    H = ⟨N, tabG [(m, mb), (126, some (.cells 25 2 [encD ⟨SY, []⟩] true false)), (141, some (.cells 25 2 [encD Y] true false))]⟩
def HeadWb (M : Nat) (l : List (Int × Int)) (SY : List Sec) (Y : Dsk) (n : Nat) (env : List (Nat × Bool × AV)) (H : Heap) : Prop :=
  ∃ (i : Nat) (wv : AV) (m : Nat) (mb : Option Blk) (N : Nat), n = M - i ∧ i ≤ M ∧ Evv wv m mb l ∧ m < N ∧ 142 ≤ m ∧
    env = [(161, true, zV (i : Int)), (160, true, zV (M : Int)), (23, true, wv), (20, true, .ptr 141 0 0), (18, true, .ptr 126 0 0)] ∧
    H = ⟨N, tabG [(m, mb), (126, some (.cells 25 2 [encD ⟨SY, []⟩] true false)), (141, some (.cells 25 2 [encD Y] true false))]⟩

theorem law7_p (n : Nat) (ops : List Opr) (x : Int) (c : List Int) (hn : n < 256) (hx : I64e x) (hol : ops.length ≤ 9223372036854775807) (hcl : c.length ≤ 9223372036854775807) (hod : ∀ o ∈ ops, I64e o.at_ ∧ o.data.length ≤ 9223372036854775807) : PCall Try.prog 7 [.c (.int .u8 (n : Int)), .snap (encL encOp ops), .agg [zV x, .snap (encL intRow c)]] (· = bV true) := by
  refine pcall Try.func7 rfl (by kernel_rfl) (by simp [Try.ntmps7]) ?_
  rw [Try.ntmps7]
  cases hb0 : fewOps ops
  · repeat (first | (refine aw_seq ?_) | (apply w_region (by rfl); (next => (simp (maxSteps := 2000000) (disch := omega) only [go_sem, hb0] <;> exact rfl))) | (refine w_nil ?_) | (refine w_hold2 ?_) | (refine w_then ?_) | (refine w_thenR ?_) | (refine aw_ret ?_) | (apply w_end; (next => (simp (maxSteps := 2000000) (disch := omega) only [go_sem, hb0, Try.f7] <;> exact rfl))) | (apply w_condT; (next => (simp (maxSteps := 2000000) (disch := omega) only [go_sem, hb0] <;> done))) | (apply w_callP (hop := rfl) (hg := rfl) (hp := (fewOps_p ops hol)); (next => (simp (maxSteps := 2000000) (disch := omega) only [go_sem, hb0] <;> exact rfl)); (next => (simp [noId_c, noId_agg, noId_snap, noId_tup,encD,sec_noIdE,encL_noId,encL_noIdE,encCa,encOp,encExt]; done)); (next => (simp (maxSteps := 2000000) (disch := omega) only [go_sem, hb0] <;> exact rfl))) | (apply w_callP (hop := rfl) (hg := rfl) (hp := awake_p); (next => (simp (maxSteps := 2000000) (disch := omega) only [go_sem, hb0] <;> exact rfl)); (next => (simp [noId_c, noId_agg, noId_snap, noId_tup,encD,sec_noIdE,encL_noId,encL_noIdE,encCa,encOp,encExt]; done)); (next => (simp (maxSteps := 2000000) (disch := omega) only [go_sem, hb0] <;> exact rfl))))
    (simp (maxSteps := 2000000) (disch := omega) only [go_sem, noId_c, noId_agg, noId_tup, noId_snap, encL_noIdE, sec_noIdE, List.drop_zero, List.take_length]; (repeat (first | exact .refl _ | exact .nil | exact wks_nil | refine wks_cons ?_ ?_ | refine wk_tup ?_ | refine wk_agg ?_)))
  · have ho := fewOps_len hb0
    by_cases hc4 : c.length ≤ 400
    · have hm : n % 40 < 40 := Nat.mod_lt _ (by omega)
      have hm2 := rep40 n
      generalize n % 40 = m at hm hm2
      have c1 := lessD' (st := List.replicate m zSec) (ca := []) (a := none) (cap := 0) rfl (run_p (zD m) ops (by simp [zD]; omega) (by simp [zD]; omega) (by omega))
      have hall := divides (n := m) (ops := ops) (k := kOf ops x) c (by omega) (kOf_le ops x)
      generalize hq : runS (zD m) ops = q at c1 hall
      obtain ⟨dA, nA, eA⟩ := q
      simp only [] at c1 hall
      by_cases he : eA = 0
      · subst he
        have hD := hall rfl
        have hkl := kOf_le ops x
        have hk0 : ops.length = 0 → kOf ops x = 0 := fun h => if_pos h
        have hk1 : ops.length ≠ 0 → x % (ops.length : Int) = ((kOf ops x : Nat) : Int) := fun h => by
          have := Int.emod_nonneg x (show (ops.length : Int) ≠ 0 by omega)
          unfold kOf; rw [if_neg h]; omega
        generalize kOf ops x = k at hD hkl hk0 hk1
        obtain ⟨e1, n1, e2, hsec, hsyn, hlen1, hint, hlen2, hkeep⟩ := hD
        rw [hq] at hsec
        have hbA := runS_bd (zD m) ops
        rw [hq] at hbA
        have hb2 := runS_bd (zD m) (ops.take k)
        have hz : (zD m).st.length = m := zD_len m
        have hzc : (zD m).ca.length = 0 := rfl
        have htl : (ops.take k).length = k := by simp; omega
        have hdl : (ops.drop k).length = ops.length - k := by simp
        have c2 := lessD' (st := List.replicate m zSec) (ca := []) (a := none) (cap := 0) rfl (run_p (zD m) (ops.take k) (by omega) (by omega) (by omega))
        have c3 := run_p (runS (zD m) (ops.take k)).1 (ops.drop k) (by omega) (by omega) (by omega)
        have c5 := sync_p (runS (zD m) (ops.take k)).1 (by omega) (by omega)
        rw [hsyn] at c5
        have c4 := same_p dA dA (by simp only [] at hbA; omega) (by simp only [] at hbA; omega) (by simp only [] at hbA; omega) (by simp only [] at hbA; omega)
        rw [sameD_self] at c4
        have hA : k + 1 + (ops.length - k) = ops.length + 1 := by omega
        have hmot : List.take (ops.length + 1) (ops.take k ++ [syncO] ++ ops.drop k) = ops.take k ++ [syncO] ++ ops.drop k := List.take_of_length_le (by simp; omega)
        have htkd : (ops.drop k).take (ops.length - k) = ops.drop k := List.take_of_length_le (by omega)
        have hmol : (ops.take k ++ [syncO] ++ ops.drop k).length = ops.length + 1 := by simp; omega
        have c6 := lessD' (st := List.replicate m zSec) (ca := []) (a := none) (cap := 0) rfl (inter_p crashSaid (zD m) (ops.take k ++ [syncO] ++ ops.drop k) (ops.take k ++ [syncO] ++ ops.drop k).length c (by omega) (by omega) (by omega) (by omega))
        have hbi := interS_bd (zD m) (ops.take k ++ [syncO] ++ ops.drop k) (ops.take k ++ [syncO] ++ ops.drop k).length c
        generalize interS (zD m) (ops.take k ++ [syncO] ++ ops.drop k) (ops.take k ++ [syncO] ++ ops.drop k).length c = qi at *
        obtain ⟨Y, left, eY⟩ := qi
        simp only [] at hint hlen2 hkeep c6 hbi
        subst hint
        generalize runS (zD m) (ops.take k) = qf at *
        obtain ⟨F, nF, eF⟩ := qf
        simp only [] at e1 n1 e2 hsec hsyn hlen1 hkeep c2 c3 c5 hb2
        subst e1
        subst n1
        generalize runS F (ops.drop k) = qs at *
        obtain ⟨D2, nS, eS⟩ := qs
        simp only [] at e2 hsec c3
        subst e2
        subst hsec
        generalize newD F = SY at *
        rw [hmol] at c6
        repeat (first | (refine w_mark (id := 8) ?_) | (refine aw_seq ?_) | (apply w_region (by rfl); (next => (simp (maxSteps := 2000000) (disch := omega) only [go_sem, hb0, hm2, z8_rep, List.take_replicate, Nat.min_self, List.length_replicate, hlen1, hlen2, htl, hdl, htkd, hA, ops_sync, hmot] <;> exact rfl))) | (refine w_nil ?_) | (refine w_then ?_) | (refine aw_skip ?_) | (apply w_condF; (next => (simp (maxSteps := 2000000) (disch := omega) only [go_sem, hb0, hm2, z8_rep, List.take_replicate, Nat.min_self, List.length_replicate, hlen1, hlen2, htl, hdl, htkd, hA, ops_sync, hmot] <;> done))) | (apply w_callP (f := .func 12) (hop := rfl) (hg := rfl) (hp := (fewOps_p ops hol)); (next => (simp (maxSteps := 2000000) (disch := omega) only [go_sem, hb0, hm2, z8_rep, List.take_replicate, Nat.min_self, List.length_replicate, hlen1, hlen2, htl, hdl, htkd, hA, ops_sync, hmot] <;> exact rfl)); (next => (simp [noId_c, noId_agg, noId_snap, noId_tup,encD,sec_noIdE,encL_noId,encL_noIdE,encCa,encOp,encExt]; done)); (next => (simp (maxSteps := 2000000) (disch := omega) only [go_sem, hb0, hm2, z8_rep, List.take_replicate, Nat.min_self, List.length_replicate, hlen1, hlen2, htl, hdl, htkd, hA, ops_sync, hmot] <;> exact rfl))) | (apply w_callX (f := .func 20) (hop := rfl) (hg := rfl) (hp := c1); (next => (simp (maxSteps := 2000000) (disch := omega) only [go_sem, hb0, hm2, z8_rep, List.take_replicate, Nat.min_self, List.length_replicate, hlen1, hlen2, htl, hdl, htkd, hA, ops_sync, hmot] <;> exact rfl)); (next => (simp (maxSteps := 2000000) (disch := omega) only [go_sem, hb0, hm2, z8_rep, List.take_replicate, Nat.min_self, List.length_replicate, hlen1, hlen2, htl, hdl, htkd, hA, ops_sync, hmot] <;> exact rfl)); (next => (simp [noId_c, noId_agg, noId_snap, noId_tup,encD,sec_noIdE,encL_noId,encL_noIdE,encCa,encOp,encExt]; done)); (next => (simp (maxSteps := 2000000) (disch := omega) only [go_sem, hb0, hm2, z8_rep, List.take_replicate, Nat.min_self, List.length_replicate, hlen1, hlen2, htl, hdl, htkd, hA, ops_sync, hmot] <;> exact rfl)); (next => (simp (maxSteps := 2000000) (disch := omega) only [go_sem, hb0, hm2, z8_rep, List.take_replicate, Nat.min_self, List.length_replicate, hlen1, hlen2, htl, hdl, htkd, hA, ops_sync, hmot] <;> exact rfl))))
        refine w_join [(11, true, zV (k : Int)), (8, true, .ptr 4 0 0), (7, true, .ptr 2 0 0), (5, true, .ptr 0 0 0), (1, true, .snap (encL encOp ops))] ⟨100, tabG [(0, some (.cells 56 2 [[zV x, .snap (encL intRow c)]] true false)), (1, some (.cells 65 8 (encL encSec (List.replicate m zSec)) false true)), (2, some (.cells 25 2 [[.own 1 0 m, .c (.slice none 0 0)]] true false)), (4, some (.cells 25 2 [encD D2] true false))]⟩ ?_ ?_
        · by_cases h0 : ops.length = 0
          · have hk := hk0 h0
            subst hk
            repeat (first | (refine aw_seq ?_) | (apply w_region (by rfl); (next => (simp (maxSteps := 2000000) (disch := omega) only [go_sem, hb0, hm2, z8_rep, List.take_replicate, Nat.min_self, List.length_replicate, hlen1, hlen2, htl, hdl, htkd, hA, ops_sync, hmot] <;> exact rfl))) | (refine w_nil ?_) | (refine w_then ?_) | (refine aw_skip ?_) | (apply w_condF; (next => (simp (maxSteps := 2000000) (disch := omega) only [go_sem, hb0, hm2, z8_rep, List.take_replicate, Nat.min_self, List.length_replicate, hlen1, hlen2, htl, hdl, htkd, hA, ops_sync, hmot] <;> done))))
            refine joinQ_mk (by rfl) ?_
            refine holds_cons (by rfl) (holds_cons (by rfl) (holds_cons (by rfl) (holds_cons (by rfl) (holds_cons (by rfl) (holds_nil (by simp only []; omega) (sub_cons (by (first | rfl | (simp (disch := omega) only [go_sem, encD]; done) | (simp (disch := omega) only [go_sem, encD]; rfl))) (sub_cons (by (first | rfl | (simp (disch := omega) only [go_sem, encD]; done) | (simp (disch := omega) only [go_sem, encD]; rfl))) (sub_cons (by (first | rfl | (simp (disch := omega) only [go_sem, encD]; done) | (simp (disch := omega) only [go_sem, encD]; rfl))) (sub_cons (by (first | rfl | (simp (disch := omega) only [go_sem, encD]; done) | (simp (disch := omega) only [go_sem, encD]; rfl))) (sub_nil))))))))))
          · have hk := hk1 h0
            have hb := tm_lo (x := x) (n := (ops.length : Int)) (by omega)
            have h2 := dec2 (x := x) (n := (ops.length : Int)) (by omega)
            rw [hk] at h2
            repeat (first | (refine aw_seq ?_) | (apply w_region (by rfl); (next => (simp (maxSteps := 2000000) (disch := omega) only [go_sem, hb0, hm2, z8_rep, List.take_replicate, Nat.min_self, List.length_replicate, hlen1, hlen2, htl, hdl, htkd, hA, ops_sync, hmot, h2] <;> exact rfl))) | (refine w_nil ?_) | (refine w_then ?_) | (apply w_condT; (next => (simp (maxSteps := 2000000) (disch := omega) only [go_sem, hb0, hm2, z8_rep, List.take_replicate, Nat.min_self, List.length_replicate, hlen1, hlen2, htl, hdl, htkd, hA, ops_sync, hmot, h2] <;> done))))
            refine joinQ_mk (by rfl) ?_
            refine holds_cons (by rfl) (holds_cons (by rfl) (holds_cons (by rfl) (holds_cons (by rfl) (holds_cons (by rfl) (holds_nil (by simp only []; omega) (sub_cons (by (first | rfl | (simp (disch := omega) only [go_sem, encD]; done) | (simp (disch := omega) only [go_sem, encD]; rfl))) (sub_cons (by (first | rfl | (simp (disch := omega) only [go_sem, encD]; done) | (simp (disch := omega) only [go_sem, encD]; rfl))) (sub_cons (by (first | rfl | (simp (disch := omega) only [go_sem, encD]; done) | (simp (disch := omega) only [go_sem, encD]; rfl))) (sub_cons (by (first | rfl | (simp (disch := omega) only [go_sem, encD]; done) | (simp (disch := omega) only [go_sem, encD]; rfl))) (sub_nil))))))))))
        · have hdr : ∀ o ∈ ops.drop k, I64e o.at_ ∧ o.data.length ≤ 9223372036854775807 := fun o h => hod o (List.mem_of_mem_drop h)
          repeat (first | (apply w_keep (id := 11) 27 [0, 1, 2, 4, 109]; (next => (simp (maxSteps := 2000000) (disch := omega) only [go_sem, hb0, hm2, z8_rep, List.take_replicate, Nat.min_self, List.length_replicate, hlen1, hlen2, htl, hdl, htkd, hA, ops_sync, hmot] <;> exact rfl)); (next => (simp (maxSteps := 2000000) (disch := omega) only [go_sem, hb0, hm2, z8_rep, List.take_replicate, Nat.min_self, List.length_replicate, hlen1, hlen2, htl, hdl, htkd, hA, ops_sync, hmot] <;> exact rfl))) | (apply w_keep (id := 12) 27 [0, 1, 2, 4, 109, 122]; (next => (simp (maxSteps := 2000000) (disch := omega) only [go_sem, hb0, hm2, z8_rep, List.take_replicate, Nat.min_self, List.length_replicate, hlen1, hlen2, htl, hdl, htkd, hA, ops_sync, hmot] <;> exact rfl)); (next => (simp (maxSteps := 2000000) (disch := omega) only [go_sem, hb0, hm2, z8_rep, List.take_replicate, Nat.min_self, List.length_replicate, hlen1, hlen2, htl, hdl, htkd, hA, ops_sync, hmot] <;> exact rfl))) | (apply w_keep (id := 15) 27 [0, 1, 2, 109, 122, 126]; (next => (simp (maxSteps := 2000000) (disch := omega) only [go_sem, hb0, hm2, z8_rep, List.take_replicate, Nat.min_self, List.length_replicate, hlen1, hlen2, htl, hdl, htkd, hA, ops_sync, hmot] <;> exact rfl)); (next => (simp (maxSteps := 2000000) (disch := omega) only [go_sem, hb0, hm2, z8_rep, List.take_replicate, Nat.min_self, List.length_replicate, hlen1, hlen2, htl, hdl, htkd, hA, ops_sync, hmot] <;> exact rfl))) | (apply w_keep (id := 16) 27 [0, 1, 2, 109, 122, 126, 139]; (next => (simp (maxSteps := 2000000) (disch := omega) only [go_sem, hb0, hm2, z8_rep, List.take_replicate, Nat.min_self, List.length_replicate, hlen1, hlen2, htl, hdl, htkd, hA, ops_sync, hmot] <;> exact rfl)); (next => (simp (maxSteps := 2000000) (disch := omega) only [go_sem, hb0, hm2, z8_rep, List.take_replicate, Nat.min_self, List.length_replicate, hlen1, hlen2, htl, hdl, htkd, hA, ops_sync, hmot] <;> exact rfl))) | (apply w_keep (id := 19) 27 [126, 141]; (next => (simp (maxSteps := 2000000) (disch := omega) only [go_sem, hb0, hm2, z8_rep, List.take_replicate, Nat.min_self, List.length_replicate, hlen1, hlen2, htl, hdl, htkd, hA, ops_sync, hmot] <;> exact rfl)); (next => (simp (maxSteps := 2000000) (disch := omega) only [go_sem, hb0, hm2, z8_rep, List.take_replicate, Nat.min_self, List.length_replicate, hlen1, hlen2, htl, hdl, htkd, hA, ops_sync, hmot] <;> exact rfl))) | (refine aw_seq ?_) | (apply w_region (by rfl); (next => (simp (maxSteps := 2000000) (disch := omega) only [go_sem, hb0, hm2, z8_rep, List.take_replicate, Nat.min_self, List.length_replicate, hlen1, hlen2, htl, hdl, htkd, hA, ops_sync, hmot] <;> exact rfl))) | (apply w_draw (by kernel_rfl) (by kernel_rfl) (by rfl); (case hr => (repeat (apply d_run; (next => (simp (maxSteps := 2000000) (disch := omega) only [go_sem, hb0, hm2, z8_rep, List.take_replicate, Nat.min_self, List.length_replicate, hlen1, hlen2, htl, hdl, htkd, hA, ops_sync, hmot] <;> exact rfl)); first | exact d_nil | (apply d_callX (f := .func 20) (hop := rfl) (hg := rfl) (hp := c2); (next => (simp (maxSteps := 2000000) (disch := omega) only [go_sem, hb0, hm2, z8_rep, List.take_replicate, Nat.min_self, List.length_replicate, hlen1, hlen2, htl, hdl, htkd, hA, ops_sync, hmot] <;> exact rfl)); (next => (simp (maxSteps := 2000000) (disch := omega) only [go_sem, hb0, hm2, z8_rep, List.take_replicate, Nat.min_self, List.length_replicate, hlen1, hlen2, htl, hdl, htkd, hA, ops_sync, hmot] <;> exact rfl)); (next => (simp [noId_c, noId_agg, noId_snap, noId_tup,encD,sec_noIdE,encL_noId,encL_noIdE,encCa,encOp,encExt]; done)); (next => (simp (maxSteps := 2000000) (disch := omega) only [go_sem, hb0, hm2, z8_rep, List.take_replicate, Nat.min_self, List.length_replicate, hlen1, hlen2, htl, hdl, htkd, hA, ops_sync, hmot] <;> exact rfl)); (next => (simp (maxSteps := 2000000) (disch := omega) only [go_sem, hb0, hm2, z8_rep, List.take_replicate, Nat.min_self, List.length_replicate, hlen1, hlen2, htl, hdl, htkd, hA, ops_sync, hmot] <;> exact rfl))) | (apply d_callP (f := .func 20) (hop := rfl) (hg := rfl) (hp := c3); (next => (simp (maxSteps := 2000000) (disch := omega) only [go_sem, hb0, hm2, z8_rep, List.take_replicate, Nat.min_self, List.length_replicate, hlen1, hlen2, htl, hdl, htkd, hA, ops_sync, hmot] <;> exact rfl)); (next => (simp [noId_c, noId_agg, noId_snap, noId_tup,encD,sec_noIdE,encL_noId,encL_noIdE,encCa,encOp,encExt]; done))) | (apply d_callP (f := .func 29) (hop := rfl) (hg := rfl) (hp := opsync_p); (next => (simp (maxSteps := 2000000) (disch := omega) only [go_sem, hb0, hm2, z8_rep, List.take_replicate, Nat.min_self, List.length_replicate, hlen1, hlen2, htl, hdl, htkd, hA, ops_sync, hmot] <;> exact rfl)); (next => (simp [noId_c, noId_agg, noId_snap, noId_tup,encD,sec_noIdE,encL_noId,encL_noIdE,encCa,encOp,encExt]; done)))))); (case hdyn => (simp (maxSteps := 2000000) (disch := omega) only [go_sem, nbeq_F, nbeq_T, hb0, hm2, z8_rep, List.take_replicate, Nat.min_self, List.length_replicate, hlen1, hlen2, htl, hdl, htkd, hA, ops_sync, hmot] <;> kernel_rfl))) | (refine w_nil ?_) | (refine w_then ?_) | (refine aw_skip ?_) | (refine aw_block ?_) | (apply w_condF; (next => (simp (maxSteps := 2000000) (disch := omega) only [go_sem, hb0, hm2, z8_rep, List.take_replicate, Nat.min_self, List.length_replicate, hlen1, hlen2, htl, hdl, htkd, hA, ops_sync, hmot] <;> done))) | (apply w_callXG (f := .func 18) (hop := rfl) (hg := rfl) (hp := c4); (next => (simp (maxSteps := 2000000) (disch := omega) only [go_sem, hb0, hm2, z8_rep, List.take_replicate, Nat.min_self, List.length_replicate, hlen1, hlen2, htl, hdl, htkd, hA, ops_sync, hmot] <;> done)); (next => (simp (maxSteps := 2000000) (disch := omega) only [go_sem, hb0, hm2, z8_rep, List.take_replicate, Nat.min_self, List.length_replicate, hlen1, hlen2, htl, hdl, htkd, hA, ops_sync, hmot] <;> exact rfl)); (next => (simp (maxSteps := 2000000) (disch := omega) only [go_sem, hb0, hm2, z8_rep, List.take_replicate, Nat.min_self, List.length_replicate, hlen1, hlen2, htl, hdl, htkd, hA, ops_sync, hmot] <;> exact rfl)); (next => (simp [noId_c, noId_agg, noId_snap, noId_tup,encD,sec_noIdE,encL_noId,encL_noIdE,encCa,encOp,encExt]; done)); (next => (simp (maxSteps := 2000000) (disch := omega) only [go_sem, hb0, hm2, z8_rep, List.take_replicate, Nat.min_self, List.length_replicate, hlen1, hlen2, htl, hdl, htkd, hA, ops_sync, hmot] <;> exact rfl)); (next => (simp (maxSteps := 2000000) (disch := omega) only [go_sem, hb0, hm2, z8_rep, List.take_replicate, Nat.min_self, List.length_replicate, hlen1, hlen2, htl, hdl, htkd, hA, ops_sync, hmot] <;> exact rfl))) | (apply w_callP (f := .func 28) (hop := rfl) (hg := rfl) (hp := c5); (next => (simp (maxSteps := 2000000) (disch := omega) only [go_sem, hb0, hm2, z8_rep, List.take_replicate, Nat.min_self, List.length_replicate, hlen1, hlen2, htl, hdl, htkd, hA, ops_sync, hmot] <;> exact rfl)); (next => (simp [noId_c, noId_agg, noId_snap, noId_tup,encD,sec_noIdE,encL_noId,encL_noIdE,encCa,encOp,encExt]; done)); (next => (simp (maxSteps := 2000000) (disch := omega) only [go_sem, hb0, hm2, z8_rep, List.take_replicate, Nat.min_self, List.length_replicate, hlen1, hlen2, htl, hdl, htkd, hA, ops_sync, hmot] <;> exact rfl))) | (apply w_callX (f := .func 25) (hop := rfl) (hg := rfl) (hp := c6); (next => (simp (maxSteps := 2000000) (disch := omega) only [go_sem, hb0, hm2, z8_rep, List.take_replicate, Nat.min_self, List.length_replicate, hlen1, hlen2, htl, hdl, htkd, hA, ops_sync, hmot] <;> exact rfl)); (next => (simp (maxSteps := 2000000) (disch := omega) only [go_sem, hb0, hm2, z8_rep, List.take_replicate, Nat.min_self, List.length_replicate, hlen1, hlen2, htl, hdl, htkd, hA, ops_sync, hmot] <;> exact rfl)); (next => (simp [noId_c, noId_agg, noId_snap, noId_tup,encD,sec_noIdE,encL_noId,encL_noIdE,encCa,encOp,encExt]; done)); (next => (simp (maxSteps := 2000000) (disch := omega) only [go_sem, hb0, hm2, z8_rep, List.take_replicate, Nat.min_self, List.length_replicate, hlen1, hlen2, htl, hdl, htkd, hA, ops_sync, hmot] <;> exact rfl)); (next => (simp (maxSteps := 2000000) (disch := omega) only [go_sem, hb0, hm2, z8_rep, List.take_replicate, Nat.min_self, List.length_replicate, hlen1, hlen2, htl, hdl, htkd, hA, ops_sync, hmot] <;> exact rfl))))
          have hdl' : ops.length - k = (ops.drop k).length := hdl.symm
          generalize ops.drop k = dr at hdr hkeep hdl'
          have hdrl : dr.length ≤ 60 := by omega
          refine w_loop (HeadWa dr SY Y) dr.length ?_ ?_
          · refine ⟨_, _, ⟨0, _, 142, none, 1000, by omega, by omega, Evv.nil0, by omega, by omega, rfl, rfl⟩, ?_⟩
            rw [← hdl']
            refine holds_cons (by rfl) (holds_cons (by rfl) (holds_cons (by rfl) (holds_cons (by rfl) (holds_cons (by rfl) (holds_cons (by rfl) (holds_nil (by simp only []; omega) (sub_none (sub_cons (by (first | rfl | (simp (disch := omega) only [go_sem, encD]; done) | (simp (disch := omega) only [go_sem, encD]; rfl))) (sub_cons (by (first | rfl | (simp (disch := omega) only [go_sem, encD]; done) | (simp (disch := omega) only [go_sem, encD]; rfl))) (sub_nil))))))))))
          · rintro n' env H ⟨j, wv, mw, mb, N, rfl, hj, hwv, hmN, hm2, rfl, rfl⟩
            by_cases hjl : j < dr.length
            · by_cases hkd : (dr.getD j default).kind = 0
              · have hxh := exts_hit hjl hkd
                have hxl := exts_len (dr.take j)
                have hxl2 : (dr.take j).length ≤ 60 := by simp; omega
                have hdd := hdr _ (getD_mem' (default : Opr) hjl)
                rcases hwv with ⟨w, rfl, rfl⟩ | ⟨rfl, rfl, hnil⟩
                · repeat (first | (refine aw_seq ?_) | (apply w_region (by rfl); (next => (simp (maxSteps := 2000000) (disch := omega) only [go_sem, (encL_get (f := encOp) default), hkd, ext_snocE] <;> exact rfl))) | (refine w_nil ?_) | (refine w_then ?_) | (refine w_blockN ?_) | (refine aw_skip ?_) | (refine aw_block ?_) | (apply w_condT; (next => (simp (maxSteps := 2000000) (disch := omega) only [go_sem, (encL_get (f := encOp) default), hkd, ext_snocE] <;> done))))
                  refine ⟨dr.length - (j + 1), by omega, _, _, ⟨j + 1, .own (N + 1 + 1 + 1) 0 ((extsOf (dr.take j)).length + 1), N + 1 + 1 + 1, _, N + 1000, rfl, by omega, (by rw [hxh]; exact Evv.mk (w := w) (by simp)), by omega, by omega, rfl, rfl⟩, ?_⟩
                  refine holds_cons (by rfl) (holds_cons (by rfl) (holds_cons (by rfl) (holds_cons (by rfl) (holds_cons (by rfl) (holds_cons (by rfl) (holds_nil (by simp only []; omega) (sub_cons (by (first | rfl | (simp (disch := omega) only [go_sem, encD]; done) | (simp (disch := omega) only [go_sem, encD]; rfl))) (sub_cons (by (first | rfl | (simp (disch := omega) only [go_sem, encD]; done) | (simp (disch := omega) only [go_sem, encD]; rfl))) (sub_cons (by (first | rfl | (simp (disch := omega) only [go_sem, encD]; done) | (simp (disch := omega) only [go_sem, encD]; rfl))) (sub_nil))))))))))
                · rw [hnil] at hxh
                  repeat (first | (refine aw_seq ?_) | (apply w_region (by rfl); (next => (simp (maxSteps := 2000000) (disch := omega) only [go_sem, (encL_get (f := encOp) default), hkd] <;> exact rfl))) | (refine w_nil ?_) | (refine w_then ?_) | (refine w_blockN ?_) | (refine aw_skip ?_) | (refine aw_block ?_) | (apply w_condT; (next => (simp (maxSteps := 2000000) (disch := omega) only [go_sem, (encL_get (f := encOp) default), hkd] <;> done))))
                  refine ⟨dr.length - (j + 1), by omega, _, _, ⟨j + 1, .own (N + 1 + 1 + 1) 0 1, N + 1 + 1 + 1, _, N + 1000, rfl, by omega, (by rw [hxh]; exact Evv.mk (w := true) rfl), by omega, by omega, rfl, rfl⟩, ?_⟩
                  refine holds_cons (by rfl) (holds_cons (by rfl) (holds_cons (by rfl) (holds_cons (by rfl) (holds_cons (by rfl) (holds_cons (by rfl) (holds_nil (by simp only []; omega) (sub_cons (by (first | rfl | (simp (disch := omega) only [go_sem, encD]; done) | (simp (disch := omega) only [go_sem, encD]; rfl))) (sub_cons (by (first | rfl | (simp (disch := omega) only [go_sem, encD]; done) | (simp (disch := omega) only [go_sem, encD]; rfl))) (sub_cons (by (first | rfl | (simp (disch := omega) only [go_sem, encD]; done) | (simp (disch := omega) only [go_sem, encD]; rfl))) (sub_nil))))))))))
              · have hxh := exts_skip hjl hkd
                repeat (first | (refine aw_seq ?_) | (apply w_region (by rfl); (next => (simp (maxSteps := 2000000) (disch := omega) only [go_sem, (encL_get (f := encOp) default)] <;> exact rfl))) | (refine w_nil ?_) | (refine w_then ?_) | (refine w_blockN ?_) | (refine aw_skip ?_) | (refine aw_block ?_) | (apply w_condT; (next => (simp (maxSteps := 2000000) (disch := omega) only [go_sem, (encL_get (f := encOp) default)] <;> done))) | (apply w_condF; (next => (simp (maxSteps := 2000000) (disch := omega) only [go_sem, (encL_get (f := encOp) default)] <;> done))))
                refine ⟨dr.length - (j + 1), by omega, _, _, ⟨j + 1, wv, mw, mb, N + 1000, rfl, by omega, (by rw [hxh]; exact hwv), by omega, by omega, rfl, rfl⟩, ?_⟩
                refine holds_cons (by rfl) (holds_cons (by rfl) (holds_cons (by rfl) (holds_cons (by rfl) (holds_cons (by rfl) (holds_cons (by rfl) (holds_nil (by simp only []; omega) (sub_cons (by (first | rfl | (simp (disch := omega) only [go_sem, encD]; done) | (simp (disch := omega) only [go_sem, encD]; rfl))) (sub_cons (by (first | rfl | (simp (disch := omega) only [go_sem, encD]; done) | (simp (disch := omega) only [go_sem, encD]; rfl))) (sub_cons (by (first | rfl | (simp (disch := omega) only [go_sem, encD]; done) | (simp (disch := omega) only [go_sem, encD]; rfl))) (sub_nil))))))))))
            · obtain rfl : j = dr.length := by omega
              rw [List.take_length] at hwv
              have hxr := exts_rng hdr
              have hxl := exts_len dr
              have hxm := fun i => exts_miss (l := dr) (i := i)
              generalize extsOf dr = wl at hwv hxr hxl hxm
              repeat (first | (refine aw_seq ?_) | (apply w_region (by rfl); (next => (simp (maxSteps := 2000000) (disch := omega) only [go_sem, hlen2] <;> exact rfl))) | (refine w_nil ?_) | (refine w_then ?_) | (refine w_thenE ?_) | (refine w_blockE ?_) | (refine aw_exit ?_) | (refine aw_block ?_) | (apply w_condF; (next => (simp (maxSteps := 2000000) (disch := omega) only [go_sem, hlen2] <;> done))))
              refine w_loop (HeadWb m wl SY Y) m ?_ ?_
              · refine ⟨_, _, ⟨0, wv, mw, mb, N, by omega, by omega, hwv, hmN, hm2, rfl, rfl⟩, ?_⟩
                refine holds_cons (by rfl) (holds_cons (by rfl) (holds_cons (by rfl) (holds_cons (by rfl) (holds_cons (by rfl) (holds_nil (by simp only []; omega) (sub_cons (by (first | rfl | (simp (disch := omega) only [go_sem, encD]; done) | (simp (disch := omega) only [go_sem, encD]; rfl))) (sub_cons (by (first | rfl | (simp (disch := omega) only [go_sem, encD]; done) | (simp (disch := omega) only [go_sem, encD]; rfl))) (sub_cons (by (first | rfl | (simp (disch := omega) only [go_sem, encD]; done) | (simp (disch := omega) only [go_sem, encD]; rfl))) (sub_nil)))))))))
              · rintro n' env H ⟨i, wv, mw, mb, N, rfl, hi, hwv, hmN, hm2, rfl, rfl⟩
                by_cases hil : i < m
                · have c7 := contains_p wl i hxr (by omega)
                  have hck := hxm i
                  have hkp := hkeep i
                  cases hcb : wl.any (inE i)
                  · rw [hcb] at c7
                    have hkp2 := hkp (hck hcb)
                    rcases hwv with ⟨w, rfl, rfl⟩ | ⟨rfl, rfl, hnil⟩
                    · repeat (first | (refine aw_seq ?_) | (apply w_region (by rfl); (next => (simp (maxSteps := 2000000) (disch := omega) only [go_sem, (encL_get (f := encSec) zSec), hlen1, hlen2, hkp2, List.take_length, List.drop_zero] <;> exact rfl))) | (apply w_draw (by kernel_rfl) (by kernel_rfl) (by rfl); (case hr => (repeat (apply d_run; (next => (simp (maxSteps := 2000000) (disch := omega) only [go_sem, (encL_get (f := encSec) zSec), hlen1, hlen2, hkp2, List.take_length, List.drop_zero] <;> exact rfl)); first | exact d_nil | (apply d_callX (f := .func 30) (hop := rfl) (hg := rfl) (hp := c7); (next => (simp (maxSteps := 2000000) (disch := omega) only [go_sem, (encL_get (f := encSec) zSec), hlen1, hlen2, hkp2, List.take_length, List.drop_zero] <;> exact rfl)); (next => (simp (maxSteps := 2000000) (disch := omega) only [go_sem, (encL_get (f := encSec) zSec), hlen1, hlen2, hkp2, List.take_length, List.drop_zero] <;> exact rfl)); (next => (simp [noId_c, noId_agg, noId_snap, noId_tup,encD,sec_noIdE,encL_noId,encL_noIdE,encCa,encOp,encExt]; done)); (next => (simp (maxSteps := 2000000) (disch := omega) only [go_sem, (encL_get (f := encSec) zSec), hlen1, hlen2, hkp2, List.take_length, List.drop_zero] <;> exact rfl)); (next => (simp (maxSteps := 2000000) (disch := omega) only [go_sem, (encL_get (f := encSec) zSec), hlen1, hlen2, hkp2, List.take_length, List.drop_zero] <;> exact rfl)))))); (case hdyn => (simp (maxSteps := 2000000) (disch := omega) only [go_sem, nbeq_F, nbeq_T, (encL_get (f := encSec) zSec), hlen1, hlen2, hkp2, List.take_length, List.drop_zero] <;> kernel_rfl))) | (refine w_nil ?_) | (refine w_then ?_) | (refine w_blockN ?_) | (refine aw_skip ?_) | (refine aw_block ?_) | (apply w_condT; (next => (simp (maxSteps := 2000000) (disch := omega) only [go_sem, (encL_get (f := encSec) zSec), hlen1, hlen2, hkp2, List.take_length, List.drop_zero] <;> done))) | (apply w_condF; (next => (simp (maxSteps := 2000000) (disch := omega) only [go_sem, (encL_get (f := encSec) zSec), hlen1, hlen2, hkp2, List.take_length, List.drop_zero] <;> done))))
                      refine ⟨m - (i + 1), by omega, _, _, ⟨i + 1, .own mw 0 wl.length, mw, _, N + 1000, rfl, by omega, Evv.mk (w := false) rfl, by omega, by omega, rfl, rfl⟩, ?_⟩
                      refine holds_cons (by rfl) (holds_cons (by rfl) (holds_cons (by rfl) (holds_cons (by rfl) (holds_cons (by rfl) (holds_nil (by simp only []; omega) (sub_cons (by (first | rfl | (simp (disch := omega) only [go_sem, encD]; done) | (simp (disch := omega) only [go_sem, encD]; rfl))) (sub_cons (by (first | rfl | (simp (disch := omega) only [go_sem, encD]; done) | (simp (disch := omega) only [go_sem, encD]; rfl))) (sub_cons (by (first | rfl | (simp (disch := omega) only [go_sem, encD]; done) | (simp (disch := omega) only [go_sem, encD]; rfl))) (sub_nil)))))))))
                    · subst hnil
                      have c8 : PCall Try.prog 30 [.c (.slice none 0 0), zV (i : Int)] (· = bV false) := c7.less (wks_cons .nil (wks_refl _))
                      repeat (first | (refine aw_seq ?_) | (apply w_region (by rfl); (next => (simp (maxSteps := 2000000) (disch := omega) only [go_sem, (encL_get (f := encSec) zSec), hlen1, hlen2, hkp2] <;> exact rfl))) | (apply w_draw (by kernel_rfl) (by kernel_rfl) (by rfl); (case hr => (repeat (apply d_run; (next => (simp (maxSteps := 2000000) (disch := omega) only [go_sem, (encL_get (f := encSec) zSec), hlen1, hlen2, hkp2] <;> exact rfl)); first | exact d_nil | (apply d_callP (f := .func 30) (hop := rfl) (hg := rfl) (hp := c8); (next => (simp (maxSteps := 2000000) (disch := omega) only [go_sem, (encL_get (f := encSec) zSec), hlen1, hlen2, hkp2] <;> exact rfl)); (next => (simp [noId_c, noId_agg, noId_snap, noId_tup,encD,sec_noIdE,encL_noId,encL_noIdE,encCa,encOp,encExt]; done)))))); (case hdyn => (simp (maxSteps := 2000000) (disch := omega) only [go_sem, nbeq_F, nbeq_T, (encL_get (f := encSec) zSec), hlen1, hlen2, hkp2] <;> kernel_rfl))) | (refine w_nil ?_) | (refine w_then ?_) | (refine w_blockN ?_) | (refine aw_skip ?_) | (refine aw_block ?_) | (apply w_condT; (next => (simp (maxSteps := 2000000) (disch := omega) only [go_sem, (encL_get (f := encSec) zSec), hlen1, hlen2, hkp2] <;> done))) | (apply w_condF; (next => (simp (maxSteps := 2000000) (disch := omega) only [go_sem, (encL_get (f := encSec) zSec), hlen1, hlen2, hkp2] <;> done))))
                      refine ⟨m - (i + 1), by omega, _, _, ⟨i + 1, _, mw, none, N + 1000, rfl, by omega, Evv.nil0, by omega, by omega, rfl, rfl⟩, ?_⟩
                      refine holds_cons (by rfl) (holds_cons (by rfl) (holds_cons (by rfl) (holds_cons (by rfl) (holds_cons (by rfl) (holds_nil (by simp only []; omega) (sub_none (sub_cons (by (first | rfl | (simp (disch := omega) only [go_sem, encD]; done) | (simp (disch := omega) only [go_sem, encD]; rfl))) (sub_cons (by (first | rfl | (simp (disch := omega) only [go_sem, encD]; done) | (simp (disch := omega) only [go_sem, encD]; rfl))) (sub_nil)))))))))
                  · rw [hcb] at c7
                    rcases hwv with ⟨w, rfl, rfl⟩ | ⟨rfl, rfl, hnil⟩
                    · repeat (first | (refine aw_seq ?_) | (apply w_region (by rfl); (next => (simp (maxSteps := 2000000) (disch := omega) only [go_sem, (encL_get (f := encSec) zSec), hlen1, hlen2, List.take_length, List.drop_zero] <;> exact rfl))) | (apply w_draw (by kernel_rfl) (by kernel_rfl) (by rfl); (case hr => (repeat (apply d_run; (next => (simp (maxSteps := 2000000) (disch := omega) only [go_sem, (encL_get (f := encSec) zSec), hlen1, hlen2, List.take_length, List.drop_zero] <;> exact rfl)); first | exact d_nil | (apply d_callX (f := .func 30) (hop := rfl) (hg := rfl) (hp := c7); (next => (simp (maxSteps := 2000000) (disch := omega) only [go_sem, (encL_get (f := encSec) zSec), hlen1, hlen2, List.take_length, List.drop_zero] <;> exact rfl)); (next => (simp (maxSteps := 2000000) (disch := omega) only [go_sem, (encL_get (f := encSec) zSec), hlen1, hlen2, List.take_length, List.drop_zero] <;> exact rfl)); (next => (simp [noId_c, noId_agg, noId_snap, noId_tup,encD,sec_noIdE,encL_noId,encL_noIdE,encCa,encOp,encExt]; done)); (next => (simp (maxSteps := 2000000) (disch := omega) only [go_sem, (encL_get (f := encSec) zSec), hlen1, hlen2, List.take_length, List.drop_zero] <;> exact rfl)); (next => (simp (maxSteps := 2000000) (disch := omega) only [go_sem, (encL_get (f := encSec) zSec), hlen1, hlen2, List.take_length, List.drop_zero] <;> exact rfl)))))); (case hdyn => (simp (maxSteps := 2000000) (disch := omega) only [go_sem, nbeq_F, nbeq_T, (encL_get (f := encSec) zSec), hlen1, hlen2, List.take_length, List.drop_zero] <;> kernel_rfl))) | (refine w_nil ?_) | (refine w_then ?_) | (refine w_blockN ?_) | (refine aw_skip ?_) | (refine aw_block ?_) | (apply w_condT; (next => (simp (maxSteps := 2000000) (disch := omega) only [go_sem, (encL_get (f := encSec) zSec), hlen1, hlen2, List.take_length, List.drop_zero] <;> done))) | (apply w_condF; (next => (simp (maxSteps := 2000000) (disch := omega) only [go_sem, (encL_get (f := encSec) zSec), hlen1, hlen2, List.take_length, List.drop_zero] <;> done))))
                      refine ⟨m - (i + 1), by omega, _, _, ⟨i + 1, .own mw 0 wl.length, mw, _, N + 1000, rfl, by omega, Evv.mk (w := false) rfl, by omega, by omega, rfl, rfl⟩, ?_⟩
                      refine holds_cons (by rfl) (holds_cons (by rfl) (holds_cons (by rfl) (holds_cons (by rfl) (holds_cons (by rfl) (holds_nil (by simp only []; omega) (sub_cons (by (first | rfl | (simp (disch := omega) only [go_sem, encD]; done) | (simp (disch := omega) only [go_sem, encD]; rfl))) (sub_cons (by (first | rfl | (simp (disch := omega) only [go_sem, encD]; done) | (simp (disch := omega) only [go_sem, encD]; rfl))) (sub_cons (by (first | rfl | (simp (disch := omega) only [go_sem, encD]; done) | (simp (disch := omega) only [go_sem, encD]; rfl))) (sub_nil)))))))))
                    · subst hnil
                      cases hcb
                · obtain rfl : i = m := by omega
                  repeat (first | (refine aw_seq ?_) | (apply w_region (by rfl); (next => (simp (maxSteps := 2000000) (disch := omega) only [go_sem] <;> exact rfl))) | (refine w_nil ?_) | (refine w_hold2 ?_) | (refine w_then ?_) | (refine w_thenE ?_) | (refine w_blockE ?_) | (refine aw_ret ?_) | (refine aw_exit ?_) | (apply w_end; (next => (simp (maxSteps := 2000000) (disch := omega) only [go_sem, Try.f7] <;> exact rfl))) | (apply w_condF; (next => (simp (maxSteps := 2000000) (disch := omega) only [go_sem] <;> done))) | (apply w_callP (f := .func 13) (hop := rfl) (hg := rfl) (hp := awake_p); (next => (simp (maxSteps := 2000000) (disch := omega) only [go_sem] <;> exact rfl)); (next => (simp [noId_c, noId_agg, noId_snap, noId_tup,encD,sec_noIdE,encL_noId,encL_noIdE,encCa,encOp,encExt]; done)); (next => (simp (maxSteps := 2000000) (disch := omega) only [go_sem] <;> exact rfl))))
                  (simp (maxSteps := 2000000) (disch := omega) only [go_sem, noId_c, noId_agg, noId_tup, noId_snap, encL_noIdE, sec_noIdE, List.drop_zero, List.take_length]; (repeat (first | exact .refl _ | exact .nil | exact wks_nil | refine wks_cons ?_ ?_ | refine wk_tup ?_ | refine wk_agg ?_)))
      · have hb1 : (eA != 0) = true := bne_T he
        repeat (first | (refine aw_seq ?_) | (apply w_region (by rfl); (next => (simp (maxSteps := 2000000) (disch := omega) only [go_sem, hb0, hb1, hm2, z8_rep, List.take_replicate, Nat.min_self, List.length_replicate] <;> exact rfl))) | (refine w_nil ?_) | (refine w_hold2 ?_) | (refine w_then ?_) | (refine w_thenR ?_) | (refine aw_skip ?_) | (refine aw_ret ?_) | (apply w_end; (next => (simp (maxSteps := 2000000) (disch := omega) only [go_sem, hb0, hb1, hm2, z8_rep, List.take_replicate, Nat.min_self, List.length_replicate, Try.f7] <;> exact rfl))) | (apply w_condT; (next => (simp (maxSteps := 2000000) (disch := omega) only [go_sem, hb0, hb1, hm2, z8_rep, List.take_replicate, Nat.min_self, List.length_replicate] <;> done))) | (apply w_condF; (next => (simp (maxSteps := 2000000) (disch := omega) only [go_sem, hb0, hb1, hm2, z8_rep, List.take_replicate, Nat.min_self, List.length_replicate] <;> done))) | (apply w_callP (f := .func 12) (hop := rfl) (hg := rfl) (hp := (fewOps_p ops hol)); (next => (simp (maxSteps := 2000000) (disch := omega) only [go_sem, hb0, hb1, hm2, z8_rep, List.take_replicate, Nat.min_self, List.length_replicate] <;> exact rfl)); (next => (simp [noId_c, noId_agg, noId_snap, noId_tup,encD,sec_noIdE,encL_noId,encL_noIdE,encCa,encOp,encExt]; done)); (next => (simp (maxSteps := 2000000) (disch := omega) only [go_sem, hb0, hb1, hm2, z8_rep, List.take_replicate, Nat.min_self, List.length_replicate] <;> exact rfl))) | (apply w_callP (f := .func 13) (hop := rfl) (hg := rfl) (hp := awake_p); (next => (simp (maxSteps := 2000000) (disch := omega) only [go_sem, hb0, hb1, hm2, z8_rep, List.take_replicate, Nat.min_self, List.length_replicate] <;> exact rfl)); (next => (simp [noId_c, noId_agg, noId_snap, noId_tup,encD,sec_noIdE,encL_noId,encL_noIdE,encCa,encOp,encExt]; done)); (next => (simp (maxSteps := 2000000) (disch := omega) only [go_sem, hb0, hb1, hm2, z8_rep, List.take_replicate, Nat.min_self, List.length_replicate] <;> exact rfl))) | (apply w_callX (f := .func 20) (hop := rfl) (hg := rfl) (hp := c1); (next => (simp (maxSteps := 2000000) (disch := omega) only [go_sem, hb0, hb1, hm2, z8_rep, List.take_replicate, Nat.min_self, List.length_replicate] <;> exact rfl)); (next => (simp (maxSteps := 2000000) (disch := omega) only [go_sem, hb0, hb1, hm2, z8_rep, List.take_replicate, Nat.min_self, List.length_replicate] <;> exact rfl)); (next => (simp [noId_c, noId_agg, noId_snap, noId_tup,encD,sec_noIdE,encL_noId,encL_noIdE,encCa,encOp,encExt]; done)); (next => (simp (maxSteps := 2000000) (disch := omega) only [go_sem, hb0, hb1, hm2, z8_rep, List.take_replicate, Nat.min_self, List.length_replicate] <;> exact rfl)); (next => (simp (maxSteps := 2000000) (disch := omega) only [go_sem, hb0, hb1, hm2, z8_rep, List.take_replicate, Nat.min_self, List.length_replicate] <;> exact rfl))))
        (simp (maxSteps := 2000000) (disch := omega) only [go_sem, noId_c, noId_agg, noId_tup, noId_snap, encL_noIdE, sec_noIdE, List.drop_zero, List.take_length]; (repeat (first | exact .refl _ | exact .nil | exact wks_nil | refine wks_cons ?_ ?_ | refine wk_tup ?_ | refine wk_agg ?_)))
    · repeat (first | (refine aw_seq ?_) | (apply w_region (by rfl); (next => (simp (maxSteps := 2000000) (disch := omega) only [go_sem, hb0] <;> exact rfl))) | (refine w_nil ?_) | (refine w_hold2 ?_) | (refine w_then ?_) | (refine w_thenR ?_) | (refine aw_ret ?_) | (apply w_end; (next => (simp (maxSteps := 2000000) (disch := omega) only [go_sem, hb0, Try.f7] <;> exact rfl))) | (apply w_condT; (next => (simp (maxSteps := 2000000) (disch := omega) only [go_sem, hb0] <;> done))) | (apply w_callP (hop := rfl) (hg := rfl) (hp := (fewOps_p ops hol)); (next => (simp (maxSteps := 2000000) (disch := omega) only [go_sem, hb0] <;> exact rfl)); (next => (simp [noId_c, noId_agg, noId_snap, noId_tup,encD,sec_noIdE,encL_noId,encL_noIdE,encCa,encOp,encExt]; done)); (next => (simp (maxSteps := 2000000) (disch := omega) only [go_sem, hb0] <;> exact rfl))) | (apply w_callP (hop := rfl) (hg := rfl) (hp := awake_p); (next => (simp (maxSteps := 2000000) (disch := omega) only [go_sem, hb0] <;> exact rfl)); (next => (simp [noId_c, noId_agg, noId_snap, noId_tup,encD,sec_noIdE,encL_noId,encL_noIdE,encCa,encOp,encExt]; done)); (next => (simp (maxSteps := 2000000) (disch := omega) only [go_sem, hb0] <;> exact rfl))))
      (simp (maxSteps := 2000000) (disch := omega) only [go_sem, noId_c, noId_agg, noId_tup, noId_snap, encL_noIdE, sec_noIdE, List.drop_zero, List.take_length]; (repeat (first | exact .refl _ | exact .nil | exact wks_nil | refine wks_cons ?_ ?_ | refine wk_tup ?_ | refine wk_agg ?_)))

end Go.Proofs.Ytniccdnhjbnaeaa

/- Numbers as arguments. -/
namespace Go.Proofs.Ytniccdnhjbnaeaa
open Go.Proofs Go.AL
open Go.ChangeShapes Go.WideShapes Go.RowKit
set_option linter.unusedVariables false
set_option linter.unusedSimpArgs false
theorem open_u8 {a : AV} (h : CfS (.int .u8) a) : ∃ n : Nat, n < 256 ∧ a = .c (.int .u8 (n : Int)) := by
  obtain ⟨n, rfl, hw⟩ := h.unint
  have hb : 0 ≤ n ∧ n ≤ 255 := Go.bounds_u8 hw
  exact ⟨n.toNat, by omega, by rw [show ((n.toNat : Nat) : Int) = n by omega]⟩
theorem open_u16 {a : AV} (h : CfS (.int .u16) a) : ∃ n : Nat, n < 65536 ∧ a = .c (.int .u16 (n : Int)) := by
  obtain ⟨n, rfl, hw⟩ := h.unint
  have hb : 0 ≤ n ∧ n ≤ 65535 := Go.bounds_u16 hw
  exact ⟨n.toNat, by omega, by rw [show ((n.toNat : Nat) : Int) = n by omega]⟩
theorem open_i64 {a : AV} (h : CfS (.int .i64) a) : ∃ n : Int, I64r n ∧ a = .c (.int .i64 n) := by
  obtain ⟨n, rfl, hw⟩ := h.unint
  exact ⟨n, i64_of hw, rfl⟩
end Go.Proofs.Ytniccdnhjbnaeaa

/- Each version of a sector survives for some choices. Plain. -/
namespace Go.Proofs.Ytniccdnhjbnaeaa
open Go.Proofs Go.AL
set_option linter.unusedVariables false
set_option linter.unusedSimpArgs false

theorem crash_allz (ca : List (Int × Sec)) (st : List Sec) {c : List Int} (hc : ∀ x ∈ c, x = 0) : ∀ k, (crashTo ca st c k).1 = st ∧ ∀ x ∈ (crashTo ca st c k).2, x = 0
  | 0 => ⟨rfl, hc⟩
  | k + 1 => by
    obtain ⟨h1, h2⟩ := crash_allz ca st hc k
    rw [crashTo_succ]
    unfold crashStep
    split
    · exact ⟨h1, h2⟩
    · have hd : (decN (crashTo ca st c k).2 ((versS ca k).length + 1)).1 = 0 ∧ ∀ x ∈ (decN (crashTo ca st c k).2 ((versS ca k).length + 1)).2, x = 0 := by
        unfold decN
        split
        · exact ⟨rfl, fun x hx => by cases hx⟩
        · rename_i hl
          refine ⟨?_, fun x hx => h2 x (List.mem_of_mem_drop hx)⟩
          have : (crashTo ca st c k).2.getD 0 0 = 0 := h2 _ (getD_mem' 0 (by omega))
          simp only [this, Int.zero_emod]
      exact ⟨by rw [hd.1]; simp [h1], hd.2⟩
/-- How many sectors below k have versions. -/
def cntV (ca : List (Int × Sec)) : Nat → Nat
  | 0 => 0
  | k + 1 => cntV ca k + if (versS ca k).length = 0 then 0 else 1
theorem crash_zeros (ca : List (Int × Sec)) (st : List Sec) (v : Int) : ∀ k p, crashTo ca st (List.replicate (cntV ca k + p) 0 ++ [v]) k = (st, List.replicate p 0 ++ [v])
  | 0, p => by simp [crashTo, cntV]
  | k + 1, p => by
    rw [crashTo_succ]
    by_cases h : (versS ca k).length = 0
    · have := crash_zeros ca st v k p
      simp only [cntV, if_pos h, Nat.add_zero]
      rw [this]
      unfold crashStep
      rw [if_pos h]
    · have := crash_zeros ca st v k (p + 1)
      simp only [cntV, if_neg h]
      rw [show cntV ca k + 1 + p = cntV ca k + (p + 1) by omega, this]
      unfold crashStep
      rw [if_neg h]
      have hd : decN (List.replicate (p + 1) 0 ++ [v]) ((versS ca k).length + 1) = (0, List.replicate p 0 ++ [v]) := by
        unfold decN
        rw [if_neg (by simp), List.replicate_succ]
        simp
      simp only [hd]
      simp
theorem crash_later (ca : List (Int × Sec)) (st : List Sec) (c : List Int) (q : Nat) : ∀ j, (crashTo ca st c (q + 1 + j)).1.getD q zSec = (crashTo ca st c (q + 1)).1.getD q zSec
  | 0 => rfl
  | j + 1 => by
    rw [show q + 1 + (j + 1) = (q + 1 + j) + 1 by omega, crashTo_succ, crashStep_other _ _ (show q + 1 + j ≠ q by omega)]
    exact crash_later ca st c q j
theorem vers_prefix (ca : List (Int × Sec)) (q : Int) (j : Nat) : versS ca q = versS (ca.take j) q ++ versS (ca.drop j) q := by
  unfold versS
  rw [← List.map_append, ← List.filter_append, List.take_append_drop]
/-- The choice of a version. -/
theorem chooses {d : Dsk} {i : Nat} (hd : checkD d = 0) (hi : i < d.ca.length) :
    (crashS d (List.replicate (cntV d.ca (d.ca.getD i zCa).1.toNat) 0 ++ [((versS (d.ca.take (i + 1)) (d.ca.getD i zCa).1).length : Int)])).1.st.getD (d.ca.getD i zCa).1.toNat zSec = (d.ca.getD i zCa).2 := by
  have hin := inAll_at (inAll_of hd).1 hi
  have hq : (((d.ca.getD i zCa).1.toNat : Nat) : Int) = (d.ca.getD i zCa).1 := by omega
  have hv := vers_hit (i := (d.ca.getD i zCa).1) hi rfl
  have hp := vers_prefix d.ca (d.ca.getD i zCa).1 (i + 1)
  generalize (d.ca.getD i zCa).2 = s at hv ⊢
  generalize (d.ca.getD i zCa).1 = a at *
  rw [← hv] at hp
  rw [← hv]
  have hS : ∀ c, crashS d c = (⟨(crashTo d.ca d.st c d.st.length).1, []⟩, (crashTo d.ca d.st c d.st.length).2) := fun c => if_pos hd
  rw [hS]
  obtain ⟨q, rfl⟩ : ∃ q : Nat, a = (q : Int) := ⟨a.toNat, hq.symm⟩
  simp only [Int.toNat_natCast]
  obtain ⟨j, hj⟩ : ∃ j, d.st.length = q + 1 + j := ⟨d.st.length - q - 1, by omega⟩
  have hz := crash_zeros d.ca d.st (((versS (d.ca.take i) (q : Int) ++ [s]).length : Nat) : Int) q 0
  rw [Nat.add_zero] at hz
  show (crashTo d.ca d.st _ d.st.length).1.getD q zSec = s
  rw [hj, crash_later, crashTo_succ, hz]
  unfold crashStep
  rw [if_neg (by rw [hp]; simp)]
  have hd2 : decN (List.replicate 0 0 ++ [(((versS (d.ca.take i) (q : Int) ++ [s]).length : Nat) : Int)]) ((versS d.ca q).length + 1) = ((((versS (d.ca.take i) (q : Int) ++ [s]).length : Nat) : Int), []) := by
    unfold decN
    rw [if_neg (by simp)]
    simp only [List.replicate_zero, List.nil_append, List.drop_one, List.tail_cons]
    congr 1
    show (((versS (d.ca.take i) (q : Int) ++ [s]).length : Nat) : Int) % _ = _
    rw [hp]
    refine Int.emod_eq_of_lt (by omega) ?_
    simp only [List.length_append]
    omega
  rw [hd2]
  simp only []
  rw [if_pos (by simp)]
  have hlt : q < d.st.length := by omega
  have hw : (((((versS (d.ca.take i) (q : Int) ++ [s]).length : Nat) : Int) - 1).toNat) = (versS (d.ca.take i) (q : Int)).length := by simp
  rw [hw, hp]
  simp [List.getD_eq_getElem?_getD, hlt]
end Go.Proofs.Ytniccdnhjbnaeaa

namespace Go.Proofs.Ytniccdnhjbnaeaa
open Go.Proofs Go.AL
set_option maxRecDepth 100000
set_option maxHeartbeats 1000000
set_option linter.unusedVariables false
set_option linter.unusedSimpArgs false
attribute [local irreducible] endA AW aops thenA blockA hold
attribute [local go_sem] dec_ltT dec_ltF dec_leT dec_leF beq_T beq_F bne_T bne_F encD

theorem crash_n (d : Dsk) (c : List Int) (hne : d.st ≠ []) (hL : c.length ≤ 1000000) (hC : d.ca.length ≤ 400000) (hc : checkD d = 0) (hleft : (crashS d c).2 = []) :
    NCall Try.prog 22 [.agg (encD d), .snap (encL intRow c)] (.tup [.agg [.own 0 0 d.st.length, .c (.slice none 0 0)], .snap []]) [.cells 65 8 (encL encSec (crashS d c).1.st) true true] := by
  refine acall Try.func22 rfl (by kernel_rfl) (by simp [Try.ntmps22]) ?_
  rw [Try.ntmps22]
  have hin := (inAll_of hc).1
  have hst := (inAll_of hc).2
  have hS : crashS d c = (⟨(crashTo d.ca d.st c d.st.length).1, []⟩, (crashTo d.ca d.st c d.st.length).2) := if_pos hc
  repeat (first | (refine aw_seq ?_) | (apply w_region (by rfl); (next => (simp (maxSteps := 2000000) (disch := omega) only [go_sem, beq_self_eq_true, hc] <;> exact rfl))) | (refine w_nil ?_) | (refine w_then ?_) | (refine aw_skip ?_) | (refine aw_block ?_) | (apply w_condF; (next => (simp (maxSteps := 2000000) (disch := omega) only [go_sem, beq_self_eq_true, hc] <;> done))) | (apply w_callP (hop := rfl) (hg := rfl) (hp := (check_p d (by omega) (by omega))); (next => (simp (maxSteps := 2000000) (disch := omega) only [go_sem, beq_self_eq_true, hc] <;> exact rfl)); (next => (simp [noId_c, noId_agg, noId_snap, noId_tup,encD,sec_noIdE,encL_noId,encL_noIdE,encCa,encOp,encExt]; done)); (next => (simp (maxSteps := 2000000) (disch := omega) only [go_sem, beq_self_eq_true, hc] <;> exact rfl))))
  refine w_loop (HeadM d c) d.ca.length ?_ ?_
  · refine ⟨_, _, ⟨0, 1000, fun _ => none, [], [], fun _ => 0, by omega, by omega, by omega, MapV.start, fun _ _ => rfl, rfl, rfl⟩, ?_⟩
    rw [← tabG_B]
    refine holds_cons (by rfl) (holds_cons (by rfl) (holds_cons (by rfl) (holds_cons (by rfl) (holds_cons (by rfl) (holds_cons (by rfl) (holds_cons (by rfl) (holds_nil (by simp only []; omega) (sub_cons (by (first | rfl | (simp (disch := omega) only [go_sem, encD]; done) | (simp (disch := omega) only [go_sem, encD]; rfl))) (sub_cons (by (first | rfl | (simp (disch := omega) only [go_sem, encD]; done) | (simp (disch := omega) only [go_sem, encD]; rfl))) (sub_cons (by (first | rfl | (simp (disch := omega) only [go_sem, encD]; done) | (simp (disch := omega) only [go_sem, encD]; rfl))) (sub_nil)))))))))))
  · rintro n env H ⟨j, N, G, es, ks, idf, rfl, hj, hN, hM, hG, rfl, rfl⟩
    have hk := hM.keys
    simp only [go_sem] at hk
    by_cases hlt : j < d.ca.length
    · have htk : d.ca.take (j + 1) = d.ca.take j ++ [d.ca.getD j zCa] := by
        rw [List.take_succ_eq_append_getElem hlt]; simp [hlt]
      have hvb : (versS (d.ca.take j) (d.ca.getD j zCa).1).length ≤ 500000 := Nat.le_trans (vers_len _ _) (by simp; omega)
      by_cases hq : (d.ca.getD j zCa).1 ∈ ks
      · have hl := hM.hit hq
        obtain ⟨w, hm⟩ := hM.get _ hq
        have hr := hM.rng _ hq
        have hinj := fun q hq' (he : idf q = idf (d.ca.getD j zCa).1) => hM.inj q hq' _ hq he
        generalize idf (d.ca.getD j zCa).1 = m at hl hm hr hinj
        obtain ⟨ks', idf', hM'⟩ := hM.put (d.ca.getD j zCa) (m := N + 1 + 1 + 10) (N' := N + 1000) (w := w) (G' := tabB G [(m, none), (N + 1 + 1 + 10, some (.cells 65 8 (encL encSec (versS (d.ca.take j) (d.ca.getD j zCa).1 ++ [(d.ca.getD j zCa).2])) w true))])
          (by omega) (by omega) (by omega) (by simp only [tabB, lookB]; rw [if_neg (by omega), if_pos trivial]) (fun q hq1 hq2 => by
            have h1 := hM.rng q hq1
            have h2 : idf q ≠ m := fun e => hq2 (hinj q hq1 e)
            simp only [tabB, lookB]; rw [if_neg h2, if_neg (by omega)])
        repeat (first | (refine aw_seq ?_) | (apply w_region (by rfl); (next => (simp (maxSteps := 2000000) (disch := omega) only [go_sem, beq_self_eq_true, (encL_get (f := encCa) zCa), hl, hk, hm] <;> exact rfl))) | (apply w_draw (by kernel_rfl) (by kernel_rfl) (by rfl); (case hr => (apply d_run; (next => (simp (maxSteps := 2000000) (disch := omega) only [go_sem, beq_self_eq_true, (encL_get (f := encCa) zCa), hl, hk, hm] <;> exact rfl)); exact d_nil)); (case hdyn => (simp (maxSteps := 2000000) (disch := omega) only [go_sem, nbeq_F, nbeq_T, beq_self_eq_true, (encL_get (f := encCa) zCa), hl, hk, hm] <;> kernel_rfl))) | (refine w_nil ?_) | (refine w_then ?_) | (refine w_blockN ?_) | (refine aw_skip ?_) | (refine aw_block ?_) | (apply w_condT; (next => (simp (maxSteps := 2000000) (disch := omega) only [go_sem, beq_self_eq_true, (encL_get (f := encCa) zCa), hl, hk, hm] <;> done))))
        refine ⟨d.ca.length - (j + 1), by omega, _, _, ⟨j + 1, N + 1000, _, _, ks', idf', rfl, by omega, by omega, by rw [htk]; exact hM', tabB_free hG (by omega) (by simp only [keysLt, and_true] <;> omega), rfl, rfl⟩, ?_⟩
        rw [tabB_tabB]
        simp only [List.cons_append, List.nil_append]
        refine holds_cons (by rfl) (holds_cons (by rfl) (holds_cons (by rfl) (holds_cons (by rfl) (holds_cons (by rfl) (holds_cons (by rfl) (holds_cons (by rfl) (holds_nil (by simp only []; omega) (subB hG (sB_cons (by (first | rfl | (simp (disch := omega) only [go_sem, encD, hm]; done) | (simp (disch := omega) only [go_sem, encD, hm]; rfl))) (sB_cons (by (first | rfl | (simp (disch := omega) only [go_sem, encD, hm]; done) | (simp (disch := omega) only [go_sem, encD, hm]; rfl))) (sB_cons (by (first | rfl | (simp (disch := omega) only [go_sem, encD, hm]; done) | (simp (disch := omega) only [go_sem, encD, hm]; rfl))) (sB_none (sB_cons (by (first | rfl | (simp (disch := omega) only [go_sem, encD, hm]; done) | (simp (disch := omega) only [go_sem, encD, hm]; rfl))) (sB_nil)))))) (by simp only [keysOK, memK, or_false, false_or, or_true, true_or, and_true, true_and, Nat.le_refl] <;> omega)))))))))
      · have hl := hM.miss hq
        have h0 : versS (d.ca.take j) (d.ca.getD j zCa).1 = [] := by
          have := mt (hM.mem (d.ca.getD j zCa).1).2 hq
          simpa using this
        obtain ⟨ks', idf', hM'⟩ := hM.put (d.ca.getD j zCa) (m := N + 1 + 1 + 10) (N' := N + 1000) (w := true) (G' := tabB G [(N + 1 + 1 + 10, some (.cells 65 8 (encL encSec [(d.ca.getD j zCa).2]) true true))])
          (by omega) (by omega) (by omega) (by rw [h0]; simp only [tabB, lookB]; rw [if_pos trivial]; rfl) (fun q hq1 hq2 => by
            have h1 := hM.rng q hq1
            simp only [tabB, lookB]; rw [if_neg (by omega)])
        rw [h0] at hM'
        simp only [List.length_nil, Nat.zero_add] at hM'
        repeat (first | (refine aw_seq ?_) | (apply w_region (by rfl); (next => (simp (maxSteps := 2000000) (disch := omega) only [go_sem, beq_self_eq_true, (encL_get (f := encCa) zCa), hl, hk] <;> exact rfl))) | (apply w_draw (by kernel_rfl) (by kernel_rfl) (by rfl); (case hr => (apply d_run; (next => (simp (maxSteps := 2000000) (disch := omega) only [go_sem, beq_self_eq_true, (encL_get (f := encCa) zCa), hl, hk] <;> exact rfl)); exact d_nil)); (case hdyn => (simp (maxSteps := 2000000) (disch := omega) only [go_sem, nbeq_F, nbeq_T, beq_self_eq_true, (encL_get (f := encCa) zCa), hl, hk] <;> kernel_rfl))) | (refine w_nil ?_) | (refine w_then ?_) | (refine w_blockN ?_) | (refine aw_skip ?_) | (refine aw_block ?_) | (apply w_condT; (next => (simp (maxSteps := 2000000) (disch := omega) only [go_sem, beq_self_eq_true, (encL_get (f := encCa) zCa), hl, hk] <;> done))))
        refine ⟨d.ca.length - (j + 1), by omega, _, _, ⟨j + 1, N + 1000, _, _, ks', idf', rfl, by omega, by omega, by rw [htk]; exact hM', tabB_free hG (by omega) (by simp only [keysLt, and_true] <;> omega), rfl, rfl⟩, ?_⟩
        rw [tabB_tabB]
        simp only [List.cons_append, List.nil_append]
        refine holds_cons (by rfl) (holds_cons (by rfl) (holds_cons (by rfl) (holds_cons (by rfl) (holds_cons (by rfl) (holds_cons (by rfl) (holds_cons (by rfl) (holds_nil (by simp only []; omega) (subB hG (sB_cons (by (first | rfl | (simp (disch := omega) only [go_sem, encD]; done) | (simp (disch := omega) only [go_sem, encD]; rfl))) (sB_cons (by (first | rfl | (simp (disch := omega) only [go_sem, encD]; done) | (simp (disch := omega) only [go_sem, encD]; rfl))) (sB_cons (by (first | rfl | (simp (disch := omega) only [go_sem, encD]; done) | (simp (disch := omega) only [go_sem, encD]; rfl))) (sB_cons (by (first | rfl | (simp (disch := omega) only [go_sem, encD]; done) | (simp (disch := omega) only [go_sem, encD]; rfl))) (sB_nil))))) (by simp only [keysOK, memK, or_false, false_or, or_true, true_or, and_true, true_and, Nat.le_refl] <;> omega)))))))))
    · obtain rfl : j = d.ca.length := by omega
      rw [List.take_length] at hM
      have hfst := hM.fst
      have hesl : es.length = ks.length := by rw [hM.es]; simp
      have hkrng : ∀ q ∈ ks, 0 ≤ q ∧ q < d.st.length := fun q hq => keys_rng hin hM.nodup hM.mem hq
      have hkl : ks.length ≤ d.st.length := keys_len hin hM.nodup hM.mem
      repeat (first | (refine aw_seq ?_) | (apply w_region (by rfl); (next => (simp (maxSteps := 2000000) (disch := omega) only [go_sem, beq_self_eq_true] <;> exact rfl))) | (refine w_nil ?_) | (refine w_hold2 ?_) | (refine w_then ?_) | (refine w_thenE ?_) | (refine w_blockE ?_) | (refine aw_ret ?_) | (refine aw_exit ?_) | (apply w_endI; (next => (simp (maxSteps := 2000000) (disch := omega) only [go_sem, beq_self_eq_true, Try.f22, Try.f50] <;> exact rfl)); (next => (simp (maxSteps := 2000000) (disch := omega) only [go_sem, beq_self_eq_true] <;> exact rfl))) | (apply w_condF; (next => (simp (maxSteps := 2000000) (disch := omega) only [go_sem, beq_self_eq_true] <;> done))) | (apply w_callO (hop := rfl) (hg := rfl) (hp := (cloneS_o d.st hne (by omega))); (next => (simp (maxSteps := 2000000) (disch := omega) only [go_sem, beq_self_eq_true] <;> exact rfl)); (next => (simp (maxSteps := 2000000) (disch := omega) only [go_sem, beq_self_eq_true] <;> exact rfl))) | (apply w_callI Try.func50 rfl (by kernel_rfl) Try.ntmps50 (hop := rfl) (hg := rfl); (next => (simp (maxSteps := 2000000) (disch := omega) only [go_sem, beq_self_eq_true] <;> exact rfl)); (next => (simp; done))))
      refine w_callA (args := [.fn (.func 66) [] [.ptr (N + 3) 0 0]]) (n := 49) rfl rfl ?hc (sorted_a (bid := N + 3) (id := 2) (w := true) (a := false) (es := es) (ks := ks) ?ha ?hb hfst ?hd (by omega)) ?hrest
      case hc => (first | rfl | (simp (disch := omega) only [go_sem, encD]; done) | (simp (disch := omega) only [go_sem, encD]; rfl))
      case ha => (first | rfl | (simp (disch := omega) only [go_sem, encD]; done) | (simp (disch := omega) only [go_sem, encD]; rfl))
      case hb => (first | rfl | (simp (disch := omega) only [go_sem, encD]; done) | (simp (disch := omega) only [go_sem, encD]; rfl))
      case hd => exact fun q hq => by have := hkrng q hq; unfold InI; omega
      case hrest =>
        rintro r H' ⟨rfl, rfl⟩
        have hskl := sort_len ks
        have hskm := fun k (h : k < (ks.mergeSort leI).length) => sort_mem (ks := ks) h
        have hall := crashL_all c hin hM.nodup hM.mem
        generalize ks.mergeSort leI = sk at hskl hskm hall
        apply w_go
        (next => (simp (maxSteps := 2000000) (disch := omega) only [go_sem] <;> exact rfl))
        repeat (first | (refine w_nil ?_) | (refine w_then ?_) | (refine aw_block ?_))
        refine w_loop (HeadCr d c sk G N es) sk.length ?_ ?_
        · refine ⟨_, _, ⟨0, N + 1000, by omega, by omega, by omega, rfl, rfl⟩, ?_⟩
          refine holds_cons (by rfl) (holds_cons (by rfl) (holds_cons (by rfl) (holds_cons (by rfl) (holds_cons (by rfl) (holds_cons (by rfl) (holds_cons (by rfl) (holds_nil (by simp only []; omega) (subB hG (sB_none (sB_cons (by (first | rfl | (simp (disch := omega) only [go_sem, encD]; done) | (simp (disch := omega) only [go_sem, encD]; rfl))) (sB_cons (by (first | rfl | (simp (disch := omega) only [go_sem, encD]; done) | (simp (disch := omega) only [go_sem, encD]; rfl))) (sB_cons (by (first | rfl | (simp (disch := omega) only [go_sem, encD]; done) | (simp (disch := omega) only [go_sem, encD]; rfl))) (sB_cons (by (first | rfl | (simp (disch := omega) only [go_sem, encD]; done) | (simp (disch := omega) only [go_sem, encD]; rfl))) (sB_nil)))))) (by simp only [keysOK, memK, or_false, false_or, or_true, true_or, and_true, true_and, Nat.le_refl] <;> omega)))))))))
        · rintro n env H ⟨k, N2, rfl, hk2, hN2, rfl, rfl⟩
          have hlen := crashL_len d.ca d.st c sk k hk2
          have hch := crashL_ch d.ca d.st c sk k hk2
          by_cases hlt : k < sk.length
          · have hq := hskm k hlt
            have hqr := hkrng _ hq
            have hl := hM.hit hq
            obtain ⟨w, hm⟩ := hM.get _ hq
            have hr := hM.rng _ hq
            have hvn := (hM.mem _).1 hq
            have hvb := vers_len d.ca (sk.getD k 0)
            have hsu := crashL_succ (ca := d.ca) (st := d.st) (c := c) hlt
            have hqn : (((sk.getD k 0).toNat : Nat) : Int) = sk.getD k 0 := by omega
            unfold crashStep at hsu
            rw [hqn] at hsu
            have hv0 : ¬ (versS d.ca (sk.getD k 0)).length = 0 := fun h => hvn (List.eq_nil_of_length_eq_zero h)
            rw [if_neg hv0] at hsu
            generalize idf (sk.getD k 0) = m at hl hm hr
            generalize versS d.ca (sk.getD k 0) = V at *
            have hdr := decN_rng (crashL d.ca d.st c sk k).2 (n := (V.length : Int) + 1) (by omega)
            have hdl := decN_len (crashL d.ca d.st c sk k).2 ((V.length : Int) + 1)
            have hd := dec_p (crashL d.ca d.st c sk k).2 ((V.length : Int) + 1) (by omega) (by omega) (by omega)
            generalize decN (crashL d.ca d.st c sk k).2 ((V.length : Int) + 1) = q at hdr hdl hd hsu
            by_cases hn : 0 < q.1
            · rw [if_pos hn] at hsu
              repeat (first | (refine aw_seq ?_) | (apply w_region (by rfl); (next => (simp (maxSteps := 2000000) (disch := omega) only [go_sem, beq_self_eq_true, (encL_get (f := intRow) (0 : Int)), (encL_get (f := encSec) zSec), hl, hk, hm, hlen] <;> exact rfl))) | (apply w_draw (by kernel_rfl) (by kernel_rfl) (by rfl); (case hr => (apply d_run; (next => (simp (maxSteps := 2000000) (disch := omega) only [go_sem, beq_self_eq_true, (encL_get (f := intRow) (0 : Int)), (encL_get (f := encSec) zSec), hl, hk, hm, hlen] <;> exact rfl)); exact d_nil)); (case hdyn => (simp (maxSteps := 2000000) (disch := omega) only [go_sem, nbeq_F, nbeq_T, beq_self_eq_true, (encL_get (f := intRow) (0 : Int)), (encL_get (f := encSec) zSec), hl, hk, hm, hlen] <;> kernel_rfl))) | (refine w_nil ?_) | (refine w_then ?_) | (refine w_blockN ?_) | (refine aw_skip ?_) | (refine aw_block ?_) | (apply w_condT; (next => (simp (maxSteps := 2000000) (disch := omega) only [go_sem, beq_self_eq_true, (encL_get (f := intRow) (0 : Int)), (encL_get (f := encSec) zSec), hl, hk, hm, hlen] <;> done))) | (apply w_callP (hop := rfl) (hg := rfl) (hp := hd); (next => (simp (maxSteps := 2000000) (disch := omega) only [go_sem, beq_self_eq_true, (encL_get (f := intRow) (0 : Int)), (encL_get (f := encSec) zSec), hl, hk, hm, hlen] <;> exact rfl)); (next => (simp [noId_c, noId_agg, noId_snap, noId_tup,encD,sec_noIdE,encL_noId,encL_noIdE,encCa,encOp,encExt]; done)); (next => (simp (maxSteps := 2000000) (disch := omega) only [go_sem, beq_self_eq_true, (encL_get (f := intRow) (0 : Int)), (encL_get (f := encSec) zSec), hl, hk, hm, hlen] <;> exact rfl))))
              refine ⟨sk.length - (k + 1), by omega, _, _, ⟨k + 1, N2 + 1000, rfl, by omega, by omega, rfl, rfl⟩, ?_⟩
              rw [hsu]
              refine holds_cons (by rfl) (holds_cons (by rfl) (holds_cons (by rfl) (holds_cons (by rfl) (holds_cons (by rfl) (holds_cons (by rfl) (holds_cons (by rfl) (holds_nil (by simp only []; omega) (subB hG (sB_none (sB_cons (by (first | rfl | (simp (disch := omega) only [go_sem, encD]; done) | (simp (disch := omega) only [go_sem, encD]; rfl))) (sB_cons (by (first | rfl | (simp (disch := omega) only [go_sem, encD]; done) | (simp (disch := omega) only [go_sem, encD]; rfl))) (sB_cons (by (first | rfl | (simp (disch := omega) only [go_sem, encD]; done) | (simp (disch := omega) only [go_sem, encD]; rfl))) (sB_cons (by (first | rfl | (simp (disch := omega) only [go_sem, encD]; done) | (simp (disch := omega) only [go_sem, encD]; rfl))) (sB_nil)))))) (by simp only [keysOK, memK, or_false, false_or, or_true, true_or, and_true, true_and, Nat.le_refl] <;> omega)))))))))
            · rw [if_neg hn] at hsu
              repeat (first | (refine aw_seq ?_) | (apply w_region (by rfl); (next => (simp (maxSteps := 2000000) (disch := omega) only [go_sem, beq_self_eq_true, (encL_get (f := intRow) (0 : Int)), (encL_get (f := encSec) zSec), hl, hk, hm, hlen] <;> exact rfl))) | (refine w_nil ?_) | (refine w_then ?_) | (refine w_blockN ?_) | (refine aw_skip ?_) | (refine aw_block ?_) | (apply w_condT; (next => (simp (maxSteps := 2000000) (disch := omega) only [go_sem, beq_self_eq_true, (encL_get (f := intRow) (0 : Int)), (encL_get (f := encSec) zSec), hl, hk, hm, hlen] <;> done))) | (apply w_condF; (next => (simp (maxSteps := 2000000) (disch := omega) only [go_sem, beq_self_eq_true, (encL_get (f := intRow) (0 : Int)), (encL_get (f := encSec) zSec), hl, hk, hm, hlen] <;> done))) | (apply w_callP (hop := rfl) (hg := rfl) (hp := hd); (next => (simp (maxSteps := 2000000) (disch := omega) only [go_sem, beq_self_eq_true, (encL_get (f := intRow) (0 : Int)), (encL_get (f := encSec) zSec), hl, hk, hm, hlen] <;> exact rfl)); (next => (simp [noId_c, noId_agg, noId_snap, noId_tup,encD,sec_noIdE,encL_noId,encL_noIdE,encCa,encOp,encExt]; done)); (next => (simp (maxSteps := 2000000) (disch := omega) only [go_sem, beq_self_eq_true, (encL_get (f := intRow) (0 : Int)), (encL_get (f := encSec) zSec), hl, hk, hm, hlen] <;> exact rfl))))
              refine ⟨sk.length - (k + 1), by omega, _, _, ⟨k + 1, N2 + 1000, rfl, by omega, by omega, rfl, rfl⟩, ?_⟩
              rw [hsu]
              refine holds_cons (by rfl) (holds_cons (by rfl) (holds_cons (by rfl) (holds_cons (by rfl) (holds_cons (by rfl) (holds_cons (by rfl) (holds_cons (by rfl) (holds_nil (by simp only []; omega) (subB hG (sB_none (sB_cons (by (first | rfl | (simp (disch := omega) only [go_sem, encD]; done) | (simp (disch := omega) only [go_sem, encD]; rfl))) (sB_cons (by (first | rfl | (simp (disch := omega) only [go_sem, encD]; done) | (simp (disch := omega) only [go_sem, encD]; rfl))) (sB_cons (by (first | rfl | (simp (disch := omega) only [go_sem, encD]; done) | (simp (disch := omega) only [go_sem, encD]; rfl))) (sB_cons (by (first | rfl | (simp (disch := omega) only [go_sem, encD]; done) | (simp (disch := omega) only [go_sem, encD]; rfl))) (sB_nil)))))) (by simp only [keysOK, memK, or_false, false_or, or_true, true_or, and_true, true_and, Nat.le_refl] <;> omega)))))))))
          · obtain rfl : k = sk.length := by omega
            have htk : (crashL d.ca d.st c sk sk.length).1.take d.st.length = (crashL d.ca d.st c sk sk.length).1 := List.take_of_length_le (by omega)
            repeat (first | (refine aw_seq ?_) | (apply w_region (by rfl); (next => (simp (maxSteps := 2000000) (disch := omega) only [go_sem, beq_self_eq_true] <;> exact rfl))) | (apply w_draw (by kernel_rfl) (by kernel_rfl) (by rfl); (case hr => (repeat (apply d_run; (next => (simp (maxSteps := 2000000) (disch := omega) only [go_sem, beq_self_eq_true] <;> exact rfl)); first | exact d_nil | (apply d_callP (hop := rfl) (hg := rfl) (hp := (cloneI_p (crashL d.ca d.st c sk sk.length).2 (by omega))); (next => (simp (maxSteps := 2000000) (disch := omega) only [go_sem, beq_self_eq_true] <;> exact rfl)); (next => (simp [noId_c, noId_agg, noId_snap, noId_tup,encD,sec_noIdE,encL_noId,encL_noIdE,encCa,encOp,encExt]; done)))))); (case hdyn => (simp (maxSteps := 2000000) (disch := omega) only [go_sem, nbeq_F, nbeq_T, beq_self_eq_true] <;> kernel_rfl))) | (refine w_nil ?_) | (refine w_hold2 ?_) | (refine w_then ?_) | (refine w_thenE ?_) | (refine w_blockE ?_) | (refine aw_ret ?_) | (refine aw_exit ?_) | (apply w_end; (next => (simp (maxSteps := 2000000) (disch := omega) only [go_sem, beq_self_eq_true, Try.f22] <;> exact rfl))) | (apply w_condF; (next => (simp (maxSteps := 2000000) (disch := omega) only [go_sem, beq_self_eq_true] <;> done))))
            have hl0 : (crashL d.ca d.st c sk sk.length).2 = [] := by
              rw [hall]; have h9 := hleft; rw [hS] at h9; exact h9
            have hs0 : (crashS d c).1.st = (crashL d.ca d.st c sk sk.length).1 := by rw [hS, hall]
            refine ⟨fun _ => N, fun i j h1 h2 _ => by simp at h1 h2; omega, by rw [hl0]; rfl, fun j b hb => ?_⟩
            cases j with
            | zero =>
              simp only [List.getElem?_cons_zero, Option.some.injEq] at hb
              subst hb
              rw [hs0]
              (first | rfl | (simp (disch := omega) only [go_sem, encD]; done) | (simp (disch := omega) only [go_sem, encD]; rfl))
            | succ j => simp at hb

end Go.Proofs.Ytniccdnhjbnaeaa

/- Each version of a sector survives for some choices: the places of the choices. Plain. -/
namespace Go.Proofs.Ytniccdnhjbnaeaa
open Go.Proofs Go.AL
set_option linter.unusedVariables false
set_option linter.unusedSimpArgs false

theorem crash_left (ca : List (Int × Sec)) (st : List Sec) (c : List Int) : ∀ k, (crashTo ca st c k).2 = c.drop (cntV ca k)
  | 0 => by simp [crashTo, cntV]
  | k + 1 => by
    rw [crashTo_succ]
    unfold crashStep
    by_cases h : (versS ca k).length = 0
    · rw [if_pos h]
      simp only [cntV, if_pos h, Nat.add_zero]
      exact crash_left ca st c k
    · rw [if_neg h]
      simp only [cntV, if_neg h]
      have hd : ∀ (l : List Int) (n : Int), (decN l n).2 = l.drop 1 := fun l n => by
        unfold decN
        split
        · rename_i hl
          have : l = [] := List.eq_nil_of_length_eq_zero hl
          subst this; rfl
        · rfl
      show (decN (crashTo ca st c k).2 _).2 = _
      rw [hd, crash_left ca st c k, List.drop_drop]
theorem cntV_mono (ca : List (Int × Sec)) (k : Nat) : ∀ j, cntV ca k ≤ cntV ca (k + j)
  | 0 => Nat.le_refl _
  | j + 1 => by
    have := cntV_mono ca k j
    show cntV ca k ≤ cntV ca (k + j) + _
    omega
theorem cntV_le (ca : List (Int × Sec)) : ∀ k, cntV ca k ≤ k
  | 0 => Nat.le_refl _
  | k + 1 => by
    have := cntV_le ca k
    simp only [cntV]
    split <;> omega
theorem crash_none {d : Dsk} {c : List Int} {i : Nat} (hd : checkD d = 0) (hi : i < d.ca.length) (hc : c.length ≤ cntV d.ca (d.ca.getD i zCa).1.toNat + 1) : (crashS d c).2 = [] := by
  have hin := inAll_at (inAll_of hd).1 hi
  have hv := vers_hit (i := (d.ca.getD i zCa).1) hi rfl
  have hp := vers_prefix d.ca (d.ca.getD i zCa).1 (i + 1)
  rw [← hv] at hp
  generalize (d.ca.getD i zCa).2 = s at hp
  generalize (d.ca.getD i zCa).1 = a at *
  obtain ⟨q, rfl⟩ : ∃ q : Nat, a = (q : Int) := ⟨a.toNat, by omega⟩
  simp only [Int.toNat_natCast] at hc
  have h1 : cntV d.ca (q + 1) = cntV d.ca q + 1 := by
    simp only [cntV]
    rw [if_neg (by rw [hp]; simp)]
  obtain ⟨j, hj⟩ : ∃ j, d.st.length = q + 1 + j := ⟨d.st.length - q - 1, by omega⟩
  have h2 := cntV_mono d.ca (q + 1) j
  show (if checkD d = 0 then _ else _ : Dsk × List Int).2 = []
  rw [if_pos hd]
  show (crashTo d.ca d.st c d.st.length).2 = []
  rw [crash_left, hj]
  exact List.drop_eq_nil_of_le (by omega)
theorem crash_zero {d : Dsk} (n : Nat) (hd : checkD d = 0) : (crashS d (List.replicate n 0)).1.st = d.st := by
  show (if checkD d = 0 then _ else _ : Dsk × List Int).1.st = _
  rw [if_pos hd]
  exact (crash_allz d.ca d.st (c := List.replicate n 0) (fun x hx => (List.mem_replicate.1 hx).2) d.st.length).1

/-- The sectors that were seen. -/
structure SeenV (ca : List (Int × Sec)) (a : Int) (es : List (Value × AV)) (ks : List Int) : Prop where
  es : es = ks.map fun q => (keyZ q, .c (.bool true))
  nodup : ks.Nodup
  mem : ∀ q, q ∈ ks ↔ q < a ∧ versS ca q ≠ []
section
variable {ca : List (Int × Sec)} {a : Int} {es : List (Value × AV)} {ks : List Int}
theorem SeenV.start : SeenV [] a [] [] := ⟨rfl, List.nodup_nil, fun q => by simp [versS]⟩
theorem SeenV.keys (h : SeenV ca a es ks) : keysB (.int .i64) es = true := by rw [h.es]; exact keysB_ks (x := fun _ => .c (.bool true)) ks
theorem SeenV.hit (h : SeenV ca a es ks) {q : Int} (hq : q ∈ ks) : lookM (.int .i64 q) es = some (.c (.bool true)) := by rw [h.es]; exact (lookM_ks (x := fun _ => .c (.bool true)) q ks).trans (if_pos hq)
theorem SeenV.miss (h : SeenV ca a es ks) {q : Int} (hq : q ∉ ks) : lookM (.int .i64 q) es = none := by rw [h.es]; exact (lookM_ks (x := fun _ => .c (.bool true)) q ks).trans (if_neg hq)
theorem SeenV.skip (h : SeenV ca a es ks) {p : Int × Sec} (hp : ¬ p.1 < a ∨ p.1 ∈ ks) : SeenV (ca ++ [p]) a es ks := ⟨h.es, h.nodup, fun q => by
  rw [vers_app, h.mem]
  by_cases hq : p.1 = q
  · subst hq
    simp only [if_true]
    rcases hp with hp | hp
    · exact ⟨fun h => absurd h.1 hp, fun h => absurd h.1 hp⟩
    · have := (h.mem _).1 hp
      exact ⟨fun h => ⟨h.1, by simp⟩, fun _ => this⟩
  · simp [hq]⟩
theorem SeenV.put (h : SeenV ca a es ks) {p : Int × Sec} (hp : p.1 < a) (hn : p.1 ∉ ks) : SeenV (ca ++ [p]) a (putM (.int .i64 p.1) (.c (.bool true)) es) (ks ++ [p.1]) := by
  refine ⟨?_, List.nodup_append.2 ⟨h.nodup, by simp, fun a ha b hb => by simp at hb; subst hb; rintro rfl; exact hn ha⟩, fun q => ?_⟩
  · rw [h.es]
    refine (putM_ks (x := fun _ => .c (.bool true)) (y := .c (.bool true)) p.1 ks h.nodup).trans ?_
    rw [if_neg hn, List.map_append]
    rfl
  · rw [vers_app, List.mem_append, h.mem]
    by_cases hq : p.1 = q
    · subst hq; simp [hp]
    · simp [hq, Ne.symm hq]
theorem SeenV.len (h : SeenV ca a es ks) (hn : ∀ c ∈ ca, 0 ≤ c.1) (ha : 0 ≤ a) : ks.length = cntV ca a.toNat := by
  have hc : ∀ k, cntV ca k = (((List.range k).filter fun (q : Nat) => decide ((versS ca (q : Int)).length ≠ 0)).map fun (q : Nat) => (q : Int)).length := fun k => by
    induction k with
    | zero => rfl
    | succ k ih =>
      rw [List.range_succ, List.filter_append, List.map_append, List.length_append, ← ih, cntV]
      by_cases hv : (versS ca k).length = 0
      · rw [if_pos hv]
        have : decide ((versS ca (k : Int)).length ≠ 0) = false := by rw [hv]; rfl
        simp only [List.filter_cons, this, List.filter_nil, Bool.false_eq_true, if_false, List.map_nil, List.length_nil]
      · rw [if_neg hv]
        have : decide ((versS ca (k : Int)).length ≠ 0) = true := by simpa using hv
        simp only [List.filter_cons, this, List.filter_nil, if_true, List.map_cons, List.map_nil, List.length_cons, List.length_nil]
  rw [hc]
  refine ((List.perm_ext_iff_of_nodup h.nodup ?_).2 fun q => ?_).length_eq
  · exact List.pairwise_map.2 ((List.Pairwise.filter _ List.nodup_range).imp fun {a b} h h2 => h (Int.ofNat.inj h2))
  · rw [h.mem]
    simp only [List.mem_map, List.mem_filter, List.mem_range, decide_eq_true_eq]
    constructor
    · rintro ⟨h1, h2⟩
      have h0 : 0 ≤ q := by
        cases hf : ca.filter (fun c => c.1 == q) with
        | nil => exact absurd (by unfold versS; rw [hf]; rfl) h2
        | cons x r =>
          have hx : x ∈ ca.filter (fun c => c.1 == q) := by rw [hf]; simp
          rw [List.mem_filter] at hx
          have h1 := hn x hx.1
          have h2 : x.1 = q := by simpa using hx.2
          omega
      refine ⟨q.toNat, ⟨by omega, ?_⟩, by omega⟩
      rw [show ((q.toNat : Nat) : Int) = q by omega]
      exact fun e => h2 (List.eq_nil_of_length_eq_zero e)
    · rintro ⟨i, ⟨h1, h2⟩, rfl⟩
      exact ⟨by omega, fun e => h2 (by rw [e]; rfl)⟩
end
end Go.Proofs.Ytniccdnhjbnaeaa

namespace Go.Proofs.Ytniccdnhjbnaeaa
open Go.Proofs Go.AL
set_option maxRecDepth 100000
set_option maxHeartbeats 1000000
set_option linter.unusedVariables false
set_option linter.unusedSimpArgs false
attribute [local irreducible] endA AW aops thenA blockA hold
attribute [local go_sem] dec_ltT dec_ltF dec_leT dec_leF beq_T beq_F bne_T bne_F encD

attribute [local go_sem] keepE keepT ren1 ren2 ren3 newT
set_option maxHeartbeats 4000000

theorem rightTo_ok (n : Nat) (ops : List Opr) : ∀ k, k ≤ ops.length → inAll (rightTo n ops k) ∧ (rightTo n ops k).st.length = n % 40
  | 0, _ => ⟨fun c hc => by simp [rightTo] at hc, by simp [rightTo]⟩
  | k + 1, h => by
    obtain ⟨h1, h2⟩ := rightTo_ok n ops k (by omega)
    have hm : n % 40 < 40 := Nat.mod_lt _ (by omega)
    rw [rightTo_succ (by omega)]
    generalize rightTo n ops k = d at h1 h2
    generalize ops.getD k default = o
    unfold rightStep
    split
    · rename_i he
      have hc : checkD d = 0 := checkD_of h1 (by omega)
      unfold runS at he ⊢
      rw [if_pos hc] at he ⊢
      obtain ⟨h3, h4⟩ := runL_ok [o] d 0 h1 he
      exact ⟨h3, h4.trans h2⟩
    · exact ⟨h1, h2⟩
theorem right_ok (n : Nat) (ops : List Opr) : checkD (rightS n ops) = 0 ∧ (rightS n ops).st.length ≤ 40 ∧ (rightS n ops).ca.length ≤ ops.length * 4096 := by
  have h := rightTo_ok n ops ops.length (Nat.le_refl _)
  have h2 := rightTo_bd n ops ops.length (Nat.le_refl _)
  have hm : n % 40 < 40 := Nat.mod_lt _ (by omega)
  rw [rightTo_all] at h h2
  exact ⟨checkD_of h.1 (by omega), by omega, h2.2⟩
theorem tmod_n (x l : Nat) : (x : Int).tmod (l : Int) = ((x % l : Nat) : Int) := by rw [Int.tmod_eq_emod_of_nonneg (by omega)]; omega
theorem chz (p : Nat) (v : Int) : (List.replicate (p + 1) [zV 0]).set p [zV v] = encL intRow (List.replicate p 0 ++ [v]) := by
  have : List.replicate (p + 1) [zV 0] = encL intRow (List.replicate (p + 1) 0) := (encL_repl (f := intRow) (p + 1) 0)
  rw [this, show [zV v] = intRow v from rfl, encL_set]
  congr 1
  rw [List.replicate_succ']
  simp
theorem chg (p : Nat) : ([zV 0] :: encL intRow (List.replicate p 0))[p]? = some [zV 0] := by
  have : ([zV 0] :: encL intRow (List.replicate p 0)) = encL intRow (List.replicate (p + 1) 0) := by rw [List.replicate_succ]; rfl
  rw [this, encL_get (f := intRow) (0 : Int)]
  · rw [List.getD_eq_getElem?_getD, List.getElem?_replicate, if_pos (by omega)]; rfl
  · simp
theorem chs (p : Nat) (v : Int) : ([zV 0] :: encL intRow (List.replicate p 0)).set p [zV v] = encL intRow (List.replicate p 0 ++ [v]) := by
  rw [← chz]
  congr 1
  rw [List.replicate_succ]
  congr 1
  simp [encL, intRow]
theorem chg0 (p : Nat) (v : Int) : (encL intRow (List.replicate p 0 ++ [v]))[p]? = some [zV v] := by
  rw [encL_get (f := intRow) (0 : Int)]
  · simp [List.getD_eq_getElem?_getD, intRow]
  · simp
theorem sfb_sec (l : List Sec) : ∀ b ∈ [Blk.cells 65 8 (encL encSec l) true true], sfB b := fun b hb => by
  simp only [List.mem_singleton] at hb
  subst hb
  intro r hr x hx
  obtain ⟨s, _, rfl⟩ := List.mem_map.1 hr
  simp only [encSec, List.mem_cons, List.not_mem_nil, or_false] at hx
  rcases hx with h | h | h | h | h | h | h | h <;> subst h <;> rfl
theorem chz0 (p : Nat) (v : Int) : (encL intRow (List.replicate p 0 ++ [v])).set p [zV 0] = encL intRow (List.replicate (p + 1) 0) := by
  rw [show [zV 0] = intRow 0 from rfl, encL_set]
  congr 1
  rw [List.replicate_succ']
  simp
/-- Which cached version it is, so far. -/
def verK (ca : List (Int × Sec)) (i k : Nat) : Nat := (versS (ca.take (min k (i + 1))) (ca.getD i zCa).1).length
theorem verK_hit {ca : List (Int × Sec)} {i k : Nat} (hk : k < ca.length) (hi : k ≤ i) (h : (ca.getD k zCa).1 = (ca.getD i zCa).1) : verK ca i (k + 1) = verK ca i k + 1 := by
  unfold verK
  rw [show min (k + 1) (i + 1) = k + 1 by omega, show min k (i + 1) = k by omega, ← vers_hit hk h]
  simp
theorem verK_miss {ca : List (Int × Sec)} {i k : Nat} (hk : k < ca.length) (h : ¬ (ca.getD k zCa).1 = (ca.getD i zCa).1) : verK ca i (k + 1) = verK ca i k := by
  unfold verK
  by_cases hi : k ≤ i
  · rw [show min (k + 1) (i + 1) = k + 1 by omega, show min k (i + 1) = k by omega, vers_miss hk h]
  · rw [show min (k + 1) (i + 1) = i + 1 by omega, show min k (i + 1) = i + 1 by omega]
theorem verK_late {ca : List (Int × Sec)} {i k : Nat} (hi : ¬ k ≤ i) : verK ca i (k + 1) = verK ca i k := by
  unfold verK
  rw [show min (k + 1) (i + 1) = i + 1 by omega, show min k (i + 1) = i + 1 by omega]
theorem verK_le (ca : List (Int × Sec)) (i k : Nat) : verK ca i k ≤ ca.length := Nat.le_trans (vers_len _ _) (by simp; omega)
theorem verK_end {ca : List (Int × Sec)} {i : Nat} (hi : i < ca.length) : verK ca i ca.length = (versS (ca.take (i + 1)) (ca.getD i zCa).1).length := by
  unfold verK; rw [show min ca.length (i + 1) = i + 1 by omega]
def HeadCh (d : Dsk) (i x : Nat) (n : Nat) (env : List (Nat × Bool × AV)) (H : Heap) : Prop :=
  ∃ (k N : Nat) (es : List (Value × AV)) (ks : List Int), n = d.ca.length - k ∧ k ≤ d.ca.length ∧ 15 ≤ N ∧ ks.length ≤ k ∧ SeenV (d.ca.take k) (d.ca.getD i zCa).1 es ks ∧
    env = [(45, true, zV (k : Int)), (44, true, zV (d.ca.length : Int)), (43, true, .snap (encL encCa d.ca)), (11, true, .omap 14), (10, true, zV (verK d.ca i k : Int)), (9, true, zV (ks.length : Int)), (8, true, .ptr 12 0 0), (7, true, .ptr 0 0 0), (2, true, .c (.int .u16 (x : Int)))] ∧
    H = ⟨N, tabG [(0, some (.cells 25 2 [encD d] true false)), (12, some (.cells 67 9 [encCa (d.ca.getD i zCa)] true false)), (14, some (.map es))]⟩

theorem law6_p (n : Nat) (ops : List Opr) (x : Nat) (hn : n < 256) (hx : x < 65536) (hol : ops.length ≤ 9223372036854775807) : PCall Try.prog 6 [.c (.int .u8 (n : Int)), .snap (encL encOp ops), .c (.int .u16 (x : Int))] (· = bV true) := by
  refine pcall Try.func6 rfl (by kernel_rfl) (by simp [Try.ntmps6]) ?_
  rw [Try.ntmps6]
  cases hb0 : fewOps ops
  · repeat (first | (refine aw_seq ?_) | (apply w_region (by rfl); (next => (simp (maxSteps := 2000000) (disch := omega) only [go_sem, hb0] <;> exact rfl))) | (refine w_nil ?_) | (refine w_hold2 ?_) | (refine w_then ?_) | (refine w_thenR ?_) | (refine aw_ret ?_) | (apply w_end; (next => (simp (maxSteps := 2000000) (disch := omega) only [go_sem, hb0, Try.f6] <;> exact rfl))) | (apply w_condT; (next => (simp (maxSteps := 2000000) (disch := omega) only [go_sem, hb0] <;> done))) | (apply w_callP (hop := rfl) (hg := rfl) (hp := (fewOps_p ops hol)); (next => (simp (maxSteps := 2000000) (disch := omega) only [go_sem, hb0] <;> exact rfl)); (next => (simp [noId_c, noId_agg, noId_snap, noId_tup,encD,sec_noIdE,encL_noId,encL_noIdE,encCa,encOp,encExt]; done)); (next => (simp (maxSteps := 2000000) (disch := omega) only [go_sem, hb0] <;> exact rfl))) | (apply w_callP (hop := rfl) (hg := rfl) (hp := awake_p); (next => (simp (maxSteps := 2000000) (disch := omega) only [go_sem, hb0] <;> exact rfl)); (next => (simp [noId_c, noId_agg, noId_snap, noId_tup,encD,sec_noIdE,encL_noId,encL_noIdE,encCa,encOp,encExt]; done)); (next => (simp (maxSteps := 2000000) (disch := omega) only [go_sem, hb0] <;> exact rfl))))
    (simp (maxSteps := 2000000) (disch := omega) only [go_sem, noId_c, noId_agg, noId_tup, noId_snap, encL_noIdE, sec_noIdE, List.drop_zero, List.take_length]; (repeat (first | exact .refl _ | exact .nil | exact wks_nil | refine wks_cons ?_ ?_ | refine wk_tup ?_ | refine wk_agg ?_)))
  · have ho := fewOps_len hb0
    have c1 := right_p n ops hn ho
    obtain ⟨hck, hst, hca⟩ := right_ok n ops
    generalize rightS n ops = d at c1 hck hst hca
    by_cases h0 : d.ca.length = 0
    · repeat (first | (refine aw_seq ?_) | (apply w_region (by rfl); (next => (simp (maxSteps := 2000000) (disch := omega) only [go_sem, hb0, h0] <;> exact rfl))) | (refine w_nil ?_) | (refine w_hold2 ?_) | (refine w_then ?_) | (refine w_thenR ?_) | (refine aw_skip ?_) | (refine aw_ret ?_) | (apply w_end; (next => (simp (maxSteps := 2000000) (disch := omega) only [go_sem, hb0, h0, Try.f6] <;> exact rfl))) | (apply w_condT; (next => (simp (maxSteps := 2000000) (disch := omega) only [go_sem, hb0, h0] <;> done))) | (apply w_condF; (next => (simp (maxSteps := 2000000) (disch := omega) only [go_sem, hb0, h0] <;> done))) | (apply w_callP (hop := rfl) (hg := rfl) (hp := (fewOps_p ops hol)); (next => (simp (maxSteps := 2000000) (disch := omega) only [go_sem, hb0, h0] <;> exact rfl)); (next => (simp [noId_c, noId_agg, noId_snap, noId_tup,encD,sec_noIdE,encL_noId,encL_noIdE,encCa,encOp,encExt]; done)); (next => (simp (maxSteps := 2000000) (disch := omega) only [go_sem, hb0, h0] <;> exact rfl))) | (apply w_callP (hop := rfl) (hg := rfl) (hp := awake_p); (next => (simp (maxSteps := 2000000) (disch := omega) only [go_sem, hb0, h0] <;> exact rfl)); (next => (simp [noId_c, noId_agg, noId_snap, noId_tup,encD,sec_noIdE,encL_noId,encL_noIdE,encCa,encOp,encExt]; done)); (next => (simp (maxSteps := 2000000) (disch := omega) only [go_sem, hb0, h0] <;> exact rfl))) | (apply w_callP (hop := rfl) (hg := rfl) (hp := c1); (next => (simp (maxSteps := 2000000) (disch := omega) only [go_sem, hb0, h0] <;> exact rfl)); (next => (simp [noId_c, noId_agg, noId_snap, noId_tup,encD,sec_noIdE,encL_noId,encL_noIdE,encCa,encOp,encExt]; done)); (next => (simp (maxSteps := 2000000) (disch := omega) only [go_sem, hb0, h0] <;> exact rfl))))
      (simp (maxSteps := 2000000) (disch := omega) only [go_sem, noId_c, noId_agg, noId_tup, noId_snap, encL_noIdE, sec_noIdE, List.drop_zero, List.take_length]; (repeat (first | exact .refl _ | exact .nil | exact wks_nil | refine wks_cons ?_ ?_ | refine wk_tup ?_ | refine wk_agg ?_)))
    · have hmod := tmod_n x d.ca.length
      have hi : x % d.ca.length < d.ca.length := Nat.mod_lt _ (by omega)
      generalize x % d.ca.length = i at hmod hi
      have hin := inAll_at (inAll_of hck).1 hi
      repeat (first | (refine aw_seq ?_) | (apply w_region (by rfl); (next => (simp (maxSteps := 2000000) (disch := omega) only [go_sem, hb0, h0, (encL_get (f := encCa) zCa), hmod] <;> exact rfl))) | (apply w_draw (by kernel_rfl) (by kernel_rfl) (by rfl); (case hr => (apply d_run; (next => (simp (maxSteps := 2000000) (disch := omega) only [go_sem, hb0, h0, (encL_get (f := encCa) zCa), hmod] <;> exact rfl)); exact d_nil)); (case hdyn => (simp (maxSteps := 2000000) (disch := omega) only [go_sem, nbeq_F, nbeq_T, hb0, h0, (encL_get (f := encCa) zCa), hmod] <;> kernel_rfl))) | (refine w_nil ?_) | (refine w_then ?_) | (refine aw_skip ?_) | (refine aw_block ?_) | (apply w_condF; (next => (simp (maxSteps := 2000000) (disch := omega) only [go_sem, hb0, h0, (encL_get (f := encCa) zCa), hmod] <;> done))) | (apply w_callP (hop := rfl) (hg := rfl) (hp := (fewOps_p ops hol)); (next => (simp (maxSteps := 2000000) (disch := omega) only [go_sem, hb0, h0, (encL_get (f := encCa) zCa), hmod] <;> exact rfl)); (next => (simp [noId_c, noId_agg, noId_snap, noId_tup,encD,sec_noIdE,encL_noId,encL_noIdE,encCa,encOp,encExt]; done)); (next => (simp (maxSteps := 2000000) (disch := omega) only [go_sem, hb0, h0, (encL_get (f := encCa) zCa), hmod] <;> exact rfl))) | (apply w_callP (hop := rfl) (hg := rfl) (hp := c1); (next => (simp (maxSteps := 2000000) (disch := omega) only [go_sem, hb0, h0, (encL_get (f := encCa) zCa), hmod] <;> exact rfl)); (next => (simp [noId_c, noId_agg, noId_snap, noId_tup,encD,sec_noIdE,encL_noId,encL_noIdE,encCa,encOp,encExt]; done)); (next => (simp (maxSteps := 2000000) (disch := omega) only [go_sem, hb0, h0, (encL_get (f := encCa) zCa), hmod] <;> exact rfl))))
      refine w_loop (HeadCh d i x) d.ca.length ?_ ?_
      · refine ⟨_, _, ⟨0, 1000, [], [], by omega, by omega, by omega, by simp, SeenV.start, rfl, rfl⟩, ?_⟩
        refine holds_cons (by rfl) (holds_cons (by rfl) (holds_cons (by rfl) (holds_cons (by rfl) (holds_cons (by rfl) (holds_cons (by rfl) (holds_cons (by rfl) (holds_cons (by rfl) (holds_cons (by rfl) (holds_nil (by simp only []; omega) (sub_cons (by (first | rfl | (simp (disch := omega) only [go_sem, encD]; done) | (simp (disch := omega) only [go_sem, encD]; rfl))) (sub_cons (by (first | rfl | (simp (disch := omega) only [go_sem, encD]; done) | (simp (disch := omega) only [go_sem, encD]; rfl))) (sub_cons (by (first | rfl | (simp (disch := omega) only [go_sem, encD]; done) | (simp (disch := omega) only [go_sem, encD]; rfl))) (sub_nil)))))))))))))
      · rintro n' env H ⟨k, N, es, ks, rfl, hkl, hN, hksl, hM, rfl, rfl⟩
        have hk := hM.keys
        simp only [go_sem] at hk
        have hvl := verK_le d.ca i k
        by_cases hlt : k < d.ca.length
        · have htk : d.ca.take (k + 1) = d.ca.take k ++ [d.ca.getD k zCa] := by
            rw [List.take_succ_eq_append_getElem hlt]; simp [hlt]
          by_cases hat : (d.ca.getD k zCa).1 < (d.ca.getD i zCa).1
          · have hne : ¬ (d.ca.getD k zCa).1 = (d.ca.getD i zCa).1 := by omega
            have hv := verK_miss hlt hne
            by_cases hq : (d.ca.getD k zCa).1 ∈ ks
            · have hl := hM.hit hq
              repeat (first | (refine aw_seq ?_) | (apply w_region (by rfl); (next => (simp (maxSteps := 2000000) (disch := omega) only [go_sem, (encL_get (f := encCa) zCa), hmod, hk, beq_self_eq_true, hl] <;> exact rfl))) | (refine w_nil ?_) | (refine w_then ?_) | (refine w_blockN ?_) | (refine aw_skip ?_) | (refine aw_block ?_) | (apply w_condT; (next => (simp (maxSteps := 2000000) (disch := omega) only [go_sem, (encL_get (f := encCa) zCa), hmod, hk, beq_self_eq_true, hl] <;> done))) | (apply w_condF; (next => (simp (maxSteps := 2000000) (disch := omega) only [go_sem, (encL_get (f := encCa) zCa), hmod, hk, beq_self_eq_true, hl] <;> done))))
              refine ⟨d.ca.length - (k + 1), by omega, _, _, ⟨k + 1, N + 1000, _, ks, rfl, by omega, by omega, by omega, by rw [htk]; exact hM.skip (.inr hq), rfl, rfl⟩, ?_⟩
              rw [hv]
              refine holds_cons (by rfl) (holds_cons (by rfl) (holds_cons (by rfl) (holds_cons (by rfl) (holds_cons (by rfl) (holds_cons (by rfl) (holds_cons (by rfl) (holds_cons (by rfl) (holds_cons (by rfl) (holds_nil (by simp only []; omega) (sub_cons (by (first | rfl | (simp (disch := omega) only [go_sem, encD]; done) | (simp (disch := omega) only [go_sem, encD]; rfl))) (sub_cons (by (first | rfl | (simp (disch := omega) only [go_sem, encD]; done) | (simp (disch := omega) only [go_sem, encD]; rfl))) (sub_cons (by (first | rfl | (simp (disch := omega) only [go_sem, encD]; done) | (simp (disch := omega) only [go_sem, encD]; rfl))) (sub_nil)))))))))))))
            · have hl := hM.miss hq
              have hlen : (((ks ++ [(d.ca.getD k zCa).1]).length : Nat) : Int) = (ks.length : Int) + 1 := by simp
              repeat (first | (refine aw_seq ?_) | (apply w_region (by rfl); (next => (simp (maxSteps := 2000000) (disch := omega) only [go_sem, (encL_get (f := encCa) zCa), hmod, hk, beq_self_eq_true, hl] <;> exact rfl))) | (refine w_nil ?_) | (refine w_then ?_) | (refine w_blockN ?_) | (refine aw_skip ?_) | (refine aw_block ?_) | (apply w_condT; (next => (simp (maxSteps := 2000000) (disch := omega) only [go_sem, (encL_get (f := encCa) zCa), hmod, hk, beq_self_eq_true, hl] <;> done))) | (apply w_condF; (next => (simp (maxSteps := 2000000) (disch := omega) only [go_sem, (encL_get (f := encCa) zCa), hmod, hk, beq_self_eq_true, hl] <;> done))))
              refine ⟨d.ca.length - (k + 1), by omega, _, _, ⟨k + 1, N + 1000, _, ks ++ [(d.ca.getD k zCa).1], rfl, by omega, by omega, by simp; omega, by rw [htk]; exact hM.put hat hq, rfl, rfl⟩, ?_⟩
              rw [hv, hlen]
              refine holds_cons (by rfl) (holds_cons (by rfl) (holds_cons (by rfl) (holds_cons (by rfl) (holds_cons (by rfl) (holds_cons (by rfl) (holds_cons (by rfl) (holds_cons (by rfl) (holds_cons (by rfl) (holds_nil (by simp only []; omega) (sub_cons (by (first | rfl | (simp (disch := omega) only [go_sem, encD]; done) | (simp (disch := omega) only [go_sem, encD]; rfl))) (sub_cons (by (first | rfl | (simp (disch := omega) only [go_sem, encD]; done) | (simp (disch := omega) only [go_sem, encD]; rfl))) (sub_cons (by (first | rfl | (simp (disch := omega) only [go_sem, encD]; done) | (simp (disch := omega) only [go_sem, encD]; rfl))) (sub_nil)))))))))))))
          · have hl : (lookM (.int .i64 (d.ca.getD k zCa).1) es).getD (.c (.bool false)) = .c (.bool (decide ((d.ca.getD k zCa).1 ∈ ks))) := by
              by_cases hq : (d.ca.getD k zCa).1 ∈ ks
              · rw [hM.hit hq, decide_eq_true hq]; rfl
              · rw [hM.miss hq, decide_eq_false hq]; rfl
            by_cases hae : (d.ca.getD k zCa).1 = (d.ca.getD i zCa).1
            · by_cases hki : k ≤ i
              · have hv : ((verK d.ca i (k + 1) : Nat) : Int) = (verK d.ca i k : Int) + 1 := by rw [verK_hit hlt hki hae]; rfl
                repeat (first | (refine aw_seq ?_) | (apply w_region (by rfl); (next => (simp (maxSteps := 2000000) (disch := omega) only [go_sem, (encL_get (f := encCa) zCa), hmod, hk, beq_self_eq_true, hl] <;> exact rfl))) | (refine w_nil ?_) | (refine w_then ?_) | (refine w_blockN ?_) | (refine aw_skip ?_) | (refine aw_block ?_) | (apply w_condT; (next => (simp (maxSteps := 2000000) (disch := omega) only [go_sem, (encL_get (f := encCa) zCa), hmod, hk, beq_self_eq_true, hl] <;> done))) | (apply w_condF; (next => (simp (maxSteps := 2000000) (disch := omega) only [go_sem, (encL_get (f := encCa) zCa), hmod, hk, beq_self_eq_true, hl] <;> done))))
                refine ⟨d.ca.length - (k + 1), by omega, _, _, ⟨k + 1, N + 1000, _, ks, rfl, by omega, by omega, by omega, by rw [htk]; exact hM.skip (.inl hat), rfl, rfl⟩, ?_⟩
                rw [hv]
                refine holds_cons (by rfl) (holds_cons (by rfl) (holds_cons (by rfl) (holds_cons (by rfl) (holds_cons (by rfl) (holds_cons (by rfl) (holds_cons (by rfl) (holds_cons (by rfl) (holds_cons (by rfl) (holds_nil (by simp only []; omega) (sub_cons (by (first | rfl | (simp (disch := omega) only [go_sem, encD]; done) | (simp (disch := omega) only [go_sem, encD]; rfl))) (sub_cons (by (first | rfl | (simp (disch := omega) only [go_sem, encD]; done) | (simp (disch := omega) only [go_sem, encD]; rfl))) (sub_cons (by (first | rfl | (simp (disch := omega) only [go_sem, encD]; done) | (simp (disch := omega) only [go_sem, encD]; rfl))) (sub_nil)))))))))))))
              · have hv := verK_late (ca := d.ca) hki
                repeat (first | (refine aw_seq ?_) | (apply w_region (by rfl); (next => (simp (maxSteps := 2000000) (disch := omega) only [go_sem, (encL_get (f := encCa) zCa), hmod, hk, beq_self_eq_true, hl] <;> exact rfl))) | (refine w_nil ?_) | (refine w_then ?_) | (refine w_blockN ?_) | (refine aw_skip ?_) | (refine aw_block ?_) | (apply w_condT; (next => (simp (maxSteps := 2000000) (disch := omega) only [go_sem, (encL_get (f := encCa) zCa), hmod, hk, beq_self_eq_true, hl] <;> done))) | (apply w_condF; (next => (simp (maxSteps := 2000000) (disch := omega) only [go_sem, (encL_get (f := encCa) zCa), hmod, hk, beq_self_eq_true, hl] <;> done))))
                refine ⟨d.ca.length - (k + 1), by omega, _, _, ⟨k + 1, N + 1000, _, ks, rfl, by omega, by omega, by omega, by rw [htk]; exact hM.skip (.inl hat), rfl, rfl⟩, ?_⟩
                rw [hv]
                refine holds_cons (by rfl) (holds_cons (by rfl) (holds_cons (by rfl) (holds_cons (by rfl) (holds_cons (by rfl) (holds_cons (by rfl) (holds_cons (by rfl) (holds_cons (by rfl) (holds_cons (by rfl) (holds_nil (by simp only []; omega) (sub_cons (by (first | rfl | (simp (disch := omega) only [go_sem, encD]; done) | (simp (disch := omega) only [go_sem, encD]; rfl))) (sub_cons (by (first | rfl | (simp (disch := omega) only [go_sem, encD]; done) | (simp (disch := omega) only [go_sem, encD]; rfl))) (sub_cons (by (first | rfl | (simp (disch := omega) only [go_sem, encD]; done) | (simp (disch := omega) only [go_sem, encD]; rfl))) (sub_nil)))))))))))))
            · have hv := verK_miss hlt hae
              repeat (first | (refine aw_seq ?_) | (apply w_region (by rfl); (next => (simp (maxSteps := 2000000) (disch := omega) only [go_sem, (encL_get (f := encCa) zCa), hmod, hk, beq_self_eq_true, hl] <;> exact rfl))) | (refine w_nil ?_) | (refine w_then ?_) | (refine w_blockN ?_) | (refine aw_skip ?_) | (refine aw_block ?_) | (apply w_condT; (next => (simp (maxSteps := 2000000) (disch := omega) only [go_sem, (encL_get (f := encCa) zCa), hmod, hk, beq_self_eq_true, hl] <;> done))) | (apply w_condF; (next => (simp (maxSteps := 2000000) (disch := omega) only [go_sem, (encL_get (f := encCa) zCa), hmod, hk, beq_self_eq_true, hl] <;> done))))
              refine ⟨d.ca.length - (k + 1), by omega, _, _, ⟨k + 1, N + 1000, _, ks, rfl, by omega, by omega, by omega, by rw [htk]; exact hM.skip (.inl hat), rfl, rfl⟩, ?_⟩
              rw [hv]
              refine holds_cons (by rfl) (holds_cons (by rfl) (holds_cons (by rfl) (holds_cons (by rfl) (holds_cons (by rfl) (holds_cons (by rfl) (holds_cons (by rfl) (holds_cons (by rfl) (holds_cons (by rfl) (holds_nil (by simp only []; omega) (sub_cons (by (first | rfl | (simp (disch := omega) only [go_sem, encD]; done) | (simp (disch := omega) only [go_sem, encD]; rfl))) (sub_cons (by (first | rfl | (simp (disch := omega) only [go_sem, encD]; done) | (simp (disch := omega) only [go_sem, encD]; rfl))) (sub_cons (by (first | rfl | (simp (disch := omega) only [go_sem, encD]; done) | (simp (disch := omega) only [go_sem, encD]; rfl))) (sub_nil)))))))))))))
        · obtain rfl : k = d.ca.length := by omega
          rw [List.take_length] at hM
          have hp := hM.len (fun c hc => ((inAll_of hck).1 c hc).1) hin.1
          have hpl := cntV_le d.ca (d.ca.getD i zCa).1.toNat
          have hch := chooses hck hi
          have hn1 := crash_none (c := List.replicate ks.length 0 ++ [(verK d.ca i d.ca.length : Int)]) hck hi (by rw [hp]; simp)
          have hn2 := crash_none (c := List.replicate (ks.length + 1) 0) hck hi (by rw [hp]; simp)
          rw [← hp, ← verK_end hi] at hch
          have hz := crash_zero (d := d) (ks.length + 1) hck
          have hne : d.st ≠ [] := fun e => by rw [e] at hin; simp at hin; omega
          have cn1 := crash_n d _ hne (by simp; omega) (by omega) hck hn1
          have cn2 := crash_n d _ hne (by simp; omega) (by omega) hck hn2
          rw [hz] at cn2
          have hl1 := crashS_len d (List.replicate ks.length 0 ++ [(verK d.ca i d.ca.length : Int)])
          generalize (crashS d (List.replicate ks.length 0 ++ [(verK d.ca i d.ca.length : Int)])).1.st = X at cn1 hch hl1
          generalize hvv : (verK d.ca i d.ca.length : Int) = v at *
          have hc1 := chs ks.length v
          have hc2 := chz0 ks.length v
          have hc3 := chg ks.length
          have hc4 := chg0 ks.length v
          have hlen : (List.replicate ks.length 0 ++ [v]).length = ks.length + 1 := by simp
          have htk1 : List.take (ks.length + 1) (List.replicate ks.length 0 ++ [v]) = List.replicate ks.length 0 ++ [v] := List.take_of_length_le (by omega)
          have htk2 : List.take (ks.length + 1) (List.replicate (ks.length + 1) (0 : Int)) = List.replicate (ks.length + 1) 0 := List.take_of_length_le (by simp)
          have hRl : (List.replicate (ks.length + 1) (0 : Int)).length = ks.length + 1 := by simp
          generalize List.replicate (ks.length + 1) (0 : Int) = R at cn2 hc2 htk2 hRl
          have hck0 : decide (X.getD (d.ca.getD i zCa).1.toNat zSec = (d.ca.getD i zCa).2) = true := by rw [hch]; simp
          have htk3 : List.take d.st.length d.st = d.st := List.take_length
          repeat (first | (refine aw_seq ?_) | (apply w_region (by rfl); (next => (simp (maxSteps := 2000000) (disch := omega) only [go_sem, hc1, hc2, hc3, hc4, htk1, htk2, htk3, hlen, hRl, hl1, (encL_get (f := encSec) zSec), hck0, decide_true, eqs_sec] <;> exact rfl))) | (apply w_draw (by kernel_rfl) (by kernel_rfl) (by rfl); (case hr => (repeat (apply d_run; (next => (simp (maxSteps := 2000000) (disch := omega) only [go_sem, hc1, hc2, hc3, hc4, htk1, htk2, htk3, hlen, hRl, hl1, (encL_get (f := encSec) zSec), hck0, decide_true, eqs_sec] <;> exact rfl)); first | exact d_nil | (apply d_callG (f := .func 13) (hop := rfl) (hg := rfl) (hp := awake_p); (next => (simp (maxSteps := 2000000) (disch := omega) only [go_sem, hc1, hc2, hc3, hc4, htk1, htk2, htk3, hlen, hRl, hl1, (encL_get (f := encSec) zSec), hck0, decide_true, eqs_sec] <;> exact rfl)); (next => (simp (maxSteps := 2000000) (disch := omega) only [go_sem, hc1, hc2, hc3, hc4, htk1, htk2, htk3, hlen, hRl, hl1, (encL_get (f := encSec) zSec), hck0, decide_true, eqs_sec] <;> exact rfl)); (next => (simp [noId_c, noId_agg, noId_snap, noId_tup,encD,sec_noIdE,encL_noId,encL_noIdE,encCa,encOp,encExt]; done))) | (apply d_callXG (f := .func 19) (hop := rfl) (hg := rfl) (hp := (sameSec_p d.st d.st (by omega) (by omega))); (next => (simp (maxSteps := 2000000) (disch := omega) only [go_sem, hc1, hc2, hc3, hc4, htk1, htk2, htk3, hlen, hRl, hl1, (encL_get (f := encSec) zSec), hck0, decide_true, eqs_sec] <;> done)); (next => (simp (maxSteps := 2000000) (disch := omega) only [go_sem, hc1, hc2, hc3, hc4, htk1, htk2, htk3, hlen, hRl, hl1, (encL_get (f := encSec) zSec), hck0, decide_true, eqs_sec] <;> exact rfl)); (next => (simp (maxSteps := 2000000) (disch := omega) only [go_sem, hc1, hc2, hc3, hc4, htk1, htk2, htk3, hlen, hRl, hl1, (encL_get (f := encSec) zSec), hck0, decide_true, eqs_sec] <;> exact rfl)); (next => (simp [noId_c, noId_agg, noId_snap, noId_tup,encD,sec_noIdE,encL_noId,encL_noIdE,encCa,encOp,encExt]; done)); (next => (simp (maxSteps := 2000000) (disch := omega) only [go_sem, hc1, hc2, hc3, hc4, htk1, htk2, htk3, hlen, hRl, hl1, (encL_get (f := encSec) zSec), hck0, decide_true, eqs_sec] <;> exact rfl)); (next => (simp (maxSteps := 2000000) (disch := omega) only [go_sem, hc1, hc2, hc3, hc4, htk1, htk2, htk3, hlen, hRl, hl1, (encL_get (f := encSec) zSec), hck0, decide_true, eqs_sec] <;> exact rfl)))))); (case hdyn => (simp (maxSteps := 2000000) (disch := omega) only [go_sem, nbeq_F, nbeq_T, hc1, hc2, hc3, hc4, htk1, htk2, htk3, hlen, hRl, hl1, (encL_get (f := encSec) zSec), hck0, decide_true, eqs_sec] <;> kernel_rfl))) | (refine w_nil ?_) | (refine w_hold2 ?_) | (refine w_then ?_) | (refine w_thenE ?_) | (refine w_blockE ?_) | (refine aw_skip ?_) | (refine aw_ret ?_) | (refine aw_exit ?_) | (apply w_end; (next => (simp (maxSteps := 2000000) (disch := omega) only [go_sem, hc1, hc2, hc3, hc4, htk1, htk2, htk3, hlen, hRl, hl1, (encL_get (f := encSec) zSec), hck0, decide_true, eqs_sec, Try.f6] <;> exact rfl))) | (apply w_condF; (next => (simp (maxSteps := 2000000) (disch := omega) only [go_sem, hc1, hc2, hc3, hc4, htk1, htk2, htk3, hlen, hRl, hl1, (encL_get (f := encSec) zSec), hck0, decide_true, eqs_sec] <;> done))) | (apply w_callN (hop := rfl) (hg := rfl) (hp := cn1); (next => exact sfb_sec _); (next => rfl); (next => (simp (maxSteps := 2000000) (disch := omega) only [go_sem, hc1, hc2, hc3, hc4, htk1, htk2, htk3, hlen, hRl, hl1, (encL_get (f := encSec) zSec), hck0, decide_true, eqs_sec] <;> exact rfl)); (next => (simp (maxSteps := 2000000) (disch := omega) only [go_sem, hc1, hc2, hc3, hc4, htk1, htk2, htk3, hlen, hRl, hl1, (encL_get (f := encSec) zSec), hck0, decide_true, eqs_sec] <;> exact rfl)); (next => (simp [noId_c, noId_agg, noId_snap, noId_tup,encD,sec_noIdE,encL_noId,encL_noIdE,encCa,encOp,encExt]; done)); (next => (simp (maxSteps := 2000000) (disch := omega) only [go_sem, hc1, hc2, hc3, hc4, htk1, htk2, htk3, hlen, hRl, hl1, (encL_get (f := encSec) zSec), hck0, decide_true, eqs_sec] <;> exact rfl))) | (apply w_callN (hop := rfl) (hg := rfl) (hp := cn2); (next => exact sfb_sec _); (next => rfl); (next => (simp (maxSteps := 2000000) (disch := omega) only [go_sem, hc1, hc2, hc3, hc4, htk1, htk2, htk3, hlen, hRl, hl1, (encL_get (f := encSec) zSec), hck0, decide_true, eqs_sec] <;> exact rfl)); (next => (simp (maxSteps := 2000000) (disch := omega) only [go_sem, hc1, hc2, hc3, hc4, htk1, htk2, htk3, hlen, hRl, hl1, (encL_get (f := encSec) zSec), hck0, decide_true, eqs_sec] <;> exact rfl)); (next => (simp [noId_c, noId_agg, noId_snap, noId_tup,encD,sec_noIdE,encL_noId,encL_noIdE,encCa,encOp,encExt]; done)); (next => (simp (maxSteps := 2000000) (disch := omega) only [go_sem, hc1, hc2, hc3, hc4, htk1, htk2, htk3, hlen, hRl, hl1, (encL_get (f := encSec) zSec), hck0, decide_true, eqs_sec] <;> exact rfl))))
          (simp (maxSteps := 2000000) (disch := omega) only [go_sem, noId_c, noId_agg, noId_tup, noId_snap, encL_noIdE, sec_noIdE, List.drop_zero, List.take_length]; (repeat (first | exact .refl _ | exact .nil | exact wks_nil | refine wks_cons ?_ ?_ | refine wk_tup ?_ | refine wk_agg ?_)))

end Go.Proofs.Ytniccdnhjbnaeaa
