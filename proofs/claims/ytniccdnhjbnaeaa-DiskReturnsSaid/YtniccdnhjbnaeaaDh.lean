/- What is not synced; the law DiskSyncs. No condition but those named. -/
import Derived.Test.YtniccdnhjbnaeaaDg
import Derived.KernelRfl
import Derived.Test.YtniccdnhjbnaeaaDf
namespace Go.Proofs.Ytniccdnhjbnaeaa
open Go.Proofs Go.AL
set_option maxRecDepth 100000
set_option maxHeartbeats 1000000
set_option linter.unusedVariables false
set_option linter.unusedSimpArgs false
attribute [local irreducible] endA AW aops thenA blockA hold
attribute [local go_sem] dec_ltT dec_ltF dec_leT dec_leF beq_T beq_F bne_T bne_F encExt encD


def orL (l : List (Int × Int)) : List (Int × Int) := lst (setP (fun x y => x || y) l []) 4097
def HeadNo (l : List (Int × Int)) (n : Nat) (env : List (Nat × Bool × AV)) (H : Heap) : Prop :=
  ∃ (k N : Nat), n = l.length - k ∧ k ≤ l.length ∧ env = [(8, true, zV (k : Int)), (7, true, zV (l.length : Int)), (6, true, .snap (encL encExt l)), (0, true, .snap (encL encExt l))] ∧ H = ⟨N, tabG []⟩


theorem normalize_p (l : List (Int × Int)) (hl : ∀ x ∈ l, x.2 = 1 ∧ 0 ≤ x.1 ∧ x.1 < 4096) (hL : l.length ≤ 400000)
    (hu : PCall Try.prog 69 [.snap (encL encExt l), .snap (encL encExt [])] (· = .snap (encL encExt (orL l)))) :
    PCall Try.prog 59 [.snap (encL encExt l)] (· = .tup [.snap (encL encExt (orL l)), zV 0]) := by
  have hu2 : PCall Try.prog 69 [.snap (encL encExt l), .c (.slice none 0 0)] (· = .snap (encL encExt (orL l))) := hu.less (wks_cons (.refl _) (wks_cons .nil (wks_refl _)))
  clear hu
  refine pcall Try.func59 rfl (by kernel_rfl) (by simp [Try.ntmps59]) ?_
  rw [Try.ntmps59]
  repeat (first | (refine aw_seq ?_) | (apply w_region (by rfl); (next => (simp (maxSteps := 2000000) (disch := omega) only [go_sem] <;> exact rfl))) | (refine w_nil ?_) | (refine w_then ?_) | (refine aw_block ?_))
  refine w_loop (HeadNo l) l.length ?_ ?_
  · refine ⟨_, _, ⟨0, 1000, by omega, by omega, rfl, rfl⟩, ?_⟩
    refine holds_cons (by rfl) (holds_cons (by rfl) (holds_cons (by rfl) (holds_cons (by rfl) (holds_nil (by simp only []; omega) (sub_nil)))))
  · rintro n env H ⟨k, N, rfl, hk, rfl, rfl⟩
    by_cases hkl : k < l.length
    · obtain ⟨h1, h2, h3⟩ := hl _ (getD_mem' zExt hkl)
      repeat (first | (refine aw_seq ?_) | (apply w_region (by rfl); (next => (simp (maxSteps := 2000000) (disch := omega) only [go_sem, (encL_get (f := encExt) zExt), h1] <;> exact rfl))) | (refine w_nil ?_) | (refine w_then ?_) | (refine w_blockN ?_) | (refine aw_skip ?_) | (refine aw_block ?_) | (apply w_condT; (next => (simp (maxSteps := 2000000) (disch := omega) only [go_sem, (encL_get (f := encExt) zExt), h1] <;> done))) | (apply w_condF; (next => (simp (maxSteps := 2000000) (disch := omega) only [go_sem, (encL_get (f := encExt) zExt), h1] <;> done))))
      refine ⟨l.length - (k + 1), by omega, _, _, ⟨k + 1, N + 1000, rfl, by omega, rfl, rfl⟩, ?_⟩
      refine holds_cons (by rfl) (holds_cons (by rfl) (holds_cons (by rfl) (holds_cons (by rfl) (holds_nil (by simp only []; omega) (sub_nil)))))
    · generalize orL l = o at hu2 ⊢
      repeat (first | (refine aw_seq ?_) | (apply w_region (by rfl); (next => (simp (maxSteps := 2000000) (disch := omega) only [go_sem] <;> exact rfl))) | (refine w_nil ?_) | (refine w_hold2 ?_) | (refine w_then ?_) | (refine w_thenE ?_) | (refine w_blockE ?_) | (refine aw_ret ?_) | (refine aw_exit ?_) | (apply w_end; (next => (simp (maxSteps := 2000000) (disch := omega) only [go_sem, Try.f59] <;> exact rfl))) | (apply w_condF; (next => (simp (maxSteps := 2000000) (disch := omega) only [go_sem] <;> done))) | (apply w_callP (hop := rfl) (hg := rfl) (hp := hu2); (next => (simp (maxSteps := 2000000) (disch := omega) only [go_sem] <;> exact rfl)); (next => (simp [noId_c, noId_agg, noId_snap, noId_tup,encD,sec_noIdE,encL_noId,encL_noIdE,encCa,encOp,encExt]; done)); (next => (simp (maxSteps := 2000000) (disch := omega) only [go_sem] <;> exact rfl))))
      (simp (maxSteps := 2000000) (disch := omega) only [go_sem, noId_c, noId_agg, noId_tup, noId_snap, encL_noIdE, sec_noIdE] <;> simp [])


/-- What is not synced. -/
def uE (ca : List (Int × Sec)) : List (Int × Int) := ca.map fun c => (c.1, 1)
def unsS (d : Dsk) : List (Int × Int) := if checkD d = 0 then orL (uE d.ca) else []
theorem uE_len (ca : List (Int × Sec)) : (uE ca).length = ca.length := by simp [uE]
theorem uE_snoc {ca : List (Int × Sec)} {k : Nat} (h : k < ca.length) : uE (ca.take (k + 1)) = uE (ca.take k) ++ [((ca.getD k zCa).1, 1)] := by
  unfold uE
  rw [List.take_succ_eq_append_getElem h, List.map_append]
  simp [h]
def EvX (wv : AV) (m : Nat) (mb : Option Blk) (l : List (Int × Int)) : Prop :=
  (wv = .own m 0 l.length ∧ mb = some (.cells 29 2 (encL encExt l) true true)) ∨ (wv = .c (.slice none 0 0) ∧ mb = none ∧ l = [])
theorem EvX.mk {m n : Nat} {l : List (Int × Int)} (h : n = l.length) : EvX (.own m 0 n) m (some (.cells 29 2 (encL encExt l) true true)) l := .inl ⟨by rw [h], rfl⟩
theorem EvX.nil0 {m : Nat} : EvX (.c (.slice none 0 0)) m none [] := .inr ⟨rfl, rfl, rfl⟩
def HeadUn (d : Dsk) (n : Nat) (env : List (Nat × Bool × AV)) (H : Heap) : Prop :=
  ∃ (k : Nat) (wv : AV) (m : Nat) (mb : Option Blk) (N : Nat), n = d.ca.length - k ∧ k ≤ d.ca.length ∧ EvX wv m mb (uE (d.ca.take k)) ∧ m < N ∧ 1 ≤ m ∧
    env = [(14, true, zV (k : Int)), (13, true, zV (d.ca.length : Int)), (12, true, .snap (encL encCa d.ca)), (3, true, wv)] ∧ H = ⟨N, tabG [(m, mb)]⟩


theorem unsynced_p (d : Dsk) (hL : d.st.length ≤ 1000000) (hC : d.ca.length ≤ 400000)
    (hu : ∀ l : List (Int × Int), (∀ x ∈ l, x.2 = 1 ∧ 0 ≤ x.1 ∧ x.1 < 4096) → l.length ≤ 400000 → PCall Try.prog 59 [.snap (encL encExt l)] (· = .tup [.snap (encL encExt (orL l)), zV 0])) :
    PCall Try.prog 37 [.agg (encD d)] (· = .snap (encL encExt (unsS d))) := by
  refine PCall.wk ?_ (by rw [noId_snap, encL_noIdE]; trivial)
  refine pcall Try.func37 rfl (by kernel_rfl) (by simp [Try.ntmps37]) ?_
  rw [Try.ntmps37]
  have hch := check_p d hL (by omega)
  unfold unsS
  by_cases h0 : checkD d = 0
  · rw [h0] at hch
    obtain ⟨hin, h4⟩ := inAll_of h0
    have hlok : ∀ x ∈ uE d.ca, x.2 = 1 ∧ 0 ≤ x.1 ∧ x.1 < 4096 := fun x hx => by
      obtain ⟨c, hc, rfl⟩ := List.mem_map.1 hx
      have := hin c hc
      exact ⟨rfl, this.1, by simp only []; omega⟩
    have hcn := hu (uE d.ca) hlok (by rw [uE_len]; exact hC)
    have hul := uE_len d.ca
    rw [if_pos h0]
    repeat (first | (refine aw_seq ?_) | (apply w_region (by rfl); (next => (simp (maxSteps := 2000000) (disch := omega) only [go_sem] <;> exact rfl))) | (refine w_nil ?_) | (refine w_then ?_) | (refine aw_skip ?_) | (refine aw_block ?_) | (apply w_condF; (next => (simp (maxSteps := 2000000) (disch := omega) only [go_sem] <;> done))) | (apply w_callP (hop := rfl) (hg := rfl) (hp := hch); (next => (simp (maxSteps := 2000000) (disch := omega) only [go_sem] <;> exact rfl)); (next => (simp [noId_c, noId_agg, noId_snap, noId_tup,encD,sec_noIdE,encL_noId,encL_noIdE,encCa,encOp,encExt]; done)); (next => (simp (maxSteps := 2000000) (disch := omega) only [go_sem] <;> exact rfl))))
    refine w_loop (HeadUn d) d.ca.length ?_ ?_
    · refine ⟨_, _, ⟨0, _, 100, none, 1000, by omega, by omega, EvX.nil0, by omega, by omega, rfl, rfl⟩, ?_⟩
      refine holds_cons (by rfl) (holds_cons (by rfl) (holds_cons (by rfl) (holds_cons (by rfl) (holds_nil (by simp only []; omega) (sub_none (sub_nil))))))
    · rintro n env H ⟨k, wv, m, mb, N, rfl, hk, hwv, hmN, hm1, rfl, rfl⟩
      by_cases hkl : k < d.ca.length
      · have hs := uE_snoc hkl
        have hl2 := uE_len (d.ca.take k)
        have hl3 : (d.ca.take k).length ≤ k := by simp; omega
        obtain ⟨hi1, hi2⟩ := inAll_at hin hkl
        rcases hwv with ⟨rfl, rfl⟩ | ⟨rfl, rfl, hnil⟩
        · repeat (first | (refine aw_seq ?_) | (apply w_region (by rfl); (next => (simp (maxSteps := 2000000) (disch := omega) only [go_sem, (encL_get zCa), ext_snocE] <;> exact rfl))) | (refine w_nil ?_) | (refine w_then ?_) | (refine w_blockN ?_) | (refine aw_skip ?_) | (refine aw_block ?_) | (apply w_condT; (next => (simp (maxSteps := 2000000) (disch := omega) only [go_sem, (encL_get zCa), ext_snocE] <;> done))))
          refine ⟨d.ca.length - (k + 1), by omega, _, _, ⟨k + 1, .own (N + 1 + 1 + 1) 0 ((uE (d.ca.take k)).length + 1), N + 1 + 1 + 1, _, N + 1000, rfl, by omega, (by rw [hs]; exact EvX.mk (by simp)), by omega, by omega, rfl, rfl⟩, ?_⟩
          refine holds_cons (by rfl) (holds_cons (by rfl) (holds_cons (by rfl) (holds_cons (by rfl) (holds_nil (by simp only []; omega) (sub_cons (by (first | rfl | (simp (disch := omega) only [go_sem, encD]; done) | (simp (disch := omega) only [go_sem, encD]; rfl))) (sub_nil))))))
        · repeat (first | (refine aw_seq ?_) | (apply w_region (by rfl); (next => (simp (maxSteps := 2000000) (disch := omega) only [go_sem, (encL_get zCa)] <;> exact rfl))) | (refine w_nil ?_) | (refine w_then ?_) | (refine w_blockN ?_) | (refine aw_skip ?_) | (refine aw_block ?_) | (apply w_condT; (next => (simp (maxSteps := 2000000) (disch := omega) only [go_sem, (encL_get zCa)] <;> done))))
          refine ⟨d.ca.length - (k + 1), by omega, _, _, ⟨k + 1, .own (N + 1 + 1 + 1) 0 1, N + 1 + 1 + 1, _, N + 1000, rfl, by omega, (by rw [hs, hnil]; exact EvX.mk rfl), by omega, by omega, rfl, rfl⟩, ?_⟩
          refine holds_cons (by rfl) (holds_cons (by rfl) (holds_cons (by rfl) (holds_cons (by rfl) (holds_nil (by simp only []; omega) (sub_cons (by (first | rfl | (simp (disch := omega) only [go_sem, encD]; done) | (simp (disch := omega) only [go_sem, encD]; rfl))) (sub_nil))))))
      · obtain rfl : k = d.ca.length := by omega
        rw [List.take_length] at hwv
        rcases hwv with ⟨rfl, rfl⟩ | ⟨rfl, rfl, hnil⟩
        · generalize uE d.ca = ul at *
          generalize orL ul = o at *
          repeat (first | (refine aw_seq ?_) | (apply w_region (by rfl); (next => (simp (maxSteps := 2000000) (disch := omega) only [go_sem, List.drop_zero, List.take_length] <;> exact rfl))) | (refine w_nil ?_) | (refine w_hold2 ?_) | (refine w_then ?_) | (refine w_thenE ?_) | (refine w_blockE ?_) | (refine aw_ret ?_) | (refine aw_exit ?_) | (apply w_end; (next => (simp (maxSteps := 2000000) (disch := omega) only [go_sem, List.drop_zero, List.take_length, Try.f37] <;> exact rfl))) | (apply w_condF; (next => (simp (maxSteps := 2000000) (disch := omega) only [go_sem, List.drop_zero, List.take_length] <;> done))) | (apply w_callX (hop := rfl) (hg := rfl) (hp := hcn); (next => (simp (maxSteps := 2000000) (disch := omega) only [go_sem, List.drop_zero, List.take_length] <;> exact rfl)); (next => (simp (maxSteps := 2000000) (disch := omega) only [go_sem, List.drop_zero, List.take_length] <;> exact rfl)); (next => (simp [noId_c, noId_agg, noId_snap, noId_tup,encD,sec_noIdE,encL_noId,encL_noIdE,encCa,encOp,encExt]; done)); (next => (simp (maxSteps := 2000000) (disch := omega) only [go_sem, List.drop_zero, List.take_length] <;> exact rfl)); (next => (simp (maxSteps := 2000000) (disch := omega) only [go_sem, List.drop_zero, List.take_length] <;> exact rfl))))
          (simp (maxSteps := 2000000) (disch := omega) only [go_sem, noId_c, noId_agg, noId_tup, noId_snap, encL_noIdE, sec_noIdE, List.drop_zero, List.take_length]; (repeat (first | exact .refl _ | exact .nil | exact wks_nil | refine wks_cons ?_ ?_ | refine wk_tup ?_ | refine wk_agg ?_)))
        · rw [hnil] at hcn ⊢
          have hcn2 : PCall Try.prog 59 [.c (.slice none 0 0)] (· = .tup [.snap (encL encExt (orL [])), zV 0]) := hcn.less (wks_cons .nil (wks_refl _))
          generalize orL [] = o at *
          repeat (first | (refine aw_seq ?_) | (apply w_region (by rfl); (next => (simp (maxSteps := 2000000) (disch := omega) only [go_sem] <;> exact rfl))) | (refine w_nil ?_) | (refine w_hold2 ?_) | (refine w_then ?_) | (refine w_thenE ?_) | (refine w_blockE ?_) | (refine aw_ret ?_) | (refine aw_exit ?_) | (apply w_end; (next => (simp (maxSteps := 2000000) (disch := omega) only [go_sem, Try.f37] <;> exact rfl))) | (apply w_condF; (next => (simp (maxSteps := 2000000) (disch := omega) only [go_sem] <;> done))) | (apply w_callP (hop := rfl) (hg := rfl) (hp := hcn2); (next => (simp (maxSteps := 2000000) (disch := omega) only [go_sem] <;> exact rfl)); (next => (simp [noId_c, noId_agg, noId_snap, noId_tup,encD,sec_noIdE,encL_noId,encL_noIdE,encCa,encOp,encExt]; done)); (next => (simp (maxSteps := 2000000) (disch := omega) only [go_sem] <;> exact rfl))))
          (simp (maxSteps := 2000000) (disch := omega) only [go_sem, noId_c, noId_agg, noId_tup, noId_snap, encL_noIdE, sec_noIdE, List.drop_zero, List.take_length]; (repeat (first | exact .refl _ | exact .nil | exact wks_nil | refine wks_cons ?_ ?_ | refine wk_tup ?_ | refine wk_agg ?_)))
  · rw [if_neg h0]
    generalize hz : checkD d = z at hch h0
    repeat (first | (refine aw_seq ?_) | (apply w_region (by rfl); (next => (simp (maxSteps := 2000000) (disch := omega) only [go_sem] <;> exact rfl))) | (refine w_nil ?_) | (refine w_hold2 ?_) | (refine w_then ?_) | (refine w_thenR ?_) | (refine aw_ret ?_) | (apply w_end; (next => (simp (maxSteps := 2000000) (disch := omega) only [go_sem, Try.f37] <;> exact rfl))) | (apply w_condT; (next => (simp (maxSteps := 2000000) (disch := omega) only [go_sem] <;> done))) | (apply w_callP (hop := rfl) (hg := rfl) (hp := hch); (next => (simp (maxSteps := 2000000) (disch := omega) only [go_sem] <;> exact rfl)); (next => (simp [noId_c, noId_agg, noId_snap, noId_tup,encD,sec_noIdE,encL_noId,encL_noIdE,encCa,encOp,encExt]; done)); (next => (simp (maxSteps := 2000000) (disch := omega) only [go_sem] <;> exact rfl))))
    (simp (maxSteps := 2000000) (disch := omega) only [go_sem, noId_c, noId_agg, noId_tup, noId_snap, encL_noIdE, sec_noIdE, List.drop_zero, List.take_length]; (repeat (first | exact .refl _ | exact .nil | exact wks_nil | refine wks_cons ?_ ?_ | refine wk_tup ?_ | refine wk_agg ?_)))

end Go.Proofs.Ytniccdnhjbnaeaa

namespace Go.Proofs.Ytniccdnhjbnaeaa
open Go.Proofs Go.AL
set_option maxRecDepth 100000
set_option maxHeartbeats 1000000
set_option linter.unusedVariables false
set_option linter.unusedSimpArgs false
attribute [local irreducible] endA AW aops thenA blockA hold
attribute [local go_sem] dec_ltT dec_ltF dec_leT dec_leF beq_T beq_F bne_T bne_F encExt encD


attribute [local go_sem] boolRow
/-- The marked places. -/
def pB (marks : List Bool) (z : Int) : Bool := decide (0 ≤ z) && marks.getD z.toNat false
theorem pB_nat (marks : List Bool) (k : Nat) : pB marks k = marks.getD k false := by simp [pB]
theorem lst_last (p : Int → Bool) (k : Nat) (h : p k = true) : ∃ (u : List (Int × Int)) (s c : Int), lst p (k + 1) = u ++ [(s, c)] ∧ 1 ≤ c ∧ c ≤ k + 1 := by
  induction k with
  | zero => exact ⟨[], 0, 1, by rw [lst.eq_2, h]; rfl, by omega, by omega⟩
  | succ k ih =>
    rw [lst.eq_2, h]
    by_cases h2 : (decide (0 < k + 1) && p (((k + 1 : Nat) : Int) - 1)) = true
    · have h3 : p k = true := by
        have := (Bool.and_eq_true _ _ ▸ h2).2
        rwa [show ((k + 1 : Nat) : Int) - 1 = k by omega] at this
      obtain ⟨u, s, c, h4, h5, h6⟩ := ih h3
      refine ⟨u, s, c + 1, ?_, by omega, by omega⟩
      rw [if_pos rfl, if_pos h2, h4, bump_app]
    · exact ⟨_, _, _, by rw [if_pos rfl, if_neg h2], by omega, by omega⟩
theorem lst_len (p : Int → Bool) : ∀ k, (lst p k).length ≤ k
  | 0 => by simp [lst]
  | k + 1 => by
    have ih := lst_len p k
    have hb : ∀ l : List (Int × Int), (bump l).length = l.length := by
      intro l
      induction l with
      | nil => rfl
      | cons x r ih => cases r with
        | nil => rfl
        | cons y r => simp only [bump, List.length_cons] at ih ⊢; omega
    rw [lst.eq_2]
    split
    · split
      · rw [hb]; omega
      · simp; omega
    · omega
theorem ext_last (u : List (Int × Int)) (s c : Int) : (encL encExt (u ++ [(s, c)]))[u.length]? = some [zV s, zV c] := by
  simp [encL, encExt]
theorem ext_set (u : List (Int × Int)) (s c x : Int) : (encL encExt (u ++ [(s, c)])).set u.length [zV s, zV x] = encL encExt (u ++ [(s, x)]) := by
  simp [encL, encExt]
def HeadLi (marks : List Bool) (n : Nat) (env : List (Nat × Bool × AV)) (H : Heap) : Prop :=
  ∃ (k : Nat) (wv : AV) (m : Nat) (mb : Option Blk) (N : Nat), n = marks.length - k ∧ k ≤ marks.length ∧ EvX wv m mb (lst (pB marks) k) ∧ m < N ∧
    env = [(4, true, zV (k : Int)), (3, true, wv), (0, true, .snap (encL boolRow marks))] ∧ H = ⟨N, tabG [(m, mb)]⟩


theorem list_p (marks : List Bool) (hL : marks.length ≤ 1000000) : PCall Try.prog 60 [.snap (encL boolRow marks)] (· = .snap (encL encExt (lst (pB marks) marks.length))) := by
  refine PCall.wk ?_ (by rw [noId_snap, encL_noIdE]; trivial)
  refine pcall Try.func60 rfl (by kernel_rfl) (by simp [Try.ntmps60]) ?_
  rw [Try.ntmps60]
  repeat (first | (refine aw_seq ?_) | (apply w_region (by rfl); (next => (simp (maxSteps := 2000000) (disch := omega) only [go_sem] <;> exact rfl))) | (refine w_nil ?_) | (refine w_then ?_) | (refine aw_block ?_))
  refine w_loop (HeadLi marks) marks.length ?_ ?_
  · refine ⟨_, _, ⟨0, _, 0, none, 1000, by omega, by omega, EvX.nil0, by omega, rfl, rfl⟩, ?_⟩
    refine holds_cons (by rfl) (holds_cons (by rfl) (holds_cons (by rfl) (holds_nil (by simp only []; omega) (sub_none (sub_nil)))))
  · rintro n env H ⟨k, wv, m, mb, N, rfl, hk, hwv, hmN, rfl, rfl⟩
    have hlen := lst_len (pB marks) k
    by_cases hkl : k < marks.length
    · have hn := lst.eq_2 (pB marks) k
      rw [pB_nat] at hn
      cases hm : marks.getD k false
      · rw [hm, if_neg (by simp)] at hn
        repeat (first | (refine aw_seq ?_) | (apply w_region (by rfl); (next => (simp (maxSteps := 2000000) (disch := omega) only [go_sem, (encL_get (f := boolRow) false), hm] <;> exact rfl))) | (refine w_nil ?_) | (refine w_then ?_) | (refine w_thenE ?_) | (refine w_blockE ?_) | (refine aw_skip ?_) | (refine aw_exit ?_) | (refine aw_block ?_) | (apply w_condT; (next => (simp (maxSteps := 2000000) (disch := omega) only [go_sem, (encL_get (f := boolRow) false), hm] <;> done))))
        refine ⟨marks.length - (k + 1), by omega, _, _, ⟨k + 1, wv, m, mb, N + 1000, rfl, by omega, (by rw [hn]; exact hwv), by omega, rfl, rfl⟩, ?_⟩
        refine holds_cons (by rfl) (holds_cons (by rfl) (holds_cons (by rfl) (holds_nil (by simp only []; omega) (sub_cons (by (first | rfl | (simp (disch := omega) only [go_sem, encD]; done) | (simp (disch := omega) only [go_sem, encD]; rfl))) (sub_nil)))))
      · rw [hm, if_pos rfl] at hn
        cases k with
        | zero =>
          have hn' : lst (pB marks) (0 + 1) = [(0, 1)] := hn
          have hn2 : lst (pB marks) (0 + 1) = lst (pB marks) 0 ++ [(((0 : Nat) : Int), 1)] := hn
          rcases hwv with ⟨rfl, rfl⟩ | ⟨rfl, rfl, hnil⟩
          · repeat (first | (refine aw_seq ?_) | (apply w_region (by rfl); (next => (simp (maxSteps := 2000000) (disch := omega) only [go_sem, (encL_get (f := boolRow) false), hm, ext_snocE] <;> exact rfl))) | (refine w_nil ?_) | (refine w_then ?_) | (refine w_blockN ?_) | (refine aw_skip ?_) | (refine aw_block ?_) | (apply w_condT; (next => (simp (maxSteps := 2000000) (disch := omega) only [go_sem, (encL_get (f := boolRow) false), hm, ext_snocE] <;> done))) | (apply w_condF; (next => (simp (maxSteps := 2000000) (disch := omega) only [go_sem, (encL_get (f := boolRow) false), hm, ext_snocE] <;> done))) | (apply w_gF (hg := rfl); (next => (simp (maxSteps := 2000000) (disch := omega) only [go_sem, (encL_get (f := boolRow) false), hm, ext_snocE] <;> exact rfl)); (next => (simp (maxSteps := 2000000) (disch := omega) only [go_sem, (encL_get (f := boolRow) false), hm, ext_snocE] <;> exact rfl)); (next => (simp (maxSteps := 2000000) (disch := omega) only [go_sem, (encL_get (f := boolRow) false), hm, ext_snocE] <;> exact rfl))))
            refine ⟨marks.length - (0 + 1), by omega, _, _, ⟨0 + 1, .own (N + 1) 0 ((lst (pB marks) 0).length + 1), N + 1, _, N + 1000, rfl, by omega, (by rw [hn2]; exact EvX.mk (by simp)), by omega, rfl, rfl⟩, ?_⟩
            refine holds_cons (by rfl) (holds_cons (by rfl) (holds_cons (by rfl) (holds_nil (by simp only []; omega) (sub_cons (by (first | rfl | (simp (disch := omega) only [go_sem, encD]; done) | (simp (disch := omega) only [go_sem, encD]; rfl))) (sub_nil)))))
          · repeat (first | (refine aw_seq ?_) | (apply w_region (by rfl); (next => (simp (maxSteps := 2000000) (disch := omega) only [go_sem, (encL_get (f := boolRow) false), hm] <;> exact rfl))) | (refine w_nil ?_) | (refine w_then ?_) | (refine w_blockN ?_) | (refine aw_skip ?_) | (refine aw_block ?_) | (apply w_condT; (next => (simp (maxSteps := 2000000) (disch := omega) only [go_sem, (encL_get (f := boolRow) false), hm] <;> done))) | (apply w_condF; (next => (simp (maxSteps := 2000000) (disch := omega) only [go_sem, (encL_get (f := boolRow) false), hm] <;> done))) | (apply w_gF (hg := rfl); (next => (simp (maxSteps := 2000000) (disch := omega) only [go_sem, (encL_get (f := boolRow) false), hm] <;> exact rfl)); (next => (simp (maxSteps := 2000000) (disch := omega) only [go_sem, (encL_get (f := boolRow) false), hm] <;> exact rfl)); (next => (simp (maxSteps := 2000000) (disch := omega) only [go_sem, (encL_get (f := boolRow) false), hm] <;> exact rfl))))
            refine ⟨marks.length - (0 + 1), by omega, _, _, ⟨0 + 1, .own (N + 1) 0 1, N + 1, _, N + 1000, rfl, by omega, (by rw [hn']; exact EvX.mk rfl), by omega, rfl, rfl⟩, ?_⟩
            refine holds_cons (by rfl) (holds_cons (by rfl) (holds_cons (by rfl) (holds_nil (by simp only []; omega) (sub_cons (by (first | rfl | (simp (disch := omega) only [go_sem, encD]; done) | (simp (disch := omega) only [go_sem, encD]; rfl))) (sub_nil)))))
        | succ j =>
          have hj : ((j + 1 : Nat) : Int) - 1 = (j : Int) := by omega
          rw [hj, pB_nat] at hn
          cases hm2 : marks.getD j false
          · rw [hm2] at hn
            have hn' : lst (pB marks) (j + 1 + 1) = lst (pB marks) (j + 1) ++ [(((j + 1 : Nat) : Int), 1)] := by rw [hn]; simp
            rcases hwv with ⟨rfl, rfl⟩ | ⟨rfl, rfl, hnil⟩
            · repeat (first | (refine aw_seq ?_) | (apply w_region (by rfl); (next => (simp (maxSteps := 2000000) (disch := omega) only [go_sem, (encL_get (f := boolRow) false), hm, hm2, hj, ext_snocE] <;> exact rfl))) | (refine w_nil ?_) | (refine w_then ?_) | (refine w_blockN ?_) | (refine aw_skip ?_) | (refine aw_block ?_) | (apply w_condT; (next => (simp (maxSteps := 2000000) (disch := omega) only [go_sem, (encL_get (f := boolRow) false), hm, hm2, hj, ext_snocE] <;> done))) | (apply w_condF; (next => (simp (maxSteps := 2000000) (disch := omega) only [go_sem, (encL_get (f := boolRow) false), hm, hm2, hj, ext_snocE] <;> done))) | (apply w_gT (hop := rfl) (hg := rfl); (next => (simp (maxSteps := 2000000) (disch := omega) only [go_sem, (encL_get (f := boolRow) false), hm, hm2, hj, ext_snocE] <;> exact rfl)); (next => (simp (maxSteps := 2000000) (disch := omega) only [go_sem, (encL_get (f := boolRow) false), hm, hm2, hj, ext_snocE] <;> exact rfl)); (next => (simp (maxSteps := 2000000) (disch := omega) only [go_sem, (encL_get (f := boolRow) false), hm, hm2, hj, ext_snocE] <;> exact rfl))))
              refine ⟨marks.length - (j + 1 + 1), by omega, _, _, ⟨j + 1 + 1, .own (N + 1) 0 ((lst (pB marks) (j + 1)).length + 1), N + 1, _, N + 1000, rfl, by omega, (by rw [hn']; exact EvX.mk (by simp)), by omega, rfl, rfl⟩, ?_⟩
              refine holds_cons (by rfl) (holds_cons (by rfl) (holds_cons (by rfl) (holds_nil (by simp only []; omega) (sub_cons (by (first | rfl | (simp (disch := omega) only [go_sem, encD]; done) | (simp (disch := omega) only [go_sem, encD]; rfl))) (sub_nil)))))
            · repeat (first | (refine aw_seq ?_) | (apply w_region (by rfl); (next => (simp (maxSteps := 2000000) (disch := omega) only [go_sem, (encL_get (f := boolRow) false), hm, hm2, hj] <;> exact rfl))) | (refine w_nil ?_) | (refine w_then ?_) | (refine w_blockN ?_) | (refine aw_skip ?_) | (refine aw_block ?_) | (apply w_condT; (next => (simp (maxSteps := 2000000) (disch := omega) only [go_sem, (encL_get (f := boolRow) false), hm, hm2, hj] <;> done))) | (apply w_condF; (next => (simp (maxSteps := 2000000) (disch := omega) only [go_sem, (encL_get (f := boolRow) false), hm, hm2, hj] <;> done))) | (apply w_gT (hop := rfl) (hg := rfl); (next => (simp (maxSteps := 2000000) (disch := omega) only [go_sem, (encL_get (f := boolRow) false), hm, hm2, hj] <;> exact rfl)); (next => (simp (maxSteps := 2000000) (disch := omega) only [go_sem, (encL_get (f := boolRow) false), hm, hm2, hj] <;> exact rfl)); (next => (simp (maxSteps := 2000000) (disch := omega) only [go_sem, (encL_get (f := boolRow) false), hm, hm2, hj] <;> exact rfl))))
              refine ⟨marks.length - (j + 1 + 1), by omega, _, _, ⟨j + 1 + 1, .own (N + 1) 0 (0 + 1), N + 1, _, N + 1000, rfl, by omega, (by rw [hn', hnil]; exact EvX.mk (by simp)), by omega, rfl, rfl⟩, ?_⟩
              refine holds_cons (by rfl) (holds_cons (by rfl) (holds_cons (by rfl) (holds_nil (by simp only []; omega) (sub_cons (by (first | rfl | (simp (disch := omega) only [go_sem, encD]; done) | (simp (disch := omega) only [go_sem, encD]; rfl))) (sub_nil)))))
          · rw [hm2] at hn
            obtain ⟨u, s, c, h4, h5, h6⟩ := lst_last (pB marks) j (by rw [pB_nat, hm2])
            rw [h4] at hwv hlen hn
            have hn' : lst (pB marks) (j + 1 + 1) = u ++ [(s, c + 1)] := by rw [hn, ← bump_app]; simp
            have hul : (u ++ [(s, c)]).length = u.length + 1 := by simp
            rw [hul] at hlen
            rcases hwv with ⟨rfl, rfl⟩ | ⟨rfl, rfl, hnil⟩
            · have hidx : ((u.length + 1 : Nat) : Int) - 1 = (u.length : Int) := by omega
              have hu2 := ext_last u s c
              have hu3 := ext_set u s c (c + 1)
              repeat (first | (refine aw_seq ?_) | (apply w_region (by rfl); (next => (simp (maxSteps := 2000000) (disch := omega) only [go_sem, (encL_get (f := boolRow) false), hm, hm2, hj, hu2, hu3, hul, hidx] <;> exact rfl))) | (refine w_nil ?_) | (refine w_then ?_) | (refine w_blockN ?_) | (refine aw_skip ?_) | (refine aw_block ?_) | (apply w_condT; (next => (simp (maxSteps := 2000000) (disch := omega) only [go_sem, (encL_get (f := boolRow) false), hm, hm2, hj, hu2, hu3, hul, hidx] <;> done))) | (apply w_condF; (next => (simp (maxSteps := 2000000) (disch := omega) only [go_sem, (encL_get (f := boolRow) false), hm, hm2, hj, hu2, hu3, hul, hidx] <;> done))) | (apply w_gT (hop := rfl) (hg := rfl); (next => (simp (maxSteps := 2000000) (disch := omega) only [go_sem, (encL_get (f := boolRow) false), hm, hm2, hj, hu2, hu3, hul, hidx] <;> exact rfl)); (next => (simp (maxSteps := 2000000) (disch := omega) only [go_sem, (encL_get (f := boolRow) false), hm, hm2, hj, hu2, hu3, hul, hidx] <;> exact rfl)); (next => (simp (maxSteps := 2000000) (disch := omega) only [go_sem, (encL_get (f := boolRow) false), hm, hm2, hj, hu2, hu3, hul, hidx] <;> exact rfl))))
              refine ⟨marks.length - (j + 1 + 1), by omega, _, _, ⟨j + 1 + 1, .own m 0 (u.length + 1), m, _, N + 1000, rfl, by omega, (by rw [hn']; exact EvX.mk (by simp)), by omega, rfl, rfl⟩, ?_⟩
              refine holds_cons (by rfl) (holds_cons (by rfl) (holds_cons (by rfl) (holds_nil (by simp only []; omega) (sub_cons (by (first | rfl | (simp (disch := omega) only [go_sem, encD]; done) | (simp (disch := omega) only [go_sem, encD]; rfl))) (sub_nil)))))
            · simp at hnil
    · obtain rfl : k = marks.length := by omega
      generalize lst (pB marks) marks.length = o at *
      rcases hwv with ⟨rfl, rfl⟩ | ⟨rfl, rfl, hnil⟩
      · repeat (first | (refine aw_seq ?_) | (apply w_region (by rfl); (next => (simp (maxSteps := 2000000) (disch := omega) only [go_sem] <;> exact rfl))) | (refine w_nil ?_) | (refine w_hold2 ?_) | (refine w_then ?_) | (refine w_thenE ?_) | (refine w_blockE ?_) | (refine aw_ret ?_) | (refine aw_exit ?_) | (apply w_end; (next => (simp (maxSteps := 2000000) (disch := omega) only [go_sem, Try.f60] <;> exact rfl))) | (apply w_condF; (next => (simp (maxSteps := 2000000) (disch := omega) only [go_sem] <;> done))))
        (simp (maxSteps := 2000000) (disch := omega) only [go_sem, noId_c, noId_agg, noId_tup, noId_snap, encL_noIdE, sec_noIdE, List.drop_zero, List.take_length]; (repeat (first | exact .refl _ | exact .nil | exact wks_nil | refine wks_cons ?_ ?_ | refine wk_tup ?_ | refine wk_agg ?_)))
      · subst hnil
        repeat (first | (refine aw_seq ?_) | (apply w_region (by rfl); (next => (simp (maxSteps := 2000000) (disch := omega) only [go_sem] <;> exact rfl))) | (refine w_nil ?_) | (refine w_hold2 ?_) | (refine w_then ?_) | (refine w_thenE ?_) | (refine w_blockE ?_) | (refine aw_ret ?_) | (refine aw_exit ?_) | (apply w_end; (next => (simp (maxSteps := 2000000) (disch := omega) only [go_sem, Try.f60] <;> exact rfl))) | (apply w_condF; (next => (simp (maxSteps := 2000000) (disch := omega) only [go_sem] <;> done))))
        (simp (maxSteps := 2000000) (disch := omega) only [go_sem, noId_c, noId_agg, noId_tup, noId_snap, encL_noIdE, sec_noIdE, List.drop_zero, List.take_length]; (repeat (first | exact .refl _ | exact .nil | exact wks_nil | refine wks_cons ?_ ?_ | refine wk_tup ?_ | refine wk_agg ?_)))

end Go.Proofs.Ytniccdnhjbnaeaa

namespace Go.Proofs.Ytniccdnhjbnaeaa
open Go.Proofs Go.AL
set_option maxRecDepth 100000
set_option maxHeartbeats 1000000
set_option linter.unusedVariables false
set_option linter.unusedSimpArgs false
attribute [local irreducible] endA AW aops thenA blockA hold
attribute [local go_sem] dec_ltT dec_ltF dec_leT dec_leF beq_T beq_F bne_T bne_F encExt encD


attribute [local go_sem] boolRow
theorem lst_congr {p q : Int → Bool} : ∀ k : Nat, (∀ z : Nat, z < k → p z = q z) → lst p k = lst q k
  | 0, _ => rfl
  | k + 1, h => by
    rw [lst.eq_2, lst.eq_2, lst_congr k fun z hz => h z (by omega), h k (by omega)]
    by_cases hk : 0 < k
    · rw [show (k : Int) - 1 = ((k - 1 : Nat) : Int) by omega, h (k - 1) (by omega)]
    · simp [hk]
def marksTo (d : Dsk) (k : Nat) : List Bool := (d.ca.take k).foldl (fun o c => o.set c.1.toNat true) (List.replicate d.st.length false)
theorem marks_key : ∀ (l : List (Int × Sec)) (o : List Bool) (z : Nat), z < o.length → (l.foldl (fun o c => o.set c.1.toNat true) o).length = o.length ∧ (l.foldl (fun o c => o.set c.1.toNat true) o).getD z false = (o.getD z false || l.any fun c => c.1.toNat == z)
  | [], o, z, hz => by simp
  | c :: r, o, z, hz => by
    obtain ⟨h1, h2⟩ := marks_key r (o.set c.1.toNat true) z (by simpa using hz)
    rw [List.foldl_cons, h2, List.any_cons]
    refine ⟨by rw [h1]; simp, ?_⟩
    by_cases hc : c.1.toNat = z
    · subst hc
      have : (o.set c.1.toNat true).getD c.1.toNat false = true := by simp [hz]
      rw [this]; simp
    · have : (o.set c.1.toNat true).getD z false = o.getD z false := by
        simp [List.getD_eq_getElem?_getD, List.getElem?_set_ne hc]
      rw [this]
      have h3 : (c.1.toNat == z) = false := by simpa using hc
      rw [h3, Bool.false_or]
theorem marksTo_len (d : Dsk) (k : Nat) : (marksTo d k).length = d.st.length := by
  have key : ∀ (l : List (Int × Sec)) (o : List Bool), (l.foldl (fun o c => o.set c.1.toNat true) o).length = o.length := by
    intro l
    induction l with
    | nil => intro o; rfl
    | cons x r ih => intro o; rw [List.foldl_cons, ih, List.length_set]
  unfold marksTo
  rw [key]; simp
theorem marksTo_0 (d : Dsk) : marksTo d 0 = List.replicate d.st.length false := by simp [marksTo]
theorem marksTo_succ {d : Dsk} {k : Nat} (h : k < d.ca.length) : (marksTo d k).set (d.ca.getD k zCa).1.toNat true = marksTo d (k + 1) := by
  unfold marksTo
  rw [List.take_succ_eq_append_getElem h, List.foldl_append]
  simp [h]
theorem inE_one (z c : Int) (h0 : 0 ≤ c) (h1 : c < 4096) : inE z (c, 1) = decide (z = c) := by
  have h : wIn (c, 1) = (c, c + 1, true) := by
    unfold wIn wFrom wTo
    simp only []
    rw [if_neg (by omega), if_neg (by omega)]
    by_cases h2 : c < 0 ∨ 1 < 4096 - c
    · rw [if_pos h2, if_neg (by omega)]
      simp; omega
    · rw [if_neg h2, show (4096 : Int) = c + 1 by omega]
      simp; omega
  unfold inE
  rw [h]
  simp only [Bool.true_and]
  by_cases hz : z = c
  · subst hz; simp; omega
  · simp [hz]; intros; omega
/-- The marks give what is not synced. -/
theorem uns_marks {d : Dsk} (hin : inAll d) (h4 : d.st.length ≤ 4096) : lst (pB (marksTo d d.ca.length)) d.st.length = orL (uE d.ca) := by
  have hp : ∀ z : Nat, z < d.st.length → pB (marksTo d d.ca.length) z = setP (fun x y => x || y) (uE d.ca) [] z := fun z hz => by
    rw [pB_nat]
    unfold marksTo
    rw [List.take_length, (marks_key d.ca (List.replicate d.st.length false) z (by simpa using hz)).2]
    have h1 : (List.replicate d.st.length false).getD z false = false := by simp [List.getD_eq_getElem?_getD, List.getElem?_replicate, hz]
    rw [h1, Bool.false_or]
    unfold setP uE
    show _ = ((List.map (fun c => (c.1, 1)) d.ca).any (inE (z : Int)) || false)
    rw [List.any_map, Bool.or_false]
    have key : ∀ l : List (Int × Sec), (∀ c ∈ l, 0 ≤ c.1 ∧ c.1 < 4096) → (l.any fun c => c.1.toNat == z) = l.any ((inE (z : Int)) ∘ fun c => (c.1, 1)) := by
      intro l
      induction l with
      | nil => intro _; rfl
      | cons x r ih =>
        intro h
        obtain ⟨h2, h3⟩ := h x (by simp)
        rw [List.any_cons, List.any_cons, ih fun c hc => h c (List.mem_cons_of_mem _ hc)]
        congr 1
        show _ = inE (z : Int) (x.1, 1)
        rw [inE_one _ _ h2 h3]
        by_cases hz : x.1.toNat = z
        · rw [decide_eq_true (by omega)]; simpa using hz
        · rw [decide_eq_false (by omega)]; simpa using hz
    exact key _ fun c hc => by have := hin c hc; omega
  unfold orL
  rw [lst_congr _ hp]
  have := lst_gap (setP (fun x y => x || y) (uE d.ca) []) d.st.length (4097 - d.st.length) fun z h1 h2 => by
    unfold setP uE
    show ((List.map (fun c => (c.1, 1)) d.ca).any (inE (z : Int)) || false) = false
    rw [List.any_map, Bool.or_false, List.any_eq_false]
    intro c hc
    have := hin c hc
    show ¬ inE (z : Int) (c.1, 1) = true
    rw [inE_one _ _ this.1 (by omega)]
    simp; omega
  rw [← this]
  congr 1
  omega
def HeadMk (d : Dsk) (n : Nat) (env : List (Nat × Bool × AV)) (H : Heap) : Prop :=
  ∃ (k N : Nat), n = d.ca.length - k ∧ k ≤ d.ca.length ∧ 1 < N ∧ env = [(4, true, zV (k : Int)), (3, true, .own 1 0 d.st.length), (1, true, .ptr 0 0 0)] ∧
    H = ⟨N, tabG [(0, some (.cells 25 2 [encD d] true false)), (1, some (.cells 4 1 (encL boolRow (marksTo d k)) true true))]⟩


theorem runsynced_p (d : Dsk) (hL : d.st.length ≤ 1000000) (hC : d.ca.length ≤ 400000) : PCall Try.prog 38 [.agg (encD d)] (· = .snap (encL encExt (unsS d))) := by
  refine PCall.wk ?_ (by rw [noId_snap, encL_noIdE]; trivial)
  refine pcall Try.func38 rfl (by kernel_rfl) (by simp [Try.ntmps38]) ?_
  rw [Try.ntmps38]
  have hch := rcheck_p d hL (by omega)
  unfold unsS
  by_cases h0 : checkD d = 0
  · rw [h0] at hch
    obtain ⟨hin, h4⟩ := inAll_of h0
    have hum := uns_marks hin h4
    rw [if_pos h0]
    repeat (first | (refine aw_seq ?_) | (apply w_region (by rfl); (next => (simp (maxSteps := 2000000) (disch := omega) only [go_sem] <;> exact rfl))) | (refine w_nil ?_) | (refine w_then ?_) | (refine aw_skip ?_) | (refine aw_block ?_) | (apply w_condF; (next => (simp (maxSteps := 2000000) (disch := omega) only [go_sem] <;> done))) | (apply w_callP (hop := rfl) (hg := rfl) (hp := hch); (next => (simp (maxSteps := 2000000) (disch := omega) only [go_sem] <;> exact rfl)); (next => (simp [noId_c, noId_agg, noId_snap, noId_tup,encD,sec_noIdE,encL_noId,encL_noIdE,encCa,encOp,encExt]; done)); (next => (simp (maxSteps := 2000000) (disch := omega) only [go_sem] <;> exact rfl))))
    refine w_loop (HeadMk d) d.ca.length ?_ ?_
    · refine ⟨_, _, ⟨0, 1000, by omega, by omega, by omega, rfl, rfl⟩, ?_⟩
      rw [marksTo_0, ← bools_repl]
      refine holds_cons (by rfl) (holds_cons (by rfl) (holds_cons (by rfl) (holds_nil (by simp only []; omega) (sub_cons (by (first | rfl | (simp (disch := omega) only [go_sem, encD]; done) | (simp (disch := omega) only [go_sem, encD]; rfl))) (sub_cons (by (first | rfl | (simp (disch := omega) only [go_sem, encD]; done) | (simp (disch := omega) only [go_sem, encD]; rfl))) (sub_nil))))))
    · rintro n env H ⟨k, N, rfl, hk, hN, rfl, rfl⟩
      have hl := marksTo_len d k
      by_cases hkl : k < d.ca.length
      · have hs := marksTo_succ hkl
        obtain ⟨hi1, hi2⟩ := inAll_at hin hkl
        repeat (first | (refine aw_seq ?_) | (apply w_region (by rfl); (next => (simp (maxSteps := 2000000) (disch := omega) only [go_sem, (encL_get zCa), (encL_get (f := boolRow) false), bools_setE, hs, hl] <;> exact rfl))) | (refine w_nil ?_) | (refine w_then ?_) | (refine w_blockN ?_) | (refine aw_skip ?_) | (refine aw_block ?_) | (apply w_condT; (next => (simp (maxSteps := 2000000) (disch := omega) only [go_sem, (encL_get zCa), (encL_get (f := boolRow) false), bools_setE, hs, hl] <;> done))))
        refine ⟨d.ca.length - (k + 1), by omega, _, _, ⟨k + 1, N + 1000, rfl, by omega, by omega, rfl, rfl⟩, ?_⟩
        refine holds_cons (by rfl) (holds_cons (by rfl) (holds_cons (by rfl) (holds_nil (by simp only []; omega) (sub_cons (by (first | rfl | (simp (disch := omega) only [go_sem, encD]; done) | (simp (disch := omega) only [go_sem, encD]; rfl))) (sub_cons (by (first | rfl | (simp (disch := omega) only [go_sem, encD]; done) | (simp (disch := omega) only [go_sem, encD]; rfl))) (sub_nil))))))
      · obtain rfl : k = d.ca.length := by omega
        have cl := list_p (marksTo d d.ca.length) (by omega)
        rw [hl, hum] at cl
        have htk : (marksTo d d.ca.length).take d.st.length = marksTo d d.ca.length := List.take_of_length_le (by omega)
        generalize orL (uE d.ca) = o at *
        generalize marksTo d d.ca.length = mk at *
        repeat (first | (refine aw_seq ?_) | (apply w_region (by rfl); (next => (simp (maxSteps := 2000000) (disch := omega) only [go_sem, List.drop_zero, hl, htk] <;> exact rfl))) | (refine w_nil ?_) | (refine w_hold2 ?_) | (refine w_then ?_) | (refine w_thenE ?_) | (refine w_blockE ?_) | (refine aw_ret ?_) | (refine aw_exit ?_) | (apply w_end; (next => (simp (maxSteps := 2000000) (disch := omega) only [go_sem, List.drop_zero, hl, htk, Try.f38] <;> exact rfl))) | (apply w_condF; (next => (simp (maxSteps := 2000000) (disch := omega) only [go_sem, List.drop_zero, hl, htk] <;> done))) | (apply w_callX (hop := rfl) (hg := rfl) (hp := cl); (next => (simp (maxSteps := 2000000) (disch := omega) only [go_sem, List.drop_zero, hl, htk] <;> exact rfl)); (next => (simp (maxSteps := 2000000) (disch := omega) only [go_sem, List.drop_zero, hl, htk] <;> exact rfl)); (next => (simp [noId_c, noId_agg, noId_snap, noId_tup,encD,sec_noIdE,encL_noId,encL_noIdE,encCa,encOp,encExt]; done)); (next => (simp (maxSteps := 2000000) (disch := omega) only [go_sem, List.drop_zero, hl, htk] <;> exact rfl)); (next => (simp (maxSteps := 2000000) (disch := omega) only [go_sem, List.drop_zero, hl, htk] <;> exact rfl))))
        (simp (maxSteps := 2000000) (disch := omega) only [go_sem, noId_c, noId_agg, noId_tup, noId_snap, encL_noIdE, sec_noIdE, List.drop_zero, List.take_length]; (repeat (first | exact .refl _ | exact .nil | exact wks_nil | refine wks_cons ?_ ?_ | refine wk_tup ?_ | refine wk_agg ?_)))
  · rw [if_neg h0]
    generalize hz : checkD d = z at hch h0
    repeat (first | (refine aw_seq ?_) | (apply w_region (by rfl); (next => (simp (maxSteps := 2000000) (disch := omega) only [go_sem] <;> exact rfl))) | (refine w_nil ?_) | (refine w_hold2 ?_) | (refine w_then ?_) | (refine w_thenR ?_) | (refine aw_ret ?_) | (apply w_end; (next => (simp (maxSteps := 2000000) (disch := omega) only [go_sem, Try.f38] <;> exact rfl))) | (apply w_condT; (next => (simp (maxSteps := 2000000) (disch := omega) only [go_sem] <;> done))) | (apply w_callP (hop := rfl) (hg := rfl) (hp := hch); (next => (simp (maxSteps := 2000000) (disch := omega) only [go_sem] <;> exact rfl)); (next => (simp [noId_c, noId_agg, noId_snap, noId_tup,encD,sec_noIdE,encL_noId,encL_noIdE,encCa,encOp,encExt]; done)); (next => (simp (maxSteps := 2000000) (disch := omega) only [go_sem] <;> exact rfl))))
    (simp (maxSteps := 2000000) (disch := omega) only [go_sem, noId_c, noId_agg, noId_tup, noId_snap, encL_noIdE, sec_noIdE, List.drop_zero, List.take_length]; (repeat (first | exact .refl _ | exact .nil | exact wks_nil | refine wks_cons ?_ ?_ | refine wk_tup ?_ | refine wk_agg ?_)))
def HeadSe (a b : List (Int × Int)) (n : Nat) (env : List (Nat × Bool × AV)) (H : Heap) : Prop :=
  ∃ (k N : Nat), n = a.length - k ∧ k ≤ a.length ∧ (∀ i, i < k → a.getD i zExt = b.getD i zExt) ∧ env = [(5, true, zV (k : Int)), (0, true, .snap (encL encExt a)), (1, true, .snap (encL encExt b))] ∧ H = ⟨N, tabG []⟩


theorem eqA_ext (d : Nat) (x y u v : Int) : eqA Try.prog (d + 2) 29 (.agg [zV x, zV y]) (.agg [zV u, zV v]) = some (decide ((x, y) = (u, v))) := by
  have h1 := eqA_int d 3 .i64 .i64 Try.underlying3 x u
  have h2 := eqA_int d 3 .i64 .i64 Try.underlying3 y v
  rw [eqA_struct Try.underlying29 stood29]
  simp only [eqFs, partA, isAggT3, szT3, List.getElem?_cons_zero, List.getElem?_cons_succ, List.drop_succ_cons, List.drop_zero, List.length_cons, Nat.reduceAdd, Nat.reduceLeDiff, if_true, reduceCtorEq, String.reduceEq, h1, h2, if_false]
  simp only [Option.some.injEq, Prod.mk.injEq]
  rw [Bool.eq_iff_iff]
  simp
theorem eqs_ext (x y u v : Int) : eqTop Try.prog 29 (.agg [zV x, zV y]) (.agg [zV u, zV v]) = some (decide ((x, y) = (u, v))) := by
  unfold eqTop
  rw [guard29, if_neg (by simp)]
  exact eqA_ext 9998 x y u v
theorem exts_eq {a b : List (Int × Int)} (hl : a.length = b.length) (h : ∀ i, i < a.length → a.getD i zExt = b.getD i zExt) : a = b :=
  List.ext_getElem hl fun i h1 h2 => by have := h i h1; simpa [h1, h2] using this
theorem sameExt_p (a b : List (Int × Int)) (hA : a.length ≤ 1000000) (hB : b.length ≤ 1000000) : PCall Try.prog 36 [.snap (encL encExt a), .snap (encL encExt b)] (· = bV (decide (a = b))) := by
  refine pcall Try.func36 rfl (by kernel_rfl) (by simp [Try.ntmps36]) ?_
  rw [Try.ntmps36]
  by_cases hl : a.length = b.length
  · repeat (first | (refine aw_seq ?_) | (apply w_region (by rfl); (next => (simp (maxSteps := 2000000) (disch := omega) only [go_sem] <;> exact rfl))) | (refine w_nil ?_) | (refine w_then ?_) | (refine aw_skip ?_) | (refine aw_block ?_) | (apply w_condF; (next => (simp (maxSteps := 2000000) (disch := omega) only [go_sem] <;> done))))
    refine w_loop (HeadSe a b) a.length ?_ ?_
    · refine ⟨_, _, ⟨0, 1000, by omega, by omega, by intro i hi; omega, rfl, rfl⟩, ?_⟩
      refine holds_cons (by rfl) (holds_cons (by rfl) (holds_cons (by rfl) (holds_nil (by simp only []; omega) (sub_nil))))
    · rintro n env H ⟨k, N, rfl, hk, he, rfl, rfl⟩
      by_cases hkl : k < a.length
      · cases hx : a.getD k zExt with
        | mk x1 x2 =>
        cases hy : b.getD k zExt with
        | mk y1 y2 =>
        have hq := eqs_ext x1 x2 y1 y2
        by_cases hxy : x1 = y1 ∧ x2 = y2
        · have hq2 : decide ((x1, x2) = (y1, y2)) = true := by simpa using hxy
          rw [hq2] at hq
          obtain ⟨rfl, rfl⟩ := hxy
          repeat (first | (refine aw_seq ?_) | (apply w_region (by rfl); (next => (simp (maxSteps := 2000000) (disch := omega) only [go_sem, (encL_get (f := encExt) zExt), hx, hy, hq] <;> exact rfl))) | (apply w_draw (by kernel_rfl) (by kernel_rfl) (by rfl); (case hr => (apply d_run; (next => (simp (maxSteps := 2000000) (disch := omega) only [go_sem, (encL_get (f := encExt) zExt), hx, hy, hq] <;> exact rfl)); exact d_nil)); (case hdyn => (simp (maxSteps := 2000000) (disch := omega) only [go_sem, nbeq_F, nbeq_T, (encL_get (f := encExt) zExt), hx, hy, hq] <;> kernel_rfl))) | (refine w_nil ?_) | (refine w_then ?_) | (refine w_blockN ?_) | (refine aw_skip ?_) | (refine aw_block ?_) | (apply w_condT; (next => (simp (maxSteps := 2000000) (disch := omega) only [go_sem, (encL_get (f := encExt) zExt), hx, hy, hq] <;> done))) | (apply w_condF; (next => (simp (maxSteps := 2000000) (disch := omega) only [go_sem, (encL_get (f := encExt) zExt), hx, hy, hq] <;> done))))
          refine ⟨a.length - (k + 1), by omega, _, _, ⟨k + 1, N + 1000, rfl, by omega, ?_, rfl, rfl⟩, ?_⟩
          · intro i hi
            by_cases hik : i = k
            · subst hik; rw [hx, hy]
            · exact he i (by omega)
          · refine holds_cons (by rfl) (holds_cons (by rfl) (holds_cons (by rfl) (holds_nil (by simp only []; omega) (sub_nil))))
        · have hne : decide (a = b) = false := by
            rw [decide_eq_false_iff_not]; rintro rfl; rw [hx] at hy; injection hy with h1 h2; exact hxy ⟨h1, h2⟩
          rw [hne]
          have hq2 : decide ((x1, x2) = (y1, y2)) = false := by simpa using hxy
          rw [hq2] at hq
          repeat (first | (refine aw_seq ?_) | (apply w_region (by rfl); (next => (simp (maxSteps := 2000000) (disch := omega) only [go_sem, (encL_get (f := encExt) zExt), hx, hy, hq] <;> exact rfl))) | (apply w_draw (by kernel_rfl) (by kernel_rfl) (by rfl); (case hr => (apply d_run; (next => (simp (maxSteps := 2000000) (disch := omega) only [go_sem, (encL_get (f := encExt) zExt), hx, hy, hq] <;> exact rfl)); exact d_nil)); (case hdyn => (simp (maxSteps := 2000000) (disch := omega) only [go_sem, nbeq_F, nbeq_T, (encL_get (f := encExt) zExt), hx, hy, hq] <;> kernel_rfl))) | (refine w_nil ?_) | (refine w_hold2 ?_) | (refine w_then ?_) | (refine w_thenR ?_) | (refine w_blockR ?_) | (refine aw_skip ?_) | (refine aw_ret ?_) | (refine aw_block ?_) | (apply w_end; (next => (simp (maxSteps := 2000000) (disch := omega) only [go_sem, (encL_get (f := encExt) zExt), hx, hy, hq, Try.f36] <;> exact rfl))) | (apply w_condT; (next => (simp (maxSteps := 2000000) (disch := omega) only [go_sem, (encL_get (f := encExt) zExt), hx, hy, hq] <;> done))))
          (simp (maxSteps := 2000000) (disch := omega) only [go_sem, noId_c, noId_agg, noId_tup, noId_snap, encL_noIdE, sec_noIdE] <;> simp [])
      · have heq : decide (a = b) = true := by
          rw [decide_eq_true_eq]; exact exts_eq hl fun i hi => he i (by omega)
        rw [heq]
        repeat (first | (refine aw_seq ?_) | (apply w_region (by rfl); (next => (simp (maxSteps := 2000000) (disch := omega) only [go_sem] <;> exact rfl))) | (refine w_nil ?_) | (refine w_hold2 ?_) | (refine w_then ?_) | (refine w_thenE ?_) | (refine w_blockE ?_) | (refine aw_ret ?_) | (refine aw_exit ?_) | (apply w_end; (next => (simp (maxSteps := 2000000) (disch := omega) only [go_sem, Try.f36] <;> exact rfl))) | (apply w_condF; (next => (simp (maxSteps := 2000000) (disch := omega) only [go_sem] <;> done))))
        (simp (maxSteps := 2000000) (disch := omega) only [go_sem, noId_c, noId_agg, noId_tup, noId_snap, encL_noIdE, sec_noIdE] <;> simp [])
  · have hne : decide (a = b) = false := by
      rw [decide_eq_false_iff_not]; rintro rfl; exact hl rfl
    rw [hne]
    repeat (first | (refine aw_seq ?_) | (apply w_region (by rfl); (next => (simp (maxSteps := 2000000) (disch := omega) only [go_sem] <;> exact rfl))) | (refine w_nil ?_) | (refine w_hold2 ?_) | (refine w_then ?_) | (refine w_thenR ?_) | (refine aw_ret ?_) | (apply w_end; (next => (simp (maxSteps := 2000000) (disch := omega) only [go_sem, Try.f36] <;> exact rfl))) | (apply w_condT; (next => (simp (maxSteps := 2000000) (disch := omega) only [go_sem] <;> done))))
    (simp (maxSteps := 2000000) (disch := omega) only [go_sem, noId_c, noId_agg, noId_tup, noId_snap, encL_noIdE, sec_noIdE] <;> simp [])

end Go.Proofs.Ytniccdnhjbnaeaa

namespace Go.Proofs.Ytniccdnhjbnaeaa
open Go.Proofs Go.AL
set_option maxRecDepth 100000
set_option maxHeartbeats 1000000
set_option linter.unusedVariables false
set_option linter.unusedSimpArgs false
attribute [local irreducible] endA AW aops thenA blockA hold
attribute [local go_sem] dec_ltT dec_ltF dec_leT dec_leF beq_T beq_F bne_T bne_F encD


theorem sort0 : Sort0Said := ⟨by kernel_rfl, fun L W vs hL hvs => by
  obtain ⟨v1, v2, rfl⟩ : ∃ v1 v2, vs = [v1, v2] := by
    match vs, hvs.1 with
    | [v1, v2], _ => exact ⟨v1, v2, rfl⟩
  have hv1 := hvs.2 0 _ v1 rfl rfl
  have hv2 := hvs.2 1 _ v2 rfl rfl
  cases hv1
  refine (AnyF.slices_SortFunc_none (P := Try.prog) (ρ := Try.sortE_ren) { Try.sortE with } none 0 v2 W).mono ?_
  rintro e W' ⟨rfl, rfl⟩
  exact ⟨_, rfl, .tup [], L, .refl _ _, fun _ _ => rfl, fun b hb => hL b hb, .tup [] #[] rfl fun i x v h => (by cases h), noId_tup.2 fun x hx => (by cases hx), rfl⟩⟩
theorem srt0 : srtE [] = [] := List.eq_nil_of_length_eq_zero (srtE_spec []).1
theorem unionE (a b : List (Int × Int)) (ha : ∀ x ∈ a, I64e x.1 ∧ I64e x.2) (hb : ∀ x ∈ b, I64e x.1 ∧ I64e x.2) (hal : a.length ≤ 400000) (hbl : b.length ≤ 400000) :
    PCall Try.prog 69 [.snap (encL encExt a), .snap (encL encExt b)] (· = .snap (encL encExt (lst (setP (fun x y => x || y) a b) 4097))) :=
  union_p srtE srtE_spec a b hal hbl (ends_p srtE sort_a sort0 srt0 a b ha hb hal hbl fun l => (srtE_spec l).1)
theorem uns_p (d : Dsk) (hL : d.st.length ≤ 1000000) (hC : d.ca.length ≤ 400000) : PCall Try.prog 37 [.agg (encD d)] (· = .snap (encL encExt (unsS d))) :=
  unsynced_p d hL hC fun l hl hll => normalize_p l hl hll (unionE l [] (fun x hx => by have := hl x hx; unfold I64e; omega) (fun x hx => by cases hx) hll (by simp))
theorem unsS_len (d : Dsk) : (unsS d).length ≤ 4097 := by
  unfold unsS
  split
  · exact lst_len _ _
  · simp
theorem newS_bd (n : Int) : (newS n).1.st.length ≤ 4096 ∧ (newS n).1.ca.length = 0 := by
  unfold newS
  split
  · simp; omega
  · simp [Dsk.empty]
theorem syncS_bd (d : Dsk) : (syncS d).st.length ≤ d.st.length ∧ (syncS d).ca.length ≤ d.ca.length := by
  unfold syncS
  split
  · simp [newD_len]
  · exact ⟨Nat.le_refl _, Nat.le_refl _⟩

theorem law8_p (d : Dsk) (n : Int) (h1 : d.st.length ≤ 9223372036854775807) (h2 : d.ca.length ≤ 9223372036854775807) : PCall Try.prog 8 [.agg (encD d), zV n] (· = bV true) := by
  refine pcall Try.func8 rfl (by kernel_rfl) (by simp [Try.ntmps8]) ?_
  rw [Try.ntmps8]
  cases hb0 : fewD d
  · repeat (first | (refine aw_seq ?_) | (apply w_region (by rfl); (next => (simp (maxSteps := 2000000) (disch := omega) only [go_sem, hb0] <;> exact rfl))) | (refine w_nil ?_) | (refine w_hold2 ?_) | (refine w_then ?_) | (refine w_thenR ?_) | (refine aw_ret ?_) | (apply w_end; (next => (simp (maxSteps := 2000000) (disch := omega) only [go_sem, hb0, Try.f8] <;> exact rfl))) | (apply w_condT; (next => (simp (maxSteps := 2000000) (disch := omega) only [go_sem, hb0] <;> done))) | (apply w_callP (hop := rfl) (hg := rfl) (hp := (few_p d h1 h2)); (next => (simp (maxSteps := 2000000) (disch := omega) only [go_sem, hb0] <;> exact rfl)); (next => (simp [noId_c, noId_agg, noId_snap, noId_tup,encD,sec_noIdE,encL_noId,encL_noIdE,encCa,encOp,encExt]; done)); (next => (simp (maxSteps := 2000000) (disch := omega) only [go_sem, hb0] <;> exact rfl))) | (apply w_callP (hop := rfl) (hg := rfl) (hp := awake_p); (next => (simp (maxSteps := 2000000) (disch := omega) only [go_sem, hb0] <;> exact rfl)); (next => (simp [noId_c, noId_agg, noId_snap, noId_tup,encD,sec_noIdE,encL_noId,encL_noIdE,encCa,encOp,encExt]; done)); (next => (simp (maxSteps := 2000000) (disch := omega) only [go_sem, hb0] <;> exact rfl))))
    (simp (maxSteps := 2000000) (disch := omega) only [go_sem, noId_c, noId_agg, noId_tup, noId_snap, encL_noIdE, sec_noIdE, List.drop_zero, List.take_length]; (repeat (first | exact .refl _ | exact .nil | exact wks_nil | refine wks_cons ?_ ?_ | refine wk_tup ?_ | refine wk_agg ?_)))
  · have hf := fewD_out hb0
    have hn := newS_bd n
    have hs := syncS_bd d
    have hu := unsS_len d
    have c1 := new_p n
    have c2 := rnew_p n
    have c3 := same_p (newS n).1 (newS n).1 (by omega) (by omega) (by omega) (by omega)
    have c4 := check_p d (by omega) (by omega)
    have c5 := rcheck_p d (by omega) (by omega)
    have c6 := sync_p d (by omega) (by omega)
    have c7 := rsync_p d (by omega) (by omega)
    have c8 := same_p (syncS d) (syncS d) (by omega) (by omega) (by omega) (by omega)
    have c9 := uns_p d (by omega) (by omega)
    have c10 := runsynced_p d (by omega) (by omega)
    have c11 := sameExt_p (unsS d) (unsS d) (by omega) (by omega)
    have hu2 : decide (unsS d = unsS d) = true := by simp
    rw [sameD_self] at c3 c8
    rw [hu2] at c11
    generalize newS n = q at *
    generalize syncS d = r at *
    generalize unsS d = u at *
    generalize checkD d = z at *
    obtain ⟨q, e⟩ := q
    repeat (first | (refine aw_seq ?_) | (apply w_region (by rfl); (next => (simp (maxSteps := 2000000) (disch := omega) only [go_sem, hb0] <;> exact rfl))) | (apply w_draw (by kernel_rfl) (by kernel_rfl) (by rfl); (case hr => (repeat (apply d_run; (next => (simp (maxSteps := 2000000) (disch := omega) only [go_sem, hb0] <;> exact rfl)); first | exact d_nil | (apply d_callP (hop := rfl) (hg := rfl) (hp := c3); (next => (simp (maxSteps := 2000000) (disch := omega) only [go_sem, hb0] <;> exact rfl)); (next => (simp [noId_c, noId_agg, noId_snap, noId_tup,encD,sec_noIdE,encL_noId,encL_noIdE,encCa,encOp,encExt]; done))) | (apply d_callG (hop := rfl) (hg := rfl) (hp := c4); (next => (simp (maxSteps := 2000000) (disch := omega) only [go_sem, hb0] <;> exact rfl)); (next => (simp (maxSteps := 2000000) (disch := omega) only [go_sem, hb0] <;> exact rfl)); (next => (simp [noId_c, noId_agg, noId_snap, noId_tup,encD,sec_noIdE,encL_noId,encL_noIdE,encCa,encOp,encExt]; done))) | (apply d_callG (hop := rfl) (hg := rfl) (hp := c5); (next => (simp (maxSteps := 2000000) (disch := omega) only [go_sem, hb0] <;> exact rfl)); (next => (simp (maxSteps := 2000000) (disch := omega) only [go_sem, hb0] <;> exact rfl)); (next => (simp [noId_c, noId_agg, noId_snap, noId_tup,encD,sec_noIdE,encL_noId,encL_noIdE,encCa,encOp,encExt]; done))) | (apply d_callP (hop := rfl) (hg := rfl) (hp := c6); (next => (simp (maxSteps := 2000000) (disch := omega) only [go_sem, hb0] <;> exact rfl)); (next => (simp [noId_c, noId_agg, noId_snap, noId_tup,encD,sec_noIdE,encL_noId,encL_noIdE,encCa,encOp,encExt]; done))) | (apply d_callP (hop := rfl) (hg := rfl) (hp := c7); (next => (simp (maxSteps := 2000000) (disch := omega) only [go_sem, hb0] <;> exact rfl)); (next => (simp [noId_c, noId_agg, noId_snap, noId_tup,encD,sec_noIdE,encL_noId,encL_noIdE,encCa,encOp,encExt]; done))) | (apply d_callP (hop := rfl) (hg := rfl) (hp := c8); (next => (simp (maxSteps := 2000000) (disch := omega) only [go_sem, hb0] <;> exact rfl)); (next => (simp [noId_c, noId_agg, noId_snap, noId_tup,encD,sec_noIdE,encL_noId,encL_noIdE,encCa,encOp,encExt]; done))) | (apply d_callG (hop := rfl) (hg := rfl) (hp := c9); (next => (simp (maxSteps := 2000000) (disch := omega) only [go_sem, hb0] <;> exact rfl)); (next => (simp (maxSteps := 2000000) (disch := omega) only [go_sem, hb0] <;> exact rfl)); (next => (simp [noId_c, noId_agg, noId_snap, noId_tup,encD,sec_noIdE,encL_noId,encL_noIdE,encCa,encOp,encExt]; done))) | (apply d_callG (hop := rfl) (hg := rfl) (hp := c10); (next => (simp (maxSteps := 2000000) (disch := omega) only [go_sem, hb0] <;> exact rfl)); (next => (simp (maxSteps := 2000000) (disch := omega) only [go_sem, hb0] <;> exact rfl)); (next => (simp [noId_c, noId_agg, noId_snap, noId_tup,encD,sec_noIdE,encL_noId,encL_noIdE,encCa,encOp,encExt]; done))) | (apply d_callG (hop := rfl) (hg := rfl) (hp := c11); (next => (simp (maxSteps := 2000000) (disch := omega) only [go_sem, hb0] <;> exact rfl)); (next => (simp (maxSteps := 2000000) (disch := omega) only [go_sem, hb0] <;> exact rfl)); (next => (simp [noId_c, noId_agg, noId_snap, noId_tup,encD,sec_noIdE,encL_noId,encL_noIdE,encCa,encOp,encExt]; done))) | (apply d_callG (hop := rfl) (hg := rfl) (hp := awake_p); (next => (simp (maxSteps := 2000000) (disch := omega) only [go_sem, hb0] <;> exact rfl)); (next => (simp (maxSteps := 2000000) (disch := omega) only [go_sem, hb0] <;> exact rfl)); (next => (simp [noId_c, noId_agg, noId_snap, noId_tup,encD,sec_noIdE,encL_noId,encL_noIdE,encCa,encOp,encExt]; done)))))); (case hdyn => (simp (maxSteps := 2000000) (disch := omega) only [go_sem, nbeq_F, nbeq_T, hb0] <;> kernel_rfl))) | (refine w_nil ?_) | (refine w_hold2 ?_) | (refine w_then ?_) | (refine aw_skip ?_) | (refine aw_ret ?_) | (apply w_end; (next => (simp (maxSteps := 2000000) (disch := omega) only [go_sem, hb0, Try.f8] <;> exact rfl))) | (apply w_condF; (next => (simp (maxSteps := 2000000) (disch := omega) only [go_sem, hb0] <;> done))) | (apply w_callP (hop := rfl) (hg := rfl) (hp := (few_p d h1 h2)); (next => (simp (maxSteps := 2000000) (disch := omega) only [go_sem, hb0] <;> exact rfl)); (next => (simp [noId_c, noId_agg, noId_snap, noId_tup,encD,sec_noIdE,encL_noId,encL_noIdE,encCa,encOp,encExt]; done)); (next => (simp (maxSteps := 2000000) (disch := omega) only [go_sem, hb0] <;> exact rfl))) | (apply w_callP (hop := rfl) (hg := rfl) (hp := c1); (next => (simp (maxSteps := 2000000) (disch := omega) only [go_sem, hb0] <;> exact rfl)); (next => (simp [noId_c, noId_agg, noId_snap, noId_tup,encD,sec_noIdE,encL_noId,encL_noIdE,encCa,encOp,encExt]; done)); (next => (simp (maxSteps := 2000000) (disch := omega) only [go_sem, hb0] <;> exact rfl))) | (apply w_callP (hop := rfl) (hg := rfl) (hp := c2); (next => (simp (maxSteps := 2000000) (disch := omega) only [go_sem, hb0] <;> exact rfl)); (next => (simp [noId_c, noId_agg, noId_snap, noId_tup,encD,sec_noIdE,encL_noId,encL_noIdE,encCa,encOp,encExt]; done)); (next => (simp (maxSteps := 2000000) (disch := omega) only [go_sem, hb0] <;> exact rfl))))
    (simp (maxSteps := 2000000) (disch := omega) only [go_sem, noId_c, noId_agg, noId_tup, noId_snap, encL_noIdE, sec_noIdE, List.drop_zero, List.take_length]; (repeat (first | exact .refl _ | exact .nil | exact wks_nil | refine wks_cons ?_ ?_ | refine wk_tup ?_ | refine wk_agg ?_)))

end Go.Proofs.Ytniccdnhjbnaeaa
