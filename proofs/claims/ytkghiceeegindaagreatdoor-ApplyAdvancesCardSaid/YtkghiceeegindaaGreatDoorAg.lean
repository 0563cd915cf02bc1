/- Apply: contracts of its functions (Ag). No condition but those named. -/
import Derived.Test.YtkghiceeegindaaGreatDoorAf
import Derived.Shelf.SlIterI.Nil
import Derived.Shelf.SortM.Plain
import Derived.Shelf.SortM.SortNone
import Derived.Ground.GgzProg
import Derived.Ground.SlgmProg
import Derived.Test.YtkghiceeegindaaGreatDoorLc
namespace Go.Proofs.YtkghiceeegindaaGreatDoor
open Go.Proofs Go.AL
set_option maxRecDepth 100000
set_option maxHeartbeats 1000000
set_option linter.unusedVariables false
set_option linter.unusedSimpArgs false
attribute [local irreducible] endA AW aops thenA blockA hold
theorem begin_n (d : Dsk) (r : Rep) (n : Int) (hl : r.sizes.length ≤ 1000000)
    (g1 : repE r = 0) (g2 : ¬ n ≤ r.applied) (g3 : ¬ 1073741824 < n) (g4 : n = r.applying) :
    PC 28 [.agg (encD d), .agg (encR r), zV n] (.tup [.agg (encR r), .c (.slice none 0 0), zV 0]) := by
  refine pstart Tryz.func28 Tryz.ntmps28 (by simp only [go_sem, encR]) ?_
  have c1 := check_p r hl
  have c4 := cloneI_p r.sizes hl
  rw [g1] at c1
  clear g1
  obtain ⟨sz, sp, dt, ep, ap, ag⟩ := r
  simp only [] at *
  unfold encR encD at *
  subst g4
  refine zgo2 ?_
  refine zin Tryz.func47 Tryz.ntmps47 ?_
  refine zgo2 ?_
  refine zin Tryz.func82 Tryz.ntmps82 ?_
  refine zgo2 ?_
  refine zin Tryz.func83 Tryz.ntmps83 ?_
  refine zgo2 ?_
  exact zfin
theorem beginE_cases (d : Dsk) (r : Rep) (n : Int) (h : (beginE d r n).2.2 = 0) : repE r = 0 ∧ ¬ n ≤ r.applied ∧ ¬ 1073741824 < n ∧ ((n = r.applying ∧ beginE d r n = (r, [], 0)) ∨ (n ≠ r.applying ∧ r.applying = 0 ∧ (storeE d r.super (repV ⟨r.sizes, r.super, r.data, r.epoch, r.applied, n⟩)).2 = 0 ∧ beginE d r n = (⟨r.sizes, r.super, r.data, r.epoch, r.applied, n⟩, (storeE d r.super (repV ⟨r.sizes, r.super, r.data, r.epoch, r.applied, n⟩)).1, 0))) := by
  unfold beginE at h ⊢
  by_cases g1 : repE r = 0
  · rw [if_pos g1] at h ⊢
    by_cases g2 : n ≤ r.applied
    · rw [if_pos g2] at h; exact absurd h (by decide)
    rw [if_neg g2] at h ⊢
    by_cases g3 : 1073741824 < n
    · rw [if_pos g3] at h; exact absurd h (by decide)
    rw [if_neg g3] at h ⊢
    by_cases g4 : n = r.applying
    · rw [if_pos g4] at h ⊢
      exact ⟨g1, g2, g3, .inl ⟨g4, rfl⟩⟩
    rw [if_neg g4] at h ⊢
    by_cases g5 : r.applying ≠ 0
    · rw [if_pos g5] at h; exact absurd h (by decide)
    rw [if_neg g5] at h ⊢
    unfold stE at h ⊢
    split at h
    · rename_i g6
      rw [if_pos g6]
      exact ⟨g1, g2, g3, .inr ⟨g4, by omega, g6, rfl⟩⟩
    · rename_i g6
      exact absurd h g6
  · rw [if_neg g1] at h; exact absurd h g1
theorem op_appE (a b : List Opr) : encL opRow a ++ encL opRow b = encL opRow (a ++ b) := by simp [encL]
attribute [local go_sem] op_appE
theorem storeE_data (d : Dsk) (a : Int) (p : List Int) : ∀ o ∈ (storeE d a p).1, o.2.2.length ≤ 1000000 := by
  unfold storeE
  split
  · split
    · intro o ho; simp at ho
    · split
      · intro o ho; simp at ho
      · intro o ho
        simp only [List.mem_cons, List.not_mem_nil, or_false] at ho
        rcases ho with rfl | rfl <;> simp [putS]
  · intro o ho; simp at ho
theorem beginE_data (d : Dsk) (r : Rep) (n : Int) : ∀ o ∈ (beginE d r n).2.1, o.2.2.length ≤ 1000000 := by
  unfold beginE stE
  repeat' split
  all_goals first | exact storeE_data _ _ _ | (intro o ho; simp at ho)
theorem copyE_data (r : Rep) (c : Cyc) (h : ∀ w ∈ c.writes, w.2.2.length ≤ 1000000) : ∀ o ∈ (copyE r c).1, o.2.2.length ≤ 1000000 := by
  unfold copyE
  repeat' split
  all_goals first | (intro o ho; simp at ho; done) | skip
  intro o ho
  simp only [List.mem_append, List.mem_map, List.mem_cons, List.not_mem_nil, or_false] at ho
  rcases ho with ⟨w, hw, rfl⟩ | rfl
  · exact h w hw
  · simp
theorem copyE_ne (r : Rep) (c : Cyc) : (copyE r c).2 = 0 → (copyE r c).1.isEmpty = false := by
  unfold copyE
  intro h
  by_cases g1 : repE r = 0
  · rw [if_pos g1] at h ⊢
    by_cases g2 : cycE c r.sizes = 0
    · rw [if_pos g2] at h ⊢
      split
      · rename_i g3
        rw [if_pos g3] at h; exact absurd h (by decide)
      · rename_i g3
        rw [if_neg g3] at h
        split
        · rename_i g4
          rw [if_pos g4] at h; exact absurd h (by decide)
        · simp
    · rw [if_neg g2] at h; exact absurd h g2
  · rw [if_neg g1] at h; exact absurd h g1
theorem endE_len (d : Dsk) (r : Rep) : (endE d r).2.1.length ≤ 2 := by
  unfold endE
  split
  · split
    · simp
    · exact stE_len _ _
  · simp
theorem apply_p (d : Dsk) (r : Rep) (c : Cyc) (hl : r.sizes.length ≤ 1000000) (hc : CycLen c) (hs : d.st.length ≤ 1000000) (h2 : d.ca.length + (c.writes.length + 3) * 4096 ≤ 900000) (hd : DskOK d) (hw : ∀ w ∈ c.writes, ∀ s ∈ w.2.2, SecOK s) : PC 21 [.agg (encD d), .agg (encR r), .agg (encC c)] (ansV (applyE d r c)) := by
  refine pstartD Tryz.func21 Tryz.ntmps21 (by simp only [go_sem, encR]) ?_
  have c1 := begin_p d r c.number hl hs (by omega) hd.new
  have hbs : (beginE d r c.number).1.sizes.length ≤ 1000000 := by
    rcases beginE_szs d r c.number with h | h <;> rw [h]
    · exact hl
    · exact Nat.zero_le _
  have c2 := copy_p (beginE d r c.number).1 c hbs hc
  have hbl := beginE_len d r c.number
  have hkl := copyE_len (beginE d r c.number).1 c
  have hkn := copyE_ne (beginE d r c.number).1 c
  have hops : OpsOK ((beginE d r c.number).2.1 ++ (copyE (beginE d r c.number).1 c).1) := fun o ho => by
    rcases List.mem_append.1 ho with ho | ho
    · exact beginE_ops d r c.number o ho
    · exact copyE_ops _ c hw o ho
  have hol : ∀ o ∈ (beginE d r c.number).2.1 ++ (copyE (beginE d r c.number).1 c).1, o.2.2.length ≤ 1000000 := fun o ho => by
    rcases List.mem_append.1 ho with ho | ho
    · exact beginE_data d r c.number o ho
    · exact copyE_data _ c hc.2.2 o ho
  have c3 := drun_p d ((beginE d r c.number).2.1 ++ (copyE (beginE d r c.number).1 c).1) hs (by rw [List.length_append]; omega)
  have hx := runE_ok hd hops
  have c4 := end_pp (runE d ((beginE d r c.number).2.1 ++ (copyE (beginE d r c.number).1 c).1)).1 (beginE d r c.number).1 hbs (by omega) (by have := hx.2.2; rw [List.length_append] at this; omega) hx.1.new
  have hel := endE_len (runE d ((beginE d r c.number).2.1 ++ (copyE (beginE d r c.number).1 c).1)).1 (beginE d r c.number).1
  have c7 := failed_p
  unfold rep0 encR at c7
  obtain ⟨M, hM⟩ : ∃ M, applyE d r c = M := ⟨_, rfl⟩
  rw [hM]
  rw [applyE_join] at hM
  generalize endE (runE d ((beginE d r c.number).2.1 ++ (copyE (beginE d r c.number).1 c).1)).1 (beginE d r c.number).1 = E at *
  generalize runE d ((beginE d r c.number).2.1 ++ (copyE (beginE d r c.number).1 c).1) = X at *
  generalize copyE (beginE d r c.number).1 c = K at *
  have hwl : c.writes.length ≤ 220 := by omega
  clear hx hops hol hw
  by_cases g1 : (beginE d r c.number).2.2 = 0
  · obtain ⟨b1, b2, b3, hb⟩ := beginE_cases d r c.number g1
    rcases hb with ⟨b4, hB⟩ | ⟨b4, b5, b6, hB⟩
    all_goals
      rw [hB] at c2 c3 c4 hM hbl
    case' inl =>
      have t1 := begin_n d r c.number hl b1 b2 b3 b4
    case' inr =>
      have t1 := begin_t d r c.number hl hs (by omega) hd.new b1 b2 b3 b4 b5 b6
      have hB2 : (storeE d r.super (repV ⟨r.sizes, r.super, r.data, r.epoch, r.applied, c.number⟩)).1.length = 2 := storeE_len b6
      generalize (storeE d r.super (repV ⟨r.sizes, r.super, r.data, r.epoch, r.applied, c.number⟩)).1 = B2 at *
      clear b5 b6
      have hT1 : List.take (2 + K.1.length) (encL opRow (B2 ++ K.1)) = encL opRow (B2 ++ K.1) := List.take_of_length_le (by rw [encL_len, List.length_append]; omega)
      have hT3 : List.take (2 + K.1.length + E.2.1.length) (B2 ++ K.1 ++ E.2.1) = B2 ++ K.1 ++ E.2.1 := List.take_of_length_le (by rw [List.length_append, List.length_append]; omega)
      have hT2 : List.take (2 + K.1.length) (B2 ++ K.1) = B2 ++ K.1 := List.take_of_length_le (by rw [List.length_append]; omega)
    all_goals
      unfold joinE rep0 at hM
      clear c1 hd g1 hB b1 b2 b3 b4 hc
      obtain ⟨cb, cn, ct, cpos, cw⟩ := c
      obtain ⟨sz, sp, dt, ep, ap, ag⟩ := r
      obtain ⟨K1, K2⟩ := K
      obtain ⟨⟨xs, xc⟩, X2, X3⟩ := X
      obtain ⟨⟨f1, f2, f3, f4, f5, f6⟩, E2, E3⟩ := E
      obtain ⟨st, ca⟩ := d
      unfold ansV at *
      unfold encR encC encD at *
      simp only [] at *
      simp only [if_true] at hM
      by_cases g2 : K2 = 0
      · rw [if_pos g2] at hM
        subst g2
        have hk3 := hkn rfl
        clear hkn
        by_cases g3 : X3 = 0
        · rw [if_pos g3] at hM
          subst g3
          by_cases g4 : E3 = 0
          · rw [if_pos g4] at hM
            subst g4 hM
            (refine zgo2 ?_; exact zfin2)
          · rw [if_neg g4] at hM
            subst hM
            (refine zgo2 ?_; exact zfin2)
        · rw [if_neg g3] at hM
          subst hM
          (refine zgo2 ?_; exact zfin2)
      · rw [if_neg g2] at hM
        subst hM
        refine zgo2 ?_
        exact zfin2
  · unfold joinE rep0 at hM
    rw [if_neg g1] at hM
    subst hM
    clear c2 c3 c4 hc hd
    generalize beginE d r c.number = B at *
    obtain ⟨⟨f1, f2, f3, f4, f5, f6⟩, E2, E3⟩ := B
    obtain ⟨cb, cn, ct, cpos, cw⟩ := c
    unfold encR encC encD at *
    unfold ansV encR at *
    simp only [] at *
    refine zgo2 ?_
    exact zfin2
end Go.Proofs.YtkghiceeegindaaGreatDoor
namespace Go.Proofs.YtkghiceeegindaaGreatDoor
open Go.Proofs Go.AL
set_option maxRecDepth 100000
set_option maxHeartbeats 1000000
set_option linter.unusedVariables false
set_option linter.unusedSimpArgs false
attribute [local irreducible] endA AW aops thenA blockA hold
@[go_sem] theorem zeroT_fn0 : zeroT Tryz.prog 101 = some [AV.c .nilFunc] := by kernel_rfl
theorem imgchk_p (d : Dsk) (h1 : d.st.length ≤ 1000000) (h2 : d.ca.length ≤ 1000000) : FC 76 [.sptr [encD d] 0 0] (zV (dskE d)) := by
  refine FCall.ofK ?_ rfl
  refine pstart Tryz.func76 Tryz.ntmps76 (.c _) ?_
  have c1 := dcheck_p d h1 h2
  unfold encD at *
  refine zgo2 ?_
  exact zfin
def volE (d : Dsk) (r : Rep) (v : Nat) : List Sec := (readE d (placeE r v) (r.sizes.getD v 0)).1
def volsE (d : Dsk) (r : Rep) (n : Nat) : List (List Sec) := (List.range n).map (volE d r)
theorem volsE_succ (d : Dsk) (r : Rep) (n : Nat) : volsE d r n ++ [volE d r n] = volsE d r (n + 1) := by
  unfold volsE
  rw [List.range_succ, List.map_append]
  rfl
theorem volsE_len (d : Dsk) (r : Rep) (n : Nat) : (volsE d r n).length = n := by simp [volsE]
def imgE (d : Dsk) (r : Rep) : List (List Sec) × Int :=
  if repE r = 0 then
    if dskE d = 0 then
      if (d.st.length : Int) < r.data + sum r.sizes then ([], 2)
      else if r.applying ≠ 0 then ([], 12)
      else (volsE d r r.sizes.length, 0)
    else ([], dskE d)
  else ([], repE r)
theorem sum_app (a b : List Int) : sum (a ++ b) = sum a + sum b := by
  induction a with
  | nil => simp [sum]
  | cons x a ih => rw [List.cons_append, sum_cons, sum_cons, ih]; omega
theorem sum_nonneg {l : List Int} (h : ∀ x ∈ l, 1 ≤ x) : 0 ≤ sum l := by
  induction l with
  | nil => simp [sum]
  | cons x l ih =>
    have := ih fun y hy => h y (by simp [hy])
    have := h x (by simp)
    rw [sum_cons]; omega
theorem sum_take {l : List Int} {v : Nat} (h : ∀ x ∈ l, 1 ≤ x ∧ x ≤ 4096) (hv : v < l.length) : 0 ≤ sum (l.take v) ∧ sum (l.take v) + l.getD v 0 ≤ sum l ∧ 1 ≤ l.getD v 0 := by
  have e : l = l.take v ++ (l.getD v 0 :: l.drop (v + 1)) := by
    rw [List.getD_eq_getElem?_getD, List.getElem?_eq_getElem hv]
    simp
  have h1 := sum_nonneg (l := l.take v) fun x hx => (h x (List.mem_of_mem_take hx)).1
  have h2 := sum_nonneg (l := l.drop (v + 1)) fun x hx => (h x (List.mem_of_mem_drop hx)).1
  have h3 := (h _ (getD_mem' 0 hv)).1
  have h4 : sum l = sum (l.take v) + (l.getD v 0 + sum (l.drop (v + 1))) := by
    conv => lhs; rw [e]
    rw [sum_app, sum_cons]
  omega
theorem repE_ok {r : Rep} (h : repE r = 0) : layE r.sizes r.super r.data = 0 := by
  unfold repE at h
  by_cases g : layE r.sizes r.super r.data = 0
  · exact g
  · rw [if_neg g] at h; exact absurd h g
theorem placeE_in {r : Rep} {v : Nat} (h : repE r = 0) (hv : v ≤ r.sizes.length) : placeE r v = r.data + sum (r.sizes.take v) := by
  obtain ⟨y1, y2, y3, y4, y5, y6⟩ := layE_ok (repE_ok h)
  obtain ⟨z1, z2, z3⟩ := sizes_ok y1
  have h1 := sumW_eq (l := r.sizes.take v) (by rw [List.length_take]; omega) fun x hx => by
    have := z3 x (List.mem_of_mem_take hx); omega
  unfold placeE
  rw [h1.1]
  obtain ⟨_, s1, _⟩ := sum_ok y1
  have h2 := h1.2.2
  have h9 : (r.sizes.take v).length ≤ 8 := by rw [List.length_take]; omega
  exact IntWalk.i64_in _ (by omega)
theorem vol_ok {d : Dsk} {r : Rep} {v : Nat} (h : repE r = 0) (h0 : dskE d = 0) (h1 : ¬ (d.st.length : Int) < r.data + sum r.sizes) (hv : v < r.sizes.length) : (readE d (placeE r v) (r.sizes.getD v 0)).2 = 0 := by
  obtain ⟨y1, y2, y3, y4, y5, y6⟩ := layE_ok (repE_ok h)
  obtain ⟨z1, z2, z3⟩ := sizes_ok y1
  have h2 := sum_take z3 hv
  rw [placeE_in h (by omega)]
  unfold readE
  rw [if_pos h0, if_neg (by omega)]
theorem encLv_nil {l : List (List Sec)} (h : encL volRow l = []) : l = [] := by
  cases l with
  | nil => rfl
  | cons a b => simp [encL] at h
@[go_sem] theorem vol_expoD (G : Nat → Option Blk) (k : Nat) (F : List (List Sec)) : (encL volRow F).map (fun row => row.map (expoD G k)) = encL volRow F := by
  unfold encL
  rw [List.map_map]
  refine List.map_congr_left fun o _ => ?_
  cases k <;> simp [volRow, expoD]
theorem image_p (d : Dsk) (r : Rep) (hl : r.sizes.length ≤ 1000000) (h1 : d.st.length ≤ 1000000) (h2 : d.ca.length ≤ 1000000) : PC 23 [.agg (encD d), .agg (encR r)] (.tup [.snap (encL volRow (imgE d r).1), zV (imgE d r).2]) := by
  refine pstartD Tryz.func23 Tryz.ntmps23 (by simp only [go_sem]) ?_
  have c1 := check_p r hl
  have c2 := imgchk_p d h1 h2
  have c3 := end_p r hl
  have c4 := cloneI_p r.sizes hl
  obtain ⟨M, hM⟩ : ∃ M, imgE d r = M := ⟨_, rfl⟩
  rw [hM]
  unfold imgE at hM
  by_cases g1 : repE r = 0
  · rw [if_pos g1] at hM
    obtain ⟨y1, y2, y3, y4, y5, y6⟩ := layE_ok (repE_ok g1)
    obtain ⟨h5, h3, h4⟩ := sum_ok y1
    have w1 : IntKind.i64.wrap (r.data + sumW r.sizes) = r.data + sum r.sizes := by rw [h5]; exact IntWalk.i64_in _ (by omega)
    rw [w1] at c3
    by_cases g2 : dskE d = 0
    · rw [if_pos g2] at hM
      by_cases g3 : (d.st.length : Int) < r.data + sum r.sizes
      · rw [if_pos g3] at hM
        subst hM
        rw [g1] at c1
        rw [g2] at c2
        clear g1 g2 y6 y1 h5 w1
        unfold encR encD at *
        refine zgo2 ?_
        refine zin Tryz.func47 Tryz.ntmps47 ?_
        refine zgo2 ?_
        refine w_rounds 3 ?_
        refine w_round ?_
        refine zgo2 ?_
        exact zfin
      rw [if_neg g3] at hM
      by_cases g4 : r.applying ≠ 0
      · rw [if_pos g4] at hM
        subst hM
        rw [g1] at c1
        rw [g2] at c2
        clear g1 g2 y6 y1 h5 w1
        unfold encR encD at *
        refine zgo2 ?_
        refine zin Tryz.func47 Tryz.ntmps47 ?_
        refine zgo2 ?_
        refine w_rounds 3 ?_
        refine w_round ?_
        refine zgo2 ?_
        exact zfin
      rw [if_neg g4] at hM
      subst hM
      have cv := fun v (hv : v < r.sizes.length) => vol_ok g1 g2 g3 hv
      have cr := fun v => dread_p d (placeE r v) (r.sizes.getD v 0) h1 h2
      have cp := fun v hv => place_p r v hv hl
      have hg := gI r.sizes
      have hsz := (sizes_ok y1).2.1
      have hvs := volsE_succ d r
      have hvl := volsE_len d r
      have hv0 : encL volRow (volsE d r 0) = [] := rfl
      rw [g1] at c1
      rw [g2] at c2
      have g5 : r.applying = 0 := by omega
      have hvol : ∀ v, Lat ((readE d (placeE r v) (r.sizes.getD v 0)).1 = volE d r v) := fun v => ⟨rfl⟩
      clear g1 g2 y6 y1 h5 w1 g4
      generalize volsE d r = VS at *
      generalize volE d r = V at *
      have cr2 : ∀ v, v < r.sizes.length → PC 78 [.agg (encD d), .agg [zV (placeE r v), zV (r.sizes.getD v 0)]] (.tup [.snap (encL encSec (V v)), zV 0]) := fun v hv => by
        have := cr v
        rw [(hvol v).out, cv v hv] at this
        exact this
      clear cr cv hvol
      generalize placeE r = PE at *
      obtain ⟨sz, sp, dt, ep, ap, ag⟩ := r
      simp only [] at *
      subst g5
      unfold encR encD at *
      simp only [] at *
      refine zgo2 ?_
      refine zin Tryz.func47 Tryz.ntmps47 ?_
      refine zgo2 ?_
      refine w_rounds 3 ?_
      refine w_round ?_
      refine zgo2 ?_
      refine zfor (α := AV × List (Nat × Option Blk)) sz.length (fun k x => [(54, true, zV k), (53, true, zV sz.length), (52, true, .snap (encL intRow sz)), (11, true, x.1), (6, true, .ptr 4 0 0), (2, true, .ptr 0 0 0)]) (fun k x => [(0, some (.cells 25 2 [[.snap (encL encSec d.st), .snap (encL encCa d.ca)]] true false)), (4, some (.cells 105 6 [[.snap (encL intRow sz), zV sp, zV dt, zV ep, zV ap, zV 0]] true false))] ++ x.2) (fun k m x => 40 ≤ m ∧ SlOK 22 1 (encL volRow (VS k)) 40 0 m x.1 x.2) ⟨40, (.c (.slice none 0 0), []), ⟨Nat.le_refl _, .inl ⟨rfl, rfl, hv0⟩⟩, zholds⟩ (fun k m x hk hR => ?_) (fun m x hR => ?_)
      · obtain ⟨cv, T⟩ := x
        obtain ⟨hm, hS⟩ := hR
        have hgk := hg k hk
        have c8 := cr2 k hk
        have c9 := cp k (by omega)
        have h5 := hvs k
        have h6 := hvl k
        have h7 := hvl (k + 1)
        clear cr2 cp hg hvs hvl
        rcases hS with ⟨e1, e2, e3⟩ | ⟨id, hid, hidn, hidm, e1, e2⟩
        · simp only [] at e1 e2
          subst e1 e2
          have h9 : Lat (VS (k + 1) = [V k]) := ⟨by rw [← h5, encLv_nil e3]; rfl⟩
          clear e3 h5 h6 h7 hv0
          refine zgo2 ?_
          refine ⟨m + 60, ⟨.own (m + 12 + 1) 0 1, [(m + 12 + 1, some (.cells 22 1 [[.snap (encL encSec (V k))]] true true))]⟩, ⟨by omega, .inr ⟨m + 12 + 1, by omega, by omega, by omega, by rw [h9.out]; rfl, by rw [h9.out]; rfl⟩⟩, ?_⟩
          exact zholds
        · simp only [] at e1 e2
          subst e1 e2
          have h9 : Lat (VS k ++ [V k] = VS (k + 1)) := ⟨h5⟩
          have h10 : Lat ((VS (k + 1)).length = k + 1) := ⟨h7⟩
          clear h5 h7 hv0
          generalize VS k = L at *
          rw [encL_len, h6]
          refine zgo2 ?_
          refine ⟨m + 60, ⟨.own (m + 12 + 1) 0 (k + 1), [(m + 12 + 1, some (.cells 22 1 (encL volRow (L ++ [V k])) true true))]⟩, ⟨by omega, .inr ⟨m + 12 + 1, by omega, by omega, by omega, by rw [encL_len, h10.out], by rw [← h9.out]⟩⟩, ?_⟩
          exact zholds
      · obtain ⟨cv, T⟩ := x
        obtain ⟨hm, hS⟩ := hR
        have h6 := hvl sz.length
        clear cr2 cp hg hvs hvl hv0
        generalize VS sz.length = L at *
        rcases hS with ⟨e1, e2, e3⟩ | ⟨id, hid, hidn, hidm, e1, e2⟩
        · simp only [] at e1 e2
          subst e1 e2
          rw [encLv_nil e3]
          clear e3 h6
          refine zgo2 ?_
          exact zfin
        · simp only [] at e1 e2
          subst e1 e2
          rw [encL_len]
          have hT : List.take sz.length L = L := List.take_of_length_le (by omega)
          refine zgo2 ?_
          exact zfin2
    · rw [if_neg g2] at hM
      subst hM
      rw [g1] at c1
      clear g1 y6 y1 h5 w1
      unfold encR encD at *
      refine zgo2 ?_
      refine zin Tryz.func47 Tryz.ntmps47 ?_
      refine zgo2 ?_
      refine w_rounds 3 ?_
      refine w_round ?_
      refine zgo2 ?_
      exact zfin
  · rw [if_neg g1] at hM
    subst hM
    unfold encR encD at *
    refine zgo2 ?_
    refine zin Tryz.func47 Tryz.ntmps47 ?_
    refine zgo2 ?_
    refine w_rounds 3 ?_
    refine w_round ?_
    refine zgo2 ?_
    exact zfin
end Go.Proofs.YtkghiceeegindaaGreatDoor
namespace Go.Proofs.YtkghiceeegindaaGreatDoor
open Go.Proofs Go.AL
set_option maxRecDepth 100000
set_option maxHeartbeats 1000000
set_option linter.unusedVariables false
set_option linter.unusedSimpArgs false
attribute [local irreducible] endA AW aops thenA blockA hold
theorem dec1 {x n : Int} (hn : 0 < n) : (x.tmod n + n).tmod n = x % n := by
  have h0 := Int.emod_nonneg x (show n ≠ 0 by omega)
  have h1 := Int.emod_lt_of_pos x hn
  by_cases h : 0 ≤ x
  · rw [Int.tmod_eq_emod_of_nonneg h, Int.tmod_eq_emod_of_nonneg (by omega), Int.add_emod_right, Int.emod_emod_of_dvd _ (Int.dvd_refl n)]
  · have h2 := Int.tmod_eq_emod_of_nonneg (a := -x) (b := n) (by omega)
    have h3 : x.tmod n = -((-x) % n) := by rw [← h2, Int.neg_tmod]; omega
    have h4 := Int.emod_nonneg (-x) (show n ≠ 0 by omega)
    have h5 := Int.emod_lt_of_pos (-x) hn
    rw [Int.tmod_eq_emod_of_nonneg (by omega), Int.add_emod_right, h3]
    have : -((-x) % n) % n = x % n := by
      rw [Int.emod_def (-x) n, show -(-x - n * (-x / n)) = x + n * (-x / n) by omega, Int.add_mul_emod_self_left]
    exact this
theorem tm_lo {x n : Int} (hn : 0 < n) : -n < x.tmod n ∧ x.tmod n < n := by
  have h := Int.lt_tmod_of_pos x hn
  have h2 := Int.tmod_lt_of_pos x hn
  exact ⟨h, h2⟩
def decN (c : List Int) (n : Int) : Int × List Int := if c.length = 0 then (0, []) else (c.getD 0 0 % n, c.drop 1)
def versS (ca : List (Int × Sec)) (i : Int) : List Sec := (ca.filter fun c => c.1 == i).map (·.2)
def crashStep (ca : List (Int × Sec)) (s : List Sec × List Int) (i : Nat) : List Sec × List Int :=
  if (versS ca i).length = 0 then s else
    (if 0 < (decN s.2 ((versS ca i).length + 1)).1 then s.1.set i ((versS ca i).getD ((decN s.2 ((versS ca i).length + 1)).1 - 1).toNat zSec) else s.1, (decN s.2 ((versS ca i).length + 1)).2)
def crashTo (ca : List (Int × Sec)) (st : List Sec) (c : List Int) (k : Nat) : List Sec × List Int := (List.range k).foldl (crashStep ca) (st, c)
def crashS (d : Dsk) (c : List Int) : Dsk × List Int := if dskE d = 0 then (⟨(crashTo d.ca d.st c d.st.length).1, []⟩, (crashTo d.ca d.st c d.st.length).2) else (d, c)
theorem crashTo_succ (ca : List (Int × Sec)) (st : List Sec) (c : List Int) (k : Nat) : crashTo ca st c (k + 1) = crashStep ca (crashTo ca st c k) k := by
  simp [crashTo, List.range_succ]
theorem crashStep_len (ca : List (Int × Sec)) (s : List Sec × List Int) (i : Nat) : (crashStep ca s i).1.length = s.1.length := by
  unfold crashStep
  split
  · rfl
  · dsimp only
    split
    · rw [List.length_set]
    · rfl
theorem crashTo_len (ca : List (Int × Sec)) (st : List Sec) (c : List Int) : ∀ k, (crashTo ca st c k).1.length = st.length
  | 0 => rfl
  | k + 1 => by rw [crashTo_succ, crashStep_len, crashTo_len ca st c k]
theorem decN_len (c : List Int) (n : Int) : (decN c n).2.length ≤ c.length := by
  unfold decN
  split
  · simp
  · simp
theorem decN_rng (c : List Int) {n : Int} (hn : 0 < n) : 0 ≤ (decN c n).1 ∧ (decN c n).1 < n := by
  unfold decN
  split
  · exact ⟨Int.le_refl _, hn⟩
  · exact ⟨Int.emod_nonneg _ (by omega), Int.emod_lt_of_pos _ hn⟩
theorem crashStep_ch (ca : List (Int × Sec)) (s : List Sec × List Int) (i : Nat) : (crashStep ca s i).2.length ≤ s.2.length := by
  unfold crashStep
  split
  · exact Nat.le_refl _
  · exact decN_len _ _
theorem crashTo_ch (ca : List (Int × Sec)) (st : List Sec) (c : List Int) : ∀ k, (crashTo ca st c k).2.length ≤ c.length
  | 0 => Nat.le_refl _
  | k + 1 => by rw [crashTo_succ]; exact Nat.le_trans (crashStep_ch _ _ _) (crashTo_ch ca st c k)
theorem vers_len (ca : List (Int × Sec)) (i : Int) : (versS ca i).length ≤ ca.length := by
  unfold versS; rw [List.length_map]; exact List.length_filter_le _ _
theorem decide_p (c : List Int) (n : Int) (hn : 0 < n) (hn2 : n ≤ 1000000) (hL : c.length ≤ 1000000) : PC 137 [.snap (encL intRow c), zV n] (.tup [zV (decN c n).1, .snap (encL intRow (decN c n).2)]) := by
  refine pstart Tryz.func137 Tryz.ntmps137 (by simp only [go_sem]) ?_
  unfold decN
  by_cases h0 : c.length = 0
  · rw [if_pos h0]
    have h1 : (c.length : Int) = 0 := by omega
    refine zgo2 ?_
    exact zfin
  · rw [if_neg h0]
    have h1 : ¬ (c.length : Int) = 0 := by omega
    have hg := gI c 0 (by omega)
    have hb := tm_lo (x := c.getD 0 0) hn
    have h2 := dec1 (x := c.getD 0 0) hn
    have htk : (c.drop 1).take (c.length - 1) = c.drop 1 := List.take_of_length_le (by simp)
    generalize c.getD 0 0 = x at *
    obtain ⟨hb1, hb2⟩ := hb
    have hn0 : ¬ n = 0 := by omega
    have w1 : IntKind.i64.wrap (x.tmod n) = x.tmod n := IntWalk.i64_in _ (by omega)
    have w2 : IntKind.i64.wrap (x.tmod n + n) = x.tmod n + n := IntWalk.i64_in _ (by omega)
    have w3 : IntKind.i64.wrap (x % n) = x % n := by
      have := Int.emod_nonneg x (show n ≠ 0 by omega)
      have := Int.emod_lt_of_pos x hn
      exact IntWalk.i64_in _ (by omega)
    refine zgo2 ?_
    exact zfin
end Go.Proofs.YtkghiceeegindaaGreatDoor
namespace Go.Proofs.YtkghiceeegindaaGreatDoor
open Go.Proofs Go.AL Go.RowKit Go.Maps Go.Sort Go.Shelf
shelf_lay_g SlLaysZI.n7 Ggz 7 at Tryz 136 as Tryz.keysA
shelf_lay_g SlLaysZI.n6 Ggz 6 at Tryz 135 as Tryz.sortedA
shelf_lay_g SlLaysM.n5 Slgm 5 at Tryz 165 as Tryz.sortA
theorem sortsA (m : Nat) : AnyZI.SortsIn Tryz.prog Tryz.sortedA_ren Fence.wide m :=
  ⟨fun blk off cap ss W hH hblk hsz => callsIn_wide.2 (AnyM.slices_Sort_int Tryz.sortA blk off cap ss W hH hblk hsz),
   fun p cap W => callsIn_wide.2 (AnyM.slices_Sort_int_none Tryz.sortA p cap W)⟩
set_option maxHeartbeats 1000000 in
theorem sorted_w {H : Type} (Bm b nn : Nat) (D0 : DataW H) (R : Value → Option (DataW H × List MemPlace)) (w : World) (hBm : Bm < w.heap.size) (hm : w.cell? ⟨Bm, 0, none⟩ = some (.map (some b))) (hown : w.ownsMap Tryz.prog 3 R b nn D0) (hmax : Maps.size D0 ≤ maxLen) (hbytes : Maps.size D0 * 8 ≤ 140737488355328) :
    Calls Tryz.prog 135 #[.func (.func 166) #[] #[.pointer (some ⟨Bm, 0, none⟩)]] w fun e w' => ∃ (v : Value) (ss : List Int), e = .returned v ∧ ss.Perm (intKeys D0) ∧
      w'.ownsRow w.heap.size 3 1 v ss.length ((ss.mergeSort (fun x y => decide (x ≤ y))).map encZ) ∧ (v = .slice none 0 0 ↔ ss = []) ∧ Below w.heap.size w w' := by
  refine (callsIn_wide (n := 5)).1 ?_
  have hseq : SeqGives Fence.wide 2 Tryz.prog 166 #[.pointer (some ⟨Bm, 0, none⟩)] encZ (fun ss => ss.Perm (intKeys D0)) (Maps.size D0) w :=
    AnyZI.keys_gives (ρ := Tryz.keysA_ren) { Tryz.keysA with } Fence.wide _ trivial rfl (by omega) Bm b nn D0 _ hBm hm hown
  exact AnyZI.sorted_in Tryz.sortedA Fence.wide 5 trivial trivial trivial trivial rfl (by omega) (sortsA _) (enters_of Tryz.func165 (by kernel_rfl) rfl) 166 #[.pointer (some ⟨Bm, 0, none⟩)] trivial (enters_of Tryz.func166 (by kernel_rfl) rfl) _ _ hmax hbytes _ hseq
end Go.Proofs.YtkghiceeegindaaGreatDoor
namespace Go.Proofs.YtkghiceeegindaaGreatDoor
open Go.Proofs Go.AL Go.RowKit Go.Maps
open Go.WideElems (Fit rd rg pl)
set_option linter.unusedVariables false
set_option linter.unusedSimpArgs false
def keyZ (n : Int) : Value := .int .i64 n
def InI (n : Int) : Prop := -9223372036854775808 ≤ n ∧ n ≤ 9223372036854775807
theorem sorted_ownsMap {E : Env} {W : World} {es : List (Value × AV)} {ks : List Int} {b : Nat} {ms : Array MapEntry} {clock : Nat} (hb : W.heap[b]? = some (.map ms clock)) (hs : MapKept.Stamped ms clock) (hl : ms.size = es.length)
    (hc : ∀ (i : Nat) k x, es[i]? = some (k, x) → ∃ e, ms[i]? = some e ∧ e.key = k ∧ RV E W x e.val) (hks : es.map (·.1) = ks.map keyZ) (hr : ∀ n ∈ ks, InI n) (hmax : es.length ≤ 1000000) :
    ∃ D0 : DataW Unit, W.ownsMap Tryz.prog 3 (fun _ => some (.nil, [])) b es.length D0 ∧ (intKeys D0).Perm ks ∧ Maps.size D0 = ks.length := by
  have hkl : ks.length = es.length := by have := congrArg List.length hks; simpa using this.symm
  have hkeys : ms.toList.map (·.key) = ks.map keyZ := by
    rw [← hks]
    apply List.ext_getElem?
    intro i
    rw [List.getElem?_map, List.getElem?_map, Array.getElem?_toList]
    cases hi : es[i]? with
    | none =>
      have h1 : es.length ≤ i := List.getElem?_eq_none_iff.1 hi
      rw [Array.getElem?_eq_none (by omega)]; rfl
    | some p =>
      obtain ⟨e, h1, h2, _⟩ := hc i p.1 p.2 hi
      rw [h1]; simp [h2]
  have hu : Tryz.prog.underlying 3 = some (.int .i64) := by kernel_rfl
  have hread : ∀ x ∈ ms.toList, ∃ n, x.key = keyZ n ∧ rd Tryz.prog 3 (fun _ => some ((.nil : DataW Unit), [])) x = some (.int .i64 n, .nil) := fun x hx => by
    have hm : x.key ∈ ks.map keyZ := by rw [← hkeys]; exact List.mem_map.2 ⟨x, hx, rfl⟩
    obtain ⟨n, hn, hk⟩ := List.mem_map.1 hm
    have hwf : (Lit.int .i64 n).wf = true := by
      have := hr n hn
      unfold InI at this
      simp [Lit.wf]
      exact ⟨this.1, this.2⟩
    refine ⟨n, hk.symm, ?_⟩
    have := Maps.keyOf_int_mk hu hwf
    unfold rd
    rw [← hk]
    unfold keyZ
    rw [this]; rfl
  have hrg : ms.toList.map (rg Tryz.prog 3 (fun _ => some ((.nil : DataW Unit), []))) = ks.map fun n => (.int .i64 n, .nil) := by
    have h1 : ms.toList.map (rg Tryz.prog 3 (fun _ => some ((.nil : DataW Unit), []))) = (ms.toList.map (·.key)).map fun k => ((match k with | .int _ n => Lit.int .i64 n | _ => .bool false), (.nil : DataW Unit)) := by
      rw [List.map_map]
      refine List.map_congr_left fun x hx => ?_
      obtain ⟨n, h2, h3⟩ := hread x hx
      rw [Go.WideElems.rg_of h3]
      simp [h2, keyZ]
    rw [h1, hkeys, List.map_map]
    exact List.map_congr_left fun n _ => rfl
  refine ⟨.map ((ms.toList.map (rg Tryz.prog 3 (fun _ => some ((.nil : DataW Unit), [])))).foldr DataW.insert []), ⟨ms, clock, hb, ⟨by unfold maxLen; omega, hs, fun x hx => ?_⟩, by omega, rfl⟩, ?_, ?_⟩
  · obtain ⟨n, _, h⟩ := hread x hx; exact ⟨_, h⟩
  · rw [hrg]
    unfold intKeys
    refine ((Go.WideShapes.sorted_perm _).map _).trans ?_
    rw [List.map_map]
    have : (fun p : Lit × DataW Unit => Go.intOf p.1) ∘ (fun n : Int => (Lit.int .i64 n, (DataW.nil : DataW Unit))) = id := by funext n; rfl
    rw [this, List.map_id]
  · rw [hrg]
    simp [Maps.size, length_sorted]
theorem sorted_a {N : Nat} {G : Nat → Option Blk} {bid id : Nat} {w a : Bool} {es : List (Value × AV)} {ks : List Int} (hb : G bid = some (.cells 209 1 [[.omap id]] w a)) (hm : G id = some (.map es)) (hks : es.map (·.1) = ks.map keyZ) (hr : ∀ n ∈ ks, InI n) (hmax : es.length ≤ 1000000) :
    ACall Tryz.prog 135 [.fn (.func 166) [] [.ptr bid 0 0]] ⟨N, G⟩ (fun r H' => H' = ⟨N, G⟩ ∧ r = .snap (encL intRow (ks.mergeSort leI))) := by
  refine acallB (by kernel_rfl) fun E W vs hH hvs => ?_
  obtain ⟨v, rfl⟩ : ∃ v, vs = [v] := by
    match vs, hvs.1 with
    | [v], _ => exact ⟨v, rfl⟩
  have hv := hvs.2 0 _ v rfl rfl
  cases hv with
  | fn _ _ _ vf vc hl hl2 h1 h2 =>
  obtain rfl : vf = #[] := by apply Array.eq_empty_of_size_eq_zero; simpa using hl.symm
  obtain ⟨u, rfl⟩ : ∃ u, vc = #[u] := by
    obtain ⟨l⟩ := vc
    match l, hl2 with
    | [u], _ => exact ⟨u, rfl⟩
  have hu := h2 0 _ u rfl rfl
  cases hu with
  | ptr _ _ _ hU =>
  obtain ⟨_, hsz, _, ⟨cur, hcur, _, hcells⟩, _⟩ := hH.core.ok bid _ hb
  obtain ⟨mv, hmv1, hmv2⟩ := hcells 0 0 _ _ rfl rfl
  cases hmv2
  obtain ⟨_, ⟨ms, clock, hms, hst, hlen, hent⟩, _⟩ := hH.core.ok id _ hm
  obtain ⟨D0, hown, hperm, hsize⟩ := sorted_ownsMap hms hst.1 hlen hent hks hr hmax
  have hkl : ks.length = es.length := by have := congrArg List.length hks; simpa using this.symm
  have hcell : W.cell? ⟨E.ι bid, 0, none⟩ = some (.map (some (E.ι id))) := by
    rw [cell_of_row W _ 0 cur 209 (0, 0) hcur]; simpa using hmv1
  have hw := sorted_w (E.ι bid) (E.ι id) es.length D0 _ W (hH.core.inW bid hU) hcell hown (by rw [hsize]; unfold maxLen; omega) (by rw [hsize]; omega)
  simp only [Nat.zero_mul, Nat.add_zero]
  refine hw.mono fun e W' ⟨v, ss, he, hp, hrow, hnil, hbel⟩ => ?_
  have hso : ss.mergeSort leI = ks.mergeSort leI := mergeSort_of_perm_i (hp.trans hperm)
  have hsl : ss.length = (ks.mergeSort leI).length := by rw [← hso]; simp
  obtain ⟨hxl, hrow⟩ := hrow
  rcases hrow with ⟨rfl, h0⟩ | ⟨g, cap, cur', rfl, hbase, hg, hnc, hcm, hcs, hxs⟩
  · refine ⟨_, he, .snap (encL intRow (ks.mergeSort leI)), E.L, hbel, fun _ _ => rfl, fun b hb' => hH.core.lim b (Nat.le_trans hbel.size hb'), ?_, trivial, rfl⟩
    have : ks.mergeSort leI = [] := List.eq_nil_of_length_eq_zero (by omega)
    rw [this]
    exact .snap0 none 0
  · refine ⟨_, he, .snap (encL intRow (ks.mergeSort leI)), fun b => if b = g then ss.length else E.L b, hbel, fun b hb' => if_neg (by omega), fun b hb' => ?_, ?_, trivial, rfl⟩
    · have hgl : g < W'.heap.size := (Array.getElem?_eq_some_iff.1 hg).1
      simp only []
      rw [if_neg (by omega)]
      exact hH.core.lim b (Nat.le_trans hbel.size hb')
    · rw [hsl]
      refine .snap _ g 0 1 _ cap (fun i j => .int .i64 ((ks.mergeSort leI).getD i 0)) (by simp [encL]) (by omega) ?_ ?_ ?_ ?_
      · intro i row hrow
        simp only [encL, List.getElem?_map] at hrow
        cases hk : (ks.mergeSort leI)[i]? with
        | none => rw [hk] at hrow; cases hrow
        | some q => rw [hk] at hrow; injection hrow with hrow; subst hrow; rfl
      · simp [encL, hsl]
      · intro i j row x h3 h4
        simp only [encL, List.getElem?_map] at h3
        cases hk : (ks.mergeSort leI)[i]? with
        | none => rw [hk] at h3; cases h3
        | some q =>
          rw [hk] at h3
          injection h3 with h3
          subst h3
          have hj : j = 0 := by have := (List.getElem?_eq_some_iff.1 h4).1; simp [intRow] at this; exact this
          subst hj
          rw [cell_of_row W' _ _ cur' 3 (0, 0) hg]
          have h5 : (cur'.toList.take (ss.length * 1))[i]? = some (encZ q) := by rw [hxs, hso, List.getElem?_map, hk]; rfl
          have h6 : i < ss.length * 1 := by have := (List.getElem?_eq_some_iff.1 h5).1; simp at this; omega
          rw [List.getElem?_take, if_pos h6, Array.getElem?_toList] at h5
          simpa [hk] using h5
      · intro i j row x h3 h4
        simp only [encL, List.getElem?_map] at h3
        cases hk : (ks.mergeSort leI)[i]? with
        | none => rw [hk] at h3; cases h3
        | some q =>
          rw [hk] at h3
          injection h3 with h3
          subst h3
          have hj : j = 0 := by have := (List.getElem?_eq_some_iff.1 h4).1; simp [intRow] at this; exact this
          subst hj
          simp only [intRow, List.getElem?_cons_zero, Option.some.injEq] at h4
          subst h4
          have : (ks.mergeSort leI).getD i 0 = q := by simp [hk]
          rw [this]
          exact .c _ rfl
structure MapV (G : Nat → Option Blk) (N : Nat) (ca : List (Int × Sec)) (es : List (Value × AV)) (ks : List Int) (idf : Int → Nat) : Prop where
  es : es = ks.map fun q => (keyZ q, .own (idf q) 0 (versS ca q).length)
  nodup : ks.Nodup
  mem : ∀ q, q ∈ ks ↔ versS ca q ≠ []
  get : ∀ q ∈ ks, ∃ w, G (idf q) = some (.cells 96 8 (encL encSec (versS ca q)) w true)
  inj : ∀ q ∈ ks, ∀ q' ∈ ks, idf q = idf q' → q = q'
  rng : ∀ q ∈ ks, 3 ≤ idf q ∧ idf q < N
theorem sameK_z (a b : Int) : sameK (keyZ a) (keyZ b) = (a == b) := by simp [keyZ, sameK]
theorem lookM_ks {x : Int → AV} (q : Int) : ∀ ks : List Int, lookM (keyZ q) (ks.map fun k => (keyZ k, x k)) = if q ∈ ks then some (x q) else none
  | [] => rfl
  | k :: r => by
    simp only [List.map_cons, lookM, sameK_z, lookM_ks q r]
    by_cases h : k = q
    · subst h; simp
    · simp [h, Ne.symm h]
theorem putM_ks {x : Int → AV} {y : AV} (q : Int) : ∀ ks : List Int, ks.Nodup → putM (keyZ q) y (ks.map fun k => (keyZ k, x k)) = if q ∈ ks then ks.map fun k => (keyZ k, if k = q then y else x k) else (ks.map fun k => (keyZ k, x k)) ++ [(keyZ q, y)]
  | [], _ => rfl
  | k :: r, h => by
    have hr := List.nodup_cons.1 h
    simp only [List.map_cons, putM, sameK_z, putM_ks q r hr.2]
    by_cases hk : k = q
    · subst hk
      simp
      intro a ha hak
      subst hak
      exact absurd ha hr.1
    · simp only [beq_iff_eq, hk, if_false, List.mem_cons, Ne.symm hk, false_or]
      split <;> rfl
theorem keysB_ks {x : Int → AV} (ks : List Int) : keysB (.int .i64) (ks.map fun k => (keyZ k, x k)) = true := by
  simp [keysB, keyZ, isKeyB]
section
variable {G : Nat → Option Blk} {N : Nat} {ca : List (Int × Sec)} {es : List (Value × AV)} {ks : List Int} {idf : Int → Nat}
theorem MapV.start : MapV G N [] [] [] idf := ⟨rfl, List.nodup_nil, fun q => by simp [versS], fun q h => by simp at h, fun q h => by simp at h, fun q h => by simp at h⟩
theorem MapV.keys (h : MapV G N ca es ks idf) : keysB (.int .i64) es = true := by rw [h.es]; exact keysB_ks ks
theorem MapV.fst (h : MapV G N ca es ks idf) : es.map (·.1) = ks.map keyZ := by rw [h.es, List.map_map]; rfl
theorem MapV.hit (h : MapV G N ca es ks idf) {q : Int} (hq : q ∈ ks) : lookM (.int .i64 q) es = some (.own (idf q) 0 (versS ca q).length) := by rw [h.es]; exact (lookM_ks q ks).trans (if_pos hq)
theorem MapV.miss (h : MapV G N ca es ks idf) {q : Int} (hq : q ∉ ks) : lookM (.int .i64 q) es = none := by rw [h.es]; exact (lookM_ks q ks).trans (if_neg hq)
theorem vers_app (ca : List (Int × Sec)) (p : Int × Sec) (q : Int) : versS (ca ++ [p]) q = if p.1 = q then versS ca q ++ [p.2] else versS ca q := by
  unfold versS
  rw [List.filter_append, List.map_append]
  by_cases h : p.1 = q <;> simp [h]
theorem MapV.put (h : MapV G N ca es ks idf) (p : Int × Sec) {m N' : Nat} {w : Bool} {G' : Nat → Option Blk} (hm : 3 ≤ m) (hN : N ≤ m) (hm' : m < N') (hnew : G' m = some (.cells 96 8 (encL encSec (versS ca p.1 ++ [p.2])) w true))
    (hold : ∀ q ∈ ks, q ≠ p.1 → G' (idf q) = G (idf q)) : ∃ ks' idf', MapV G' N' (ca ++ [p]) (putM (.int .i64 p.1) (.own m 0 ((versS ca p.1).length + 1)) es) ks' idf' := by
  have hv : ∀ q, versS (ca ++ [p]) q = if p.1 = q then versS ca q ++ [p.2] else versS ca q := vers_app ca p
  have hput := putM_ks (x := fun q => .own (idf q) 0 (versS ca q).length) (y := .own m 0 ((versS ca p.1).length + 1)) p.1 ks h.nodup
  refine ⟨if p.1 ∈ ks then ks else ks ++ [p.1], fun q => if q = p.1 then m else idf q, ?_⟩
  have hmem : ∀ q, q ∈ (if p.1 ∈ ks then ks else ks ++ [p.1]) ↔ q ∈ ks ∨ q = p.1 := fun q => by
    split
    · rename_i hin
      exact ⟨.inl, fun h => h.elim id fun h => h ▸ hin⟩
    · simp
  have hget : ∀ q, q ∈ ks ∨ q = p.1 → q ≠ p.1 → q ∈ ks := fun q h hne => h.resolve_right hne
  refine ⟨?_, ?_, fun q => ?_, fun q hq => ?_, fun q hq q' hq' he => ?_, fun q hq => ?_⟩
  · rw [h.es]
    refine hput.trans ?_
    by_cases hin : p.1 ∈ ks
    · simp only [hin, if_true]
      refine List.map_congr_left fun q _ => ?_
      rw [hv q]
      by_cases hq : q = p.1
      · subst hq; simp
      · simp [hq, Ne.symm hq]
    · simp only [hin, if_false, List.map_append, List.map_cons, List.map_nil]
      congr 1
      · refine List.map_congr_left fun q hq => ?_
        rw [hv q]
        have : q ≠ p.1 := fun e => hin (e ▸ hq)
        simp [this, Ne.symm this]
      · rw [hv]; simp
  · split
    · exact h.nodup
    · rename_i hin
      exact List.nodup_append.2 ⟨h.nodup, by simp, fun a ha b hb => by simp at hb; subst hb; rintro rfl; exact hin ha⟩
  · rw [hmem, hv, h.mem q]
    by_cases hq : p.1 = q
    · subst hq; simp
    · simp [hq, Ne.symm hq]
  · rw [hmem] at hq
    rw [hv]
    by_cases he : q = p.1
    · subst he
      simp only [if_true]
      exact ⟨w, hnew⟩
    · simp only [he, if_false, Ne.symm he]
      rw [hold q (hget q hq he) he]
      exact h.get q (hget q hq he)
  · rw [hmem] at hq hq'
    by_cases h1 : q = p.1 <;> by_cases h2 : q' = p.1
    · rw [h1, h2]
    · simp only [h1, h2, if_true, if_false] at he
      have := h.rng q' (hget q' hq' h2)
      omega
    · simp only [h1, h2, if_true, if_false] at he
      have := h.rng q (hget q hq h1)
      omega
    · simp only [h1, h2, if_false] at he
      exact h.inj q (hget q hq h1) q' (hget q' hq' h2) he
  · rw [hmem] at hq
    by_cases h1 : q = p.1
    · simp only [h1, if_true]; omega
    · simp only [h1, if_false]
      have := h.rng q (hget q hq h1)
      omega
end
def crashK (ca : List (Int × Sec)) (s : List Sec × List Int) (q : Int) : List Sec × List Int := crashStep ca s q.toNat
def crashL (ca : List (Int × Sec)) (st : List Sec) (c : List Int) (sk : List Int) (k : Nat) : List Sec × List Int := (sk.take k).foldl (crashK ca) (st, c)
theorem crashL_succ {ca : List (Int × Sec)} {st : List Sec} {c sk : List Int} {k : Nat} (h : k < sk.length) : crashL ca st c sk (k + 1) = crashStep ca (crashL ca st c sk k) (sk.getD k 0).toNat := by
  unfold crashL
  rw [List.take_succ_eq_append_getElem h, List.foldl_append]
  simp [h, crashK]
theorem crashL_len (ca : List (Int × Sec)) (st : List Sec) (c sk : List Int) : ∀ k, k ≤ sk.length → (crashL ca st c sk k).1.length = st.length
  | 0, _ => rfl
  | k + 1, h => by rw [crashL_succ (by omega), crashStep_len, crashL_len ca st c sk k (by omega)]
theorem crashL_ch (ca : List (Int × Sec)) (st : List Sec) (c sk : List Int) : ∀ k, k ≤ sk.length → (crashL ca st c sk k).2.length ≤ c.length
  | 0, _ => Nat.le_refl _
  | k + 1, h => by rw [crashL_succ (by omega)]; exact Nat.le_trans (crashStep_ch _ _ _) (crashL_ch ca st c sk k (by omega))
theorem leI_pw (n : Nat) (p : Nat → Bool) : (((List.range n).filter p).map fun (i : Nat) => (i : Int)).Pairwise fun a b => leI a b = true := by
  rw [List.pairwise_map]
  refine List.Pairwise.filter _ ?_
  refine (List.pairwise_lt_range (n := n)).imp fun {a b} h => ?_
  simp only [leI, decide_eq_true_eq]; omega
theorem sorted_eq {ca : List (Int × Sec)} {n : Nat} {ks : List Int} (hin : ∀ c ∈ ca, 0 ≤ c.1 ∧ c.1 < (n : Int)) (hnd : ks.Nodup) (hmem : ∀ q, q ∈ ks ↔ versS ca q ≠ []) :
    ks.mergeSort leI = ((List.range n).filter fun (i : Nat) => decide (versS ca (i : Int) ≠ [])).map fun (i : Nat) => (i : Int) := by
  have hp : ks.Perm (((List.range n).filter fun (i : Nat) => decide (versS ca (i : Int) ≠ [])).map fun (i : Nat) => (i : Int)) := by
    refine (List.perm_ext_iff_of_nodup hnd ?_).2 fun q => ?_
    · exact List.pairwise_map.2 ((List.Pairwise.filter _ List.nodup_range).imp fun {a b} h h2 => h (Int.ofNat.inj h2))
    · rw [hmem]
      simp only [List.mem_map, List.mem_filter, List.mem_range, decide_eq_true_eq]
      constructor
      · intro h
        have h0 : 0 ≤ q ∧ q < (n : Int) := by
          cases hf : ca.filter (fun c => c.1 == q) with
          | nil => exact absurd (by unfold versS; rw [hf]; rfl) h
          | cons x r =>
            have hx : x ∈ ca.filter (fun c => c.1 == q) := by rw [hf]; simp
            rw [List.mem_filter] at hx
            have h1 := hin x hx.1
            have h2 : x.1 = q := by simpa using hx.2
            omega
        refine ⟨q.toNat, ⟨by omega, ?_⟩, by omega⟩
        rw [show ((q.toNat : Nat) : Int) = q by omega]; exact h
      · rintro ⟨i, ⟨_, h⟩, rfl⟩; exact h
  rw [mergeSort_of_perm_i hp]
  have tr : ∀ a b c : Int, leI a b = true → leI b c = true → leI a c = true := fun a b c h1 h2 => by simp only [leI, decide_eq_true_eq] at *; exact Int.le_trans h1 h2
  exact List.mergeSort_of_pairwise (leI_pw n _)
theorem crashL_all {ca : List (Int × Sec)} {st : List Sec} (c : List Int) {ks : List Int} (hin : ∀ c ∈ ca, 0 ≤ c.1 ∧ c.1 < (st.length : Int)) (hnd : ks.Nodup) (hmem : ∀ q, q ∈ ks ↔ versS ca q ≠ []) :
    crashL ca st c (ks.mergeSort leI) (ks.mergeSort leI).length = crashTo ca st c st.length := by
  unfold crashL crashTo
  rw [List.take_length, sorted_eq hin hnd hmem, List.foldl_map, List.foldl_filter]
  congr 1
  funext s i
  simp only [crashK, Int.toNat_natCast, decide_eq_true_eq]
  split
  · rfl
  · rename_i h
    have h0 : versS ca (i : Int) = [] := by simpa using h
    unfold crashStep
    rw [if_pos (by rw [h0]; rfl)]
theorem sort_mem {ks : List Int} {k : Nat} (h : k < (ks.mergeSort leI).length) : (ks.mergeSort leI).getD k 0 ∈ ks :=
  (List.mergeSort_perm ks leI).mem_iff.1 (getD_mem' 0 h)
theorem sort_len (ks : List Int) : (ks.mergeSort leI).length = ks.length := (List.mergeSort_perm ks leI).length_eq
theorem keys_rng {ca : List (Int × Sec)} {n : Nat} {ks : List Int} (hin : ∀ c ∈ ca, 0 ≤ c.1 ∧ c.1 < (n : Int)) (hnd : ks.Nodup) (hmem : ∀ q, q ∈ ks ↔ versS ca q ≠ []) {q : Int} (hq : q ∈ ks) : 0 ≤ q ∧ q < (n : Int) := by
  have h : q ∈ ks.mergeSort leI := (List.mergeSort_perm ks leI).mem_iff.2 hq
  rw [sorted_eq hin hnd hmem] at h
  simp only [List.mem_map, List.mem_filter, List.mem_range] at h
  obtain ⟨i, ⟨h1, _⟩, rfl⟩ := h
  omega
theorem keys_len {ca : List (Int × Sec)} {n : Nat} {ks : List Int} (hin : ∀ c ∈ ca, 0 ≤ c.1 ∧ c.1 < (n : Int)) (hnd : ks.Nodup) (hmem : ∀ q, q ∈ ks ↔ versS ca q ≠ []) : ks.length ≤ n := by
  rw [← sort_len, sorted_eq hin hnd hmem, List.length_map]
  exact Nat.le_trans (List.length_filter_le _ _) (by simp)
theorem tabG_B (l : List (Nat × Option Blk)) : tabG l = tabB (fun _ => none) l := by
  funext k
  show lookT k l = lookB (fun _ => none) k l
  induction l with
  | nil => rfl
  | cons p r ih =>
    obtain ⟨i, x⟩ := p
    simp only [lookT, lookB]
    rw [ih]
end Go.Proofs.YtkghiceeegindaaGreatDoor
