/- Apply: contracts of its functions. No condition but those named. -/
import Derived.Test.YtkghiceeegindaaGreatDoorAh
/- Applying a cycle: what is stored is in range. -/
namespace Go.Proofs.YtkghiceeegindaaGreatDoor
open Go.Proofs Go.AL
set_option maxRecDepth 100000
set_option maxHeartbeats 1000000
set_option linter.unusedVariables false
set_option linter.unusedSimpArgs false
attribute [local irreducible] endA AW aops thenA blockA hold

/-- The bytes of a disk are in range. -/
def DskOK (d : Dsk) : Prop := (∀ s ∈ d.st, SecOK s) ∧ ∀ c ∈ d.ca, SecOK c.2
def OpsOK (l : List Opr) : Prop := ∀ o ∈ l, ∀ s ∈ o.2.2, SecOK s
theorem newL_ok : ∀ (ca : List (Int × Sec)) (st : List Sec), (∀ s ∈ st, SecOK s) → (∀ c ∈ ca, SecOK c.2) → ∀ s ∈ newL st ca, SecOK s
  | [], st, h, _, s, hs => h s hs
  | c :: ca, st, h, h2, s, hs => newL_ok ca (st.set c.1.toNat c.2) (fun x hx => by
      rcases List.mem_or_eq_of_mem_set hx with hx | rfl
      · exact h x hx
      · exact h2 c (by simp)) (fun x hx => h2 x (by simp [hx])) s hs
theorem DskOK.new {d : Dsk} (h : DskOK d) : ∀ s ∈ newL d.st d.ca, SecOK s := newL_ok _ _ h.1 h.2
theorem secOK_zero : SecOK zSec := by
  refine ⟨⟨⟨by decide, by decide⟩, ⟨by decide, by decide⟩, ⟨by decide, by decide⟩, ⟨by decide, by decide⟩⟩, fun x hx => ?_⟩
  simp only [d4, zSec, List.mem_cons, List.not_mem_nil, or_false] at hx
  rcases hx with rfl | rfl | rfl | rfl <;> exact ⟨by decide, by decide⟩
theorem putC_ok : ∀ (a : Int) (l : List Sec), (∀ s ∈ l, SecOK s) → ∀ c ∈ putC a l, SecOK c.2
  | _, [], _, c, hc => by simp [putC] at hc
  | a, s :: l, h, c, hc => by
    simp only [putC, List.mem_cons] at hc
    rcases hc with rfl | hc
    · exact h s (by simp)
    · exact putC_ok (a + 1) l (fun x hx => h x (by simp [hx])) c hc
theorem runG_ok : ∀ (ops : List Opr) (d : Dsk) (i : Nat), DskOK d → OpsOK ops → DskOK (runG ops d i).1 ∧ (runG ops d i).1.st.length ≤ d.st.length ∧ (dskE d = 0 → (runG ops d i).1.ca.length ≤ d.ca.length + ops.length * 4096)
  | [], d, i, h, _ => ⟨h, Nat.le_refl _, fun _ => by simp [runG]⟩
  | o :: r, d, i, h, ho => by
    have h0 : DskOK dsk0 := ⟨fun s hs => by simp [dsk0] at hs, fun s hs => by simp [dsk0] at hs⟩
    have hr : OpsOK r := fun x hx => ho x (by simp [hx])
    have e0 : dsk0.st.length ≤ d.st.length := Nat.zero_le _
    have e1 : dskE d = 0 → dsk0.ca.length ≤ d.ca.length + (o :: r).length * 4096 := fun _ => Nat.zero_le _
    simp only [runG]
    split
    · split
      · rename_i h1 h2
        by_cases h3 : dskE d = 0
        · unfold writeE at h2 ⊢
          rw [if_pos h3] at h2 ⊢
          cases h4 : insB d o.2.1 o.2.2.length with
          | false => rw [h4, if_neg (by decide)] at h2; exact absurd h2 (by decide)
          | true =>
            rw [if_pos rfl]
            obtain ⟨q1, q2⟩ := dskE_ok h3
            obtain ⟨q3, q4⟩ := insB_ok h4
            have h5 := dskE_put h3 h4
            have ih := runG_ok r ⟨d.st, d.ca ++ putC o.2.1 o.2.2⟩ (i + 1) ⟨h.1, fun c hc => by
              rcases List.mem_append.1 hc with hc | hc
              · exact h.2 c hc
              · exact putC_ok _ _ (ho o (by simp)) c hc⟩ hr
            refine ⟨ih.1, ih.2.1, fun _ => ?_⟩
            have := ih.2.2 h5
            simp only [List.length_append, putC_len, List.length_cons] at this ⊢
            omega
        · unfold writeE at h2
          rw [if_neg h3] at h2
          exact absurd h2 h3
      · exact ⟨h0, e0, e1⟩
    · split
      · have ih := runG_ok r ⟨newL d.st d.ca, []⟩ (i + 1) ⟨h.new, fun c hc => by simp at hc⟩ hr
        refine ⟨ih.1, by have := ih.2.1; rw [newL_len] at this; exact this, fun h3 => ?_⟩
        have := ih.2.2 (dskE_len (dskE_ok h3).1 (newL_len _ _))
        simp only [List.length_nil, List.length_cons] at this ⊢
        omega
      · exact ⟨h0, e0, e1⟩
theorem runE_ok {d : Dsk} {ops : List Opr} (h : DskOK d) (ho : OpsOK ops) : DskOK (runE d ops).1 ∧ (runE d ops).1.st.length ≤ d.st.length ∧ (runE d ops).1.ca.length ≤ d.ca.length + ops.length * 4096 := by
  unfold runE
  split
  · rename_i h1
    have := runG_ok ops d 0 h ho
    exact ⟨this.1, this.2.1, this.2.2 h1⟩
  · exact ⟨⟨fun s hs => by simp [dsk0] at hs, fun s hs => by simp [dsk0] at hs⟩, Nat.zero_le _, Nat.zero_le _⟩
theorem vg_ok (n : Nat) : ∀ x ∈ vg n, ByteOK x := by
  induction n using Nat.strongRecOn with
  | ind n ih =>
    intro x hx
    by_cases h : n < 128
    · rw [vg_lt h] at hx
      simp only [List.mem_cons, List.not_mem_nil, or_false] at hx
      subst hx
      exact ⟨by omega, by omega⟩
    · rw [vg_ge h] at hx
      simp only [List.mem_cons] at hx
      rcases hx with rfl | hx
      · exact ⟨by omega, by omega⟩
      · exact ih _ (by omega) x hx
theorem repV_ok (r : Rep) : ∀ x ∈ repV r, ByteOK x := by
  intro x hx
  unfold repV vint at hx
  simp only [List.mem_append] at hx
  rcases hx with (hx | hx) | hx <;> exact vg_ok _ x hx
theorem byteOK_gb (n : Int) (i : Nat) : ByteOK (gb n i) := by
  unfold gb
  rw [IntKind.wrap_u8]
  exact ⟨by omega, by omega⟩
theorem dat_ok {p : List Int} (hp : ∀ x ∈ p, ByteOK x) (hl : p.length ≤ 31) : ∀ x ∈ dat p, ByteOK x := by
  intro x hx
  unfold dat at hx
  simp only [List.mem_cons, List.mem_append, List.mem_replicate] at hx
  rcases hx with rfl | hx | ⟨_, rfl⟩
  · exact ⟨by omega, by omega⟩
  · exact hp x hx
  · exact ⟨by decide, by decide⟩
theorem getD_ok {l : List Int} (h : ∀ x ∈ l, ByteOK x) (i : Nat) : ByteOK (l.getD i 0) := by
  by_cases hi : i < l.length
  · exact h _ (getD_mem' 0 hi)
  · rw [List.getD_eq_getElem?_getD, List.getElem?_eq_none (by omega)]
    exact ⟨by decide, by decide⟩
theorem secOf_ok (n : Int) {D : List Int} (h : ∀ x ∈ D, ByteOK x) (k : Nat) : SecOK (secOf n D k) := by
  refine ⟨⟨byteOK_gb n 0, byteOK_gb n 1, byteOK_gb n 2, byteOK_gb n 3⟩, fun x hx => ?_⟩
  simp only [d4, secOf, List.mem_cons, List.not_mem_nil, or_false] at hx
  rcases hx with rfl | rfl | rfl | rfl <;> exact getD_ok h _
theorem putS_ok (n : Int) {p : List Int} (hp : ∀ x ∈ p, ByteOK x) (hl : p.length ≤ 31) : ∀ s ∈ putS n p, SecOK s := by
  intro s hs
  have hd := dat_ok hp hl
  simp only [putS, List.mem_cons, List.not_mem_nil, or_false] at hs
  rcases hs with rfl | rfl | rfl | rfl | rfl | rfl | rfl | rfl <;> exact secOf_ok n hd _
theorem storeE_ops (d : Dsk) (a : Int) {p : List Int} (hp : ∀ x ∈ p, ByteOK x) (hl : p.length ≤ 31) : OpsOK (storeE d a p).1 := by
  unfold storeE
  split
  · split
    · intro o ho; simp at ho
    · split
      · intro o ho; simp at ho
      · intro o ho s hs
        simp only [List.mem_cons, List.not_mem_nil, or_false] at ho
        rcases ho with rfl | rfl
        · exact putS_ok _ hp hl s hs
        · simp at hs
  · intro o ho; simp at ho
theorem stE_ops (d : Dsk) (r : Rep) : OpsOK (stE d r).2.1 := by
  unfold stE
  split
  · exact storeE_ops d _ (repV_ok r) (repV_len31 r)
  · intro o ho; simp at ho
theorem opsOK_nil : OpsOK [] := fun o ho => by simp at ho
theorem beginE_ops (d : Dsk) (r : Rep) (n : Int) : OpsOK (beginE d r n).2.1 := by
  unfold beginE
  split
  · split
    · exact opsOK_nil
    · split
      · exact opsOK_nil
      · split
        · exact opsOK_nil
        · split
          · exact opsOK_nil
          · exact stE_ops _ _
  · exact opsOK_nil
theorem copyE_ops (r : Rep) (c : Cyc) (h : ∀ w ∈ c.writes, ∀ s ∈ w.2.2, SecOK s) : OpsOK (copyE r c).1 := by
  unfold copyE
  split
  · split
    · split
      · exact opsOK_nil
      · split
        · exact opsOK_nil
        · intro o ho s hs
          simp only [List.mem_append, List.mem_map, List.mem_cons, List.not_mem_nil, or_false] at ho
          rcases ho with ⟨w, hw, rfl⟩ | rfl
          · exact h w hw s hs
          · simp at hs
    · exact opsOK_nil
  · exact opsOK_nil
theorem copyE_len (r : Rep) (c : Cyc) : (copyE r c).1.length ≤ c.writes.length + 1 := by
  unfold copyE
  split
  · split
    · split
      · simp
      · split
        · simp
        · simp
    · simp
  · simp
/-- What is applied. -/
def applyE (d : Dsk) (r : Rep) (c : Cyc) : Rep × List Opr × Int :=
  if (beginE d r c.number).2.2 = 0 then
    if (copyE (beginE d r c.number).1 c).2 = 0 then
      if (runE d ((beginE d r c.number).2.1 ++ (copyE (beginE d r c.number).1 c).1)).2.2 = 0 then
        if (endE (runE d ((beginE d r c.number).2.1 ++ (copyE (beginE d r c.number).1 c).1)).1 (beginE d r c.number).1).2.2 = 0 then
          ((endE (runE d ((beginE d r c.number).2.1 ++ (copyE (beginE d r c.number).1 c).1)).1 (beginE d r c.number).1).1, ((beginE d r c.number).2.1 ++ (copyE (beginE d r c.number).1 c).1) ++ (endE (runE d ((beginE d r c.number).2.1 ++ (copyE (beginE d r c.number).1 c).1)).1 (beginE d r c.number).1).2.1, 0)
        else (rep0, [], (endE (runE d ((beginE d r c.number).2.1 ++ (copyE (beginE d r c.number).1 c).1)).1 (beginE d r c.number).1).2.2)
      else (rep0, [], (runE d ((beginE d r c.number).2.1 ++ (copyE (beginE d r c.number).1 c).1)).2.2)
    else (rep0, [], (copyE (beginE d r c.number).1 c).2)
  else (rep0, [], (beginE d r c.number).2.2)
/-- The same with the parts named. -/
def joinE (b : Rep × List Opr × Int) (k : List Opr × Int) (x : Dsk × Int × Int) (e : Rep × List Opr × Int) : Rep × List Opr × Int :=
  if b.2.2 = 0 then (if k.2 = 0 then (if x.2.2 = 0 then (if e.2.2 = 0 then (e.1, (b.2.1 ++ k.1) ++ e.2.1, 0) else (rep0, [], e.2.2)) else (rep0, [], x.2.2)) else (rep0, [], k.2)) else (rep0, [], b.2.2)
theorem applyE_join (d : Dsk) (r : Rep) (c : Cyc) : applyE d r c = joinE (beginE d r c.number) (copyE (beginE d r c.number).1 c) (runE d ((beginE d r c.number).2.1 ++ (copyE (beginE d r c.number).1 c).1)) (endE (runE d ((beginE d r c.number).2.1 ++ (copyE (beginE d r c.number).1 c).1)).1 (beginE d r c.number).1) := rfl
theorem stE_len (d : Dsk) (r : Rep) : (stE d r).2.1.length ≤ 2 := by
  unfold stE
  split
  · rename_i h; rw [storeE_len h]; exact Nat.le_refl _
  · simp
theorem beginE_len (d : Dsk) (r : Rep) (n : Int) : (beginE d r n).2.1.length ≤ 2 := by
  unfold beginE
  split
  · split
    · simp
    · split
      · simp
      · split
        · simp
        · split
          · simp
          · exact stE_len _ _
  · simp
theorem beginE_szs (d : Dsk) (r : Rep) (n : Int) : (beginE d r n).1.sizes = r.sizes ∨ (beginE d r n).1.sizes = [] := by
  unfold beginE stE rep0
  repeat' split
  all_goals first | exact .inl rfl | exact .inr rfl
end Go.Proofs.YtkghiceeegindaaGreatDoor

/- Applying a cycle. -/
namespace Go.Proofs.YtkghiceeegindaaGreatDoor
open Go.Proofs Go.AL
set_option maxRecDepth 100000
set_option maxHeartbeats 1000000
set_option linter.unusedVariables false
set_option linter.unusedSimpArgs false
attribute [local irreducible] endA AW aops thenA blockA hold

theorem begin_n (d : Dsk) (r : Rep) (n : Int) (hl : r.sizes.length ≤ 1000000)
    (g1 : repE r = 0) (g2 : ¬ n ≤ r.applied) (g3 : ¬ 1073741824 < n) (g4 : n = r.applying) :
    PC 28 [.agg (encD d), .agg (encR r), zV n] (.tup [.agg (encR r), .c (.slice none 0 0), zV 0]) := by
  refine pstart Tryz.func28 Tryz.ntmps28 (by simp only [go_sem, encR]) ?_
  have c1 := check_p r hl
  have c4 := cloneI_p r.sizes hl
  rw [g1] at c1
  clear g1
  obtain ⟨sz, sp, dt, ep, ap, ag⟩ := r
  simp only [] at *
  unfold encR encD at *
  subst g4
  refine zgo2 ?_
  refine zin Tryz.func47 Tryz.ntmps47 ?_
  refine zgo2 ?_
  refine zin Tryz.func82 Tryz.ntmps82 ?_
  refine zgo2 ?_
  refine zin Tryz.func83 Tryz.ntmps83 ?_
  refine zgo2 ?_
  exact zfin
theorem rbegin_n (d : Dsk) (r : Rep) (n : Int) (hl : r.sizes.length ≤ 1000000)
    (g1 : repE r = 0) (g2 : ¬ n ≤ r.applied) (g3 : ¬ 1073741824 < n) (g4 : n = r.applying) :
    PC 29 [.agg (encD d), .agg (encR r), zV n] (.tup [.agg (encR r), .c (.slice none 0 0), zV 0]) := by
  refine pstart Tryz.func29 Tryz.ntmps29 (by simp only [go_sem, encR]) ?_
  have c1 := rcheck_p r hl
  have c4 := copied_p r hl
  rw [g1] at c1
  clear g1
  obtain ⟨sz, sp, dt, ep, ap, ag⟩ := r
  simp only [] at *
  unfold encR encD at *
  subst g4
  refine zgo2 ?_
  exact zfin
theorem beginE_cases (d : Dsk) (r : Rep) (n : Int) (h : (beginE d r n).2.2 = 0) : repE r = 0 ∧ ¬ n ≤ r.applied ∧ ¬ 1073741824 < n ∧ ((n = r.applying ∧ beginE d r n = (r, [], 0)) ∨ (n ≠ r.applying ∧ r.applying = 0 ∧ (storeE d r.super (repV ⟨r.sizes, r.super, r.data, r.epoch, r.applied, n⟩)).2 = 0 ∧ beginE d r n = (⟨r.sizes, r.super, r.data, r.epoch, r.applied, n⟩, (storeE d r.super (repV ⟨r.sizes, r.super, r.data, r.epoch, r.applied, n⟩)).1, 0))) := by
  unfold beginE at h ⊢
  by_cases g1 : repE r = 0
  · rw [if_pos g1] at h ⊢
    by_cases g2 : n ≤ r.applied
    · rw [if_pos g2] at h; exact absurd h (by decide)
    rw [if_neg g2] at h ⊢
    by_cases g3 : 1073741824 < n
    · rw [if_pos g3] at h; exact absurd h (by decide)
    rw [if_neg g3] at h ⊢
    by_cases g4 : n = r.applying
    · rw [if_pos g4] at h ⊢
      exact ⟨g1, g2, g3, .inl ⟨g4, rfl⟩⟩
    rw [if_neg g4] at h ⊢
    by_cases g5 : r.applying ≠ 0
    · rw [if_pos g5] at h; exact absurd h (by decide)
    rw [if_neg g5] at h ⊢
    unfold stE at h ⊢
    split at h
    · rename_i g6
      rw [if_pos g6]
      exact ⟨g1, g2, g3, .inr ⟨g4, by omega, g6, rfl⟩⟩
    · rename_i g6
      exact absurd h g6
  · rw [if_neg g1] at h; exact absurd h g1
theorem op_appE (a b : List Opr) : encL opRow a ++ encL opRow b = encL opRow (a ++ b) := by simp [encL]
attribute [local go_sem] op_appE
theorem storeE_data (d : Dsk) (a : Int) (p : List Int) : ∀ o ∈ (storeE d a p).1, o.2.2.length ≤ 1000000 := by
  unfold storeE
  split
  · split
    · intro o ho; simp at ho
    · split
      · intro o ho; simp at ho
      · intro o ho
        simp only [List.mem_cons, List.not_mem_nil, or_false] at ho
        rcases ho with rfl | rfl <;> simp [putS]
  · intro o ho; simp at ho
theorem beginE_data (d : Dsk) (r : Rep) (n : Int) : ∀ o ∈ (beginE d r n).2.1, o.2.2.length ≤ 1000000 := by
  unfold beginE stE
  repeat' split
  all_goals first | exact storeE_data _ _ _ | (intro o ho; simp at ho)
theorem copyE_data (r : Rep) (c : Cyc) (h : ∀ w ∈ c.writes, w.2.2.length ≤ 1000000) : ∀ o ∈ (copyE r c).1, o.2.2.length ≤ 1000000 := by
  unfold copyE
  repeat' split
  all_goals first | (intro o ho; simp at ho; done) | skip
  intro o ho
  simp only [List.mem_append, List.mem_map, List.mem_cons, List.not_mem_nil, or_false] at ho
  rcases ho with ⟨w, hw, rfl⟩ | rfl
  · exact h w hw
  · simp
theorem copyE_ne (r : Rep) (c : Cyc) : (copyE r c).2 = 0 → (copyE r c).1.isEmpty = false := by
  unfold copyE
  intro h
  by_cases g1 : repE r = 0
  · rw [if_pos g1] at h ⊢
    by_cases g2 : cycE c r.sizes = 0
    · rw [if_pos g2] at h ⊢
      split
      · rename_i g3
        rw [if_pos g3] at h; exact absurd h (by decide)
      · rename_i g3
        rw [if_neg g3] at h
        split
        · rename_i g4
          rw [if_pos g4] at h; exact absurd h (by decide)
        · simp
    · rw [if_neg g2] at h; exact absurd h g2
  · rw [if_neg g1] at h; exact absurd h g1
theorem endE_len (d : Dsk) (r : Rep) : (endE d r).2.1.length ≤ 2 := by
  unfold endE
  split
  · split
    · simp
    · exact stE_len _ _
  · simp
theorem apply_p (d : Dsk) (r : Rep) (c : Cyc) (hl : r.sizes.length ≤ 1000000) (hc : CycLen c) (hs : d.st.length ≤ 1000000) (h2 : d.ca.length + (c.writes.length + 3) * 4096 ≤ 400000) (hd : DskOK d) (hw : ∀ w ∈ c.writes, ∀ s ∈ w.2.2, SecOK s) : PC 21 [.agg (encD d), .agg (encR r), .agg (encC c)] (ansV (applyE d r c)) := by
  refine pstartD Tryz.func21 Tryz.ntmps21 (by simp only [go_sem, encR]) ?_
  have c1 := begin_p d r c.number hl hs (by omega) hd.new
  have hbs : (beginE d r c.number).1.sizes.length ≤ 1000000 := by
    rcases beginE_szs d r c.number with h | h <;> rw [h]
    · exact hl
    · exact Nat.zero_le _
  have c2 := copy_p (beginE d r c.number).1 c hbs hc
  have hbl := beginE_len d r c.number
  have hkl := copyE_len (beginE d r c.number).1 c
  have hkn := copyE_ne (beginE d r c.number).1 c
  have hops : OpsOK ((beginE d r c.number).2.1 ++ (copyE (beginE d r c.number).1 c).1) := fun o ho => by
    rcases List.mem_append.1 ho with ho | ho
    · exact beginE_ops d r c.number o ho
    · exact copyE_ops _ c hw o ho
  have hol : ∀ o ∈ (beginE d r c.number).2.1 ++ (copyE (beginE d r c.number).1 c).1, o.2.2.length ≤ 1000000 := fun o ho => by
    rcases List.mem_append.1 ho with ho | ho
    · exact beginE_data d r c.number o ho
    · exact copyE_data _ c hc.2.2 o ho
  have c3 := drun_p d ((beginE d r c.number).2.1 ++ (copyE (beginE d r c.number).1 c).1) hs (by rw [List.length_append]; omega)
  have hx := runE_ok hd hops
  have c4 := end_pp (runE d ((beginE d r c.number).2.1 ++ (copyE (beginE d r c.number).1 c).1)).1 (beginE d r c.number).1 hbs (by omega) (by have := hx.2.2; rw [List.length_append] at this; omega) hx.1.new
  have hel := endE_len (runE d ((beginE d r c.number).2.1 ++ (copyE (beginE d r c.number).1 c).1)).1 (beginE d r c.number).1
  have c7 := failed_p
  unfold rep0 encR at c7
  obtain ⟨M, hM⟩ : ∃ M, applyE d r c = M := ⟨_, rfl⟩
  rw [hM]
  rw [applyE_join] at hM
  generalize endE (runE d ((beginE d r c.number).2.1 ++ (copyE (beginE d r c.number).1 c).1)).1 (beginE d r c.number).1 = E at *
  generalize runE d ((beginE d r c.number).2.1 ++ (copyE (beginE d r c.number).1 c).1) = X at *
  generalize copyE (beginE d r c.number).1 c = K at *
  have hwl : c.writes.length ≤ 100 := by omega
  clear hx hops hol hw
  by_cases g1 : (beginE d r c.number).2.2 = 0
  · obtain ⟨b1, b2, b3, hb⟩ := beginE_cases d r c.number g1
    rcases hb with ⟨b4, hB⟩ | ⟨b4, b5, b6, hB⟩
    all_goals
      rw [hB] at c2 c3 c4 hM hbl
    case' inl =>
      have t1 := begin_n d r c.number hl b1 b2 b3 b4
    case' inr =>
      have t1 := begin_t d r c.number hl hs (by omega) hd.new b1 b2 b3 b4 b5 b6
      have hB2 : (storeE d r.super (repV ⟨r.sizes, r.super, r.data, r.epoch, r.applied, c.number⟩)).1.length = 2 := storeE_len b6
      generalize (storeE d r.super (repV ⟨r.sizes, r.super, r.data, r.epoch, r.applied, c.number⟩)).1 = B2 at *
      clear b5 b6
      have hT1 : List.take (2 + K.1.length) (encL opRow (B2 ++ K.1)) = encL opRow (B2 ++ K.1) := List.take_of_length_le (by rw [encL_len, List.length_append]; omega)
      have hT3 : List.take (2 + K.1.length + E.2.1.length) (B2 ++ K.1 ++ E.2.1) = B2 ++ K.1 ++ E.2.1 := List.take_of_length_le (by rw [List.length_append, List.length_append]; omega)
      have hT2 : List.take (2 + K.1.length) (B2 ++ K.1) = B2 ++ K.1 := List.take_of_length_le (by rw [List.length_append]; omega)
    all_goals
      unfold joinE rep0 at hM
      clear c1 hd g1 hB b1 b2 b3 b4 hc
      obtain ⟨cb, cn, ct, cpos, cw⟩ := c
      obtain ⟨sz, sp, dt, ep, ap, ag⟩ := r
      obtain ⟨K1, K2⟩ := K
      obtain ⟨⟨xs, xc⟩, X2, X3⟩ := X
      obtain ⟨⟨f1, f2, f3, f4, f5, f6⟩, E2, E3⟩ := E
      obtain ⟨st, ca⟩ := d
      unfold ansV at *
      unfold encR encC encD at *
      simp only [] at *
      simp only [if_true] at hM
      by_cases g2 : K2 = 0
      · rw [if_pos g2] at hM
        subst g2
        have hk3 := hkn rfl
        clear hkn
        by_cases g3 : X3 = 0
        · rw [if_pos g3] at hM
          subst g3
          by_cases g4 : E3 = 0
          · rw [if_pos g4] at hM
            subst g4 hM
            (refine zgo2 ?_; exact zfin2)
          · rw [if_neg g4] at hM
            subst hM
            (refine zgo2 ?_; exact zfin2)
        · rw [if_neg g3] at hM
          subst hM
          (refine zgo2 ?_; exact zfin2)
      · rw [if_neg g2] at hM
        subst hM
        refine zgo2 ?_
        exact zfin2
  · unfold joinE rep0 at hM
    rw [if_neg g1] at hM
    subst hM
    clear c2 c3 c4 hc hd
    generalize beginE d r c.number = B at *
    obtain ⟨⟨f1, f2, f3, f4, f5, f6⟩, E2, E3⟩ := B
    obtain ⟨cb, cn, ct, cpos, cw⟩ := c
    unfold encR encC encD at *
    unfold ansV encR at *
    simp only [] at *
    refine zgo2 ?_
    exact zfin2
theorem rapply_p (d : Dsk) (r : Rep) (c : Cyc) (hl : r.sizes.length ≤ 1000000) (hc : CycLen c) (hs : d.st.length ≤ 1000000) (h2 : d.ca.length + (c.writes.length + 3) * 4096 ≤ 400000) (hd : DskOK d) (hw : ∀ w ∈ c.writes, ∀ s ∈ w.2.2, SecOK s) : PC 22 [.agg (encD d), .agg (encR r), .agg (encC c)] (ansV (applyE d r c)) := by
  refine pstartD Tryz.func22 Tryz.ntmps22 (by simp only [go_sem, encR]) ?_
  have c1 := rbegin_p d r c.number hl hs (by omega) hd.new
  have hbs : (beginE d r c.number).1.sizes.length ≤ 1000000 := by
    rcases beginE_szs d r c.number with h | h <;> rw [h]
    · exact hl
    · exact Nat.zero_le _
  have c2 := rcopyc_p (beginE d r c.number).1 c hbs hc
  have hbl := beginE_len d r c.number
  have hkl := copyE_len (beginE d r c.number).1 c
  have hkn := copyE_ne (beginE d r c.number).1 c
  have hops : OpsOK ((beginE d r c.number).2.1 ++ (copyE (beginE d r c.number).1 c).1) := fun o ho => by
    rcases List.mem_append.1 ho with ho | ho
    · exact beginE_ops d r c.number o ho
    · exact copyE_ops _ c hw o ho
  have hol : ∀ o ∈ (beginE d r c.number).2.1 ++ (copyE (beginE d r c.number).1 c).1, o.2.2.length ≤ 1000000 := fun o ho => by
    rcases List.mem_append.1 ho with ho | ho
    · exact beginE_data d r c.number o ho
    · exact copyE_data _ c hc.2.2 o ho
  have c3 := rrun_p d ((beginE d r c.number).2.1 ++ (copyE (beginE d r c.number).1 c).1) hs (by rw [List.length_append]; omega) hol
  have hx := runE_ok hd hops
  have c4 := rend_p (runE d ((beginE d r c.number).2.1 ++ (copyE (beginE d r c.number).1 c).1)).1 (beginE d r c.number).1 hbs (by omega) (by have := hx.2.2; rw [List.length_append] at this; omega) hx.1.new
  have hel := endE_len (runE d ((beginE d r c.number).2.1 ++ (copyE (beginE d r c.number).1 c).1)).1 (beginE d r c.number).1
  obtain ⟨M, hM⟩ : ∃ M, applyE d r c = M := ⟨_, rfl⟩
  rw [hM]
  rw [applyE_join] at hM
  generalize endE (runE d ((beginE d r c.number).2.1 ++ (copyE (beginE d r c.number).1 c).1)).1 (beginE d r c.number).1 = E at *
  generalize runE d ((beginE d r c.number).2.1 ++ (copyE (beginE d r c.number).1 c).1) = X at *
  generalize copyE (beginE d r c.number).1 c = K at *
  have hwl : c.writes.length ≤ 100 := by omega
  clear hx hops hol hw
  by_cases g1 : (beginE d r c.number).2.2 = 0
  · obtain ⟨b1, b2, b3, hb⟩ := beginE_cases d r c.number g1
    rcases hb with ⟨b4, hB⟩ | ⟨b4, b5, b6, hB⟩
    all_goals
      rw [hB] at c2 c3 c4 hM hbl
    case' inl =>
      have t1 := rbegin_n d r c.number hl b1 b2 b3 b4
    case' inr =>
      have t1 := rbegin_t d r c.number hl hs (by omega) hd.new b1 b2 b3 b4 b5 b6
      have hB2 : (storeE d r.super (repV ⟨r.sizes, r.super, r.data, r.epoch, r.applied, c.number⟩)).1.length = 2 := storeE_len b6
      generalize (storeE d r.super (repV ⟨r.sizes, r.super, r.data, r.epoch, r.applied, c.number⟩)).1 = B2 at *
      clear b5 b6
      have hT1 : List.take (2 + K.1.length) (encL opRow (B2 ++ K.1)) = encL opRow (B2 ++ K.1) := List.take_of_length_le (by rw [encL_len, List.length_append]; omega)
      have hT3 : List.take (2 + K.1.length + E.2.1.length) (B2 ++ K.1 ++ E.2.1) = B2 ++ K.1 ++ E.2.1 := List.take_of_length_le (by rw [List.length_append, List.length_append]; omega)
      have hT2 : List.take (2 + K.1.length) (B2 ++ K.1) = B2 ++ K.1 := List.take_of_length_le (by rw [List.length_append]; omega)
    all_goals
      unfold joinE rep0 at hM
      clear c1 hd g1 hB b1 b2 b3 b4 hc
      obtain ⟨cb, cn, ct, cpos, cw⟩ := c
      obtain ⟨sz, sp, dt, ep, ap, ag⟩ := r
      obtain ⟨K1, K2⟩ := K
      obtain ⟨⟨xs, xc⟩, X2, X3⟩ := X
      obtain ⟨⟨f1, f2, f3, f4, f5, f6⟩, E2, E3⟩ := E
      obtain ⟨st, ca⟩ := d
      unfold ansV at *
      unfold encR encC encD at *
      simp only [] at *
      simp only [if_true] at hM
      by_cases g2 : K2 = 0
      · rw [if_pos g2] at hM
        subst g2
        have hk3 := hkn rfl
        clear hkn
        by_cases g3 : X3 = 0
        · rw [if_pos g3] at hM
          subst g3
          by_cases g4 : E3 = 0
          · rw [if_pos g4] at hM
            subst g4 hM
            (refine zgo2 ?_; exact zfin2)
          · rw [if_neg g4] at hM
            subst hM
            (refine zgo2 ?_; exact zfin2)
        · rw [if_neg g3] at hM
          subst hM
          (refine zgo2 ?_; exact zfin2)
      · rw [if_neg g2] at hM
        subst hM
        refine zgo2 ?_
        exact zfin2
  · unfold joinE rep0 at hM
    rw [if_neg g1] at hM
    subst hM
    clear c2 c3 c4 hc hd
    generalize beginE d r c.number = B at *
    obtain ⟨⟨f1, f2, f3, f4, f5, f6⟩, E2, E3⟩ := B
    obtain ⟨cb, cn, ct, cpos, cw⟩ := c
    unfold encR encC encD at *
    unfold ansV encR at *
    simp only [] at *
    refine zgo2 ?_
    exact zfin2
end Go.Proofs.YtkghiceeegindaaGreatDoor

/- The image of a replica. -/
namespace Go.Proofs.YtkghiceeegindaaGreatDoor
open Go.Proofs Go.AL
set_option maxRecDepth 100000
set_option maxHeartbeats 1000000
set_option linter.unusedVariables false
set_option linter.unusedSimpArgs false
attribute [local irreducible] endA AW aops thenA blockA hold

@[go_sem] theorem zeroT_fn0 : zeroT Tryz.prog 101 = some [AV.c .nilFunc] := by kernel_rfl
theorem imgchk_p (d : Dsk) (h1 : d.st.length ≤ 1000000) (h2 : d.ca.length ≤ 1000000) : FC 76 [.sptr [encD d] 0 0] (zV (dskE d)) := by
  refine FCall.ofK ?_ rfl
  refine pstart Tryz.func76 Tryz.ntmps76 (.c _) ?_
  have c1 := dcheck_p d h1 h2
  unfold encD at *
  refine zgo2 ?_
  exact zfin
/-- The volume v of an image. -/
def volE (d : Dsk) (r : Rep) (v : Nat) : List Sec := (readE d (placeE r v) (r.sizes.getD v 0)).1
def volsE (d : Dsk) (r : Rep) (n : Nat) : List (List Sec) := (List.range n).map (volE d r)
theorem volsE_succ (d : Dsk) (r : Rep) (n : Nat) : volsE d r n ++ [volE d r n] = volsE d r (n + 1) := by
  unfold volsE
  rw [List.range_succ, List.map_append]
  rfl
theorem volsE_len (d : Dsk) (r : Rep) (n : Nat) : (volsE d r n).length = n := by simp [volsE]
/-- The image, or the error. -/
def imgE (d : Dsk) (r : Rep) : List (List Sec) × Int :=
  if repE r = 0 then
    if dskE d = 0 then
      if (d.st.length : Int) < r.data + sum r.sizes then ([], 2)
      else if r.applying ≠ 0 then ([], 12)
      else (volsE d r r.sizes.length, 0)
    else ([], dskE d)
  else ([], repE r)
theorem sum_app (a b : List Int) : sum (a ++ b) = sum a + sum b := by
  induction a with
  | nil => simp [sum]
  | cons x a ih => rw [List.cons_append, sum_cons, sum_cons, ih]; omega
theorem sum_nonneg {l : List Int} (h : ∀ x ∈ l, 1 ≤ x) : 0 ≤ sum l := by
  induction l with
  | nil => simp [sum]
  | cons x l ih =>
    have := ih fun y hy => h y (by simp [hy])
    have := h x (by simp)
    rw [sum_cons]; omega
theorem sum_take {l : List Int} {v : Nat} (h : ∀ x ∈ l, 1 ≤ x ∧ x ≤ 4096) (hv : v < l.length) : 0 ≤ sum (l.take v) ∧ sum (l.take v) + l.getD v 0 ≤ sum l ∧ 1 ≤ l.getD v 0 := by
  have e : l = l.take v ++ (l.getD v 0 :: l.drop (v + 1)) := by
    rw [List.getD_eq_getElem?_getD, List.getElem?_eq_getElem hv]
    simp
  have h1 := sum_nonneg (l := l.take v) fun x hx => (h x (List.mem_of_mem_take hx)).1
  have h2 := sum_nonneg (l := l.drop (v + 1)) fun x hx => (h x (List.mem_of_mem_drop hx)).1
  have h3 := (h _ (getD_mem' 0 hv)).1
  have h4 : sum l = sum (l.take v) + (l.getD v 0 + sum (l.drop (v + 1))) := by
    conv => lhs; rw [e]
    rw [sum_app, sum_cons]
  omega
theorem repE_ok {r : Rep} (h : repE r = 0) : layE r.sizes r.super r.data = 0 := by
  unfold repE at h
  by_cases g : layE r.sizes r.super r.data = 0
  · exact g
  · rw [if_neg g] at h; exact absurd h g
theorem placeE_in {r : Rep} {v : Nat} (h : repE r = 0) (hv : v ≤ r.sizes.length) : placeE r v = r.data + sum (r.sizes.take v) := by
  obtain ⟨y1, y2, y3, y4, y5, y6⟩ := layE_ok (repE_ok h)
  obtain ⟨z1, z2, z3⟩ := sizes_ok y1
  have h1 := sumW_eq (l := r.sizes.take v) (by rw [List.length_take]; omega) fun x hx => by
    have := z3 x (List.mem_of_mem_take hx); omega
  unfold placeE
  rw [h1.1]
  obtain ⟨_, s1, _⟩ := sum_ok y1
  have h2 := h1.2.2
  have h9 : (r.sizes.take v).length ≤ 8 := by rw [List.length_take]; omega
  exact IntWalk.i64_in _ (by omega)
theorem vol_ok {d : Dsk} {r : Rep} {v : Nat} (h : repE r = 0) (h0 : dskE d = 0) (h1 : ¬ (d.st.length : Int) < r.data + sum r.sizes) (hv : v < r.sizes.length) : (readE d (placeE r v) (r.sizes.getD v 0)).2 = 0 := by
  obtain ⟨y1, y2, y3, y4, y5, y6⟩ := layE_ok (repE_ok h)
  obtain ⟨z1, z2, z3⟩ := sizes_ok y1
  have h2 := sum_take z3 hv
  rw [placeE_in h (by omega)]
  unfold readE
  rw [if_pos h0, if_neg (by omega)]
theorem placeE_bd {r : Rep} {v : Nat} (h : repE r = 0) (hv : v ≤ r.sizes.length) : 0 ≤ placeE r v ∧ placeE r v ≤ 4096 := by
  obtain ⟨y1, y2, y3, y4, y5, y6⟩ := layE_ok (repE_ok h)
  obtain ⟨z1, z2, z3⟩ := sizes_ok y1
  rw [placeE_in h hv]
  have h1 := sum_nonneg (l := r.sizes.take v) fun x hx => (z3 x (List.mem_of_mem_take hx)).1
  have h2 := sum_nonneg (l := r.sizes.drop v) fun x hx => (z3 x (List.mem_of_mem_drop hx)).1
  have h3 : sum r.sizes = sum (r.sizes.take v) + sum (r.sizes.drop v) := by rw [← sum_app, List.take_append_drop]
  omega
theorem encLv_nil {l : List (List Sec)} (h : encL volRow l = []) : l = [] := by
  cases l with
  | nil => rfl
  | cons a b => simp [encL] at h
@[go_sem] theorem vol_expoD (G : Nat → Option Blk) (k : Nat) (F : List (List Sec)) : (encL volRow F).map (fun row => row.map (expoD G k)) = encL volRow F := by
  unfold encL
  rw [List.map_map]
  refine List.map_congr_left fun o _ => ?_
  cases k <;> simp [volRow, expoD]
theorem image_p (d : Dsk) (r : Rep) (hl : r.sizes.length ≤ 1000000) (h1 : d.st.length ≤ 1000000) (h2 : d.ca.length ≤ 1000000) : PC 23 [.agg (encD d), .agg (encR r)] (.tup [.snap (encL volRow (imgE d r).1), zV (imgE d r).2]) := by
  refine pstartD Tryz.func23 Tryz.ntmps23 (by simp only [go_sem]) ?_
  have c1 := check_p r hl
  have c2 := imgchk_p d h1 h2
  have c3 := end_p r hl
  have c4 := cloneI_p r.sizes hl
  obtain ⟨M, hM⟩ : ∃ M, imgE d r = M := ⟨_, rfl⟩
  rw [hM]
  unfold imgE at hM
  by_cases g1 : repE r = 0
  · rw [if_pos g1] at hM
    obtain ⟨y1, y2, y3, y4, y5, y6⟩ := layE_ok (repE_ok g1)
    obtain ⟨h5, h3, h4⟩ := sum_ok y1
    have w1 : IntKind.i64.wrap (r.data + sumW r.sizes) = r.data + sum r.sizes := by rw [h5]; exact IntWalk.i64_in _ (by omega)
    rw [w1] at c3
    by_cases g2 : dskE d = 0
    · rw [if_pos g2] at hM
      by_cases g3 : (d.st.length : Int) < r.data + sum r.sizes
      · rw [if_pos g3] at hM
        subst hM
        rw [g1] at c1
        rw [g2] at c2
        clear g1 g2 y6 y1 h5 w1
        unfold encR encD at *
        refine zgo2 ?_
        refine zin Tryz.func47 Tryz.ntmps47 ?_
        refine zgo2 ?_
        refine w_rounds 3 ?_
        refine w_round ?_
        refine zgo2 ?_
        exact zfin
      rw [if_neg g3] at hM
      by_cases g4 : r.applying ≠ 0
      · rw [if_pos g4] at hM
        subst hM
        rw [g1] at c1
        rw [g2] at c2
        clear g1 g2 y6 y1 h5 w1
        unfold encR encD at *
        refine zgo2 ?_
        refine zin Tryz.func47 Tryz.ntmps47 ?_
        refine zgo2 ?_
        refine w_rounds 3 ?_
        refine w_round ?_
        refine zgo2 ?_
        exact zfin
      rw [if_neg g4] at hM
      subst hM
      have cv := fun v (hv : v < r.sizes.length) => vol_ok g1 g2 g3 hv
      have cr := fun v => dread_p d (placeE r v) (r.sizes.getD v 0) h1 h2
      have cp := fun v hv => place_p r v hv hl
      have hg := gI r.sizes
      have hsz := (sizes_ok y1).2.1
      have hvs := volsE_succ d r
      have hvl := volsE_len d r
      have hv0 : encL volRow (volsE d r 0) = [] := rfl
      rw [g1] at c1
      rw [g2] at c2
      have g5 : r.applying = 0 := by omega
      have hvol : ∀ v, Lat ((readE d (placeE r v) (r.sizes.getD v 0)).1 = volE d r v) := fun v => ⟨rfl⟩
      clear g1 g2 y6 y1 h5 w1 g4
      generalize volsE d r = VS at *
      generalize volE d r = V at *
      have cr2 : ∀ v, v < r.sizes.length → PC 78 [.agg (encD d), .agg [zV (placeE r v), zV (r.sizes.getD v 0)]] (.tup [.snap (encL encSec (V v)), zV 0]) := fun v hv => by
        have := cr v
        rw [(hvol v).out, cv v hv] at this
        exact this
      clear cr cv hvol
      generalize placeE r = PE at *
      obtain ⟨sz, sp, dt, ep, ap, ag⟩ := r
      simp only [] at *
      subst g5
      unfold encR encD at *
      simp only [] at *
      refine zgo2 ?_
      refine zin Tryz.func47 Tryz.ntmps47 ?_
      refine zgo2 ?_
      refine w_rounds 3 ?_
      refine w_round ?_
      refine zgo2 ?_
      refine zfor (α := AV × List (Nat × Option Blk)) sz.length (fun k x => [(54, true, zV k), (53, true, zV sz.length), (52, true, .snap (encL intRow sz)), (11, true, x.1), (6, true, .ptr 4 0 0), (2, true, .ptr 0 0 0)]) (fun k x => [(0, some (.cells 25 2 [[.snap (encL encSec d.st), .snap (encL encCa d.ca)]] true false)), (4, some (.cells 105 6 [[.snap (encL intRow sz), zV sp, zV dt, zV ep, zV ap, zV 0]] true false))] ++ x.2) (fun k m x => 40 ≤ m ∧ SlOK 22 1 (encL volRow (VS k)) 40 0 m x.1 x.2) ⟨40, (.c (.slice none 0 0), []), ⟨Nat.le_refl _, .inl ⟨rfl, rfl, hv0⟩⟩, zholds⟩ (fun k m x hk hR => ?_) (fun m x hR => ?_)
      · obtain ⟨cv, T⟩ := x
        obtain ⟨hm, hS⟩ := hR
        have hgk := hg k hk
        have c8 := cr2 k hk
        have c9 := cp k (by omega)
        have h5 := hvs k
        have h6 := hvl k
        have h7 := hvl (k + 1)
        clear cr2 cp hg hvs hvl
        rcases hS with ⟨e1, e2, e3⟩ | ⟨id, hid, hidn, hidm, e1, e2⟩
        · simp only [] at e1 e2
          subst e1 e2
          have h9 : Lat (VS (k + 1) = [V k]) := ⟨by rw [← h5, encLv_nil e3]; rfl⟩
          clear e3 h5 h6 h7 hv0
          refine zgo2 ?_
          refine ⟨m + 60, ⟨.own (m + 12 + 1) 0 1, [(m + 12 + 1, some (.cells 22 1 [[.snap (encL encSec (V k))]] true true))]⟩, ⟨by omega, .inr ⟨m + 12 + 1, by omega, by omega, by omega, by rw [h9.out]; rfl, by rw [h9.out]; rfl⟩⟩, ?_⟩
          exact zholds
        · simp only [] at e1 e2
          subst e1 e2
          have h9 : Lat (VS k ++ [V k] = VS (k + 1)) := ⟨h5⟩
          have h10 : Lat ((VS (k + 1)).length = k + 1) := ⟨h7⟩
          clear h5 h7 hv0
          generalize VS k = L at *
          rw [encL_len, h6]
          refine zgo2 ?_
          refine ⟨m + 60, ⟨.own (m + 12 + 1) 0 (k + 1), [(m + 12 + 1, some (.cells 22 1 (encL volRow (L ++ [V k])) true true))]⟩, ⟨by omega, .inr ⟨m + 12 + 1, by omega, by omega, by omega, by rw [encL_len, h10.out], by rw [← h9.out]⟩⟩, ?_⟩
          exact zholds
      · obtain ⟨cv, T⟩ := x
        obtain ⟨hm, hS⟩ := hR
        have h6 := hvl sz.length
        clear cr2 cp hg hvs hvl hv0
        generalize VS sz.length = L at *
        rcases hS with ⟨e1, e2, e3⟩ | ⟨id, hid, hidn, hidm, e1, e2⟩
        · simp only [] at e1 e2
          subst e1 e2
          rw [encLv_nil e3]
          clear e3 h6
          refine zgo2 ?_
          exact zfin
        · simp only [] at e1 e2
          subst e1 e2
          rw [encL_len]
          have hT : List.take sz.length L = L := List.take_of_length_le (by omega)
          refine zgo2 ?_
          exact zfin2
    · rw [if_neg g2] at hM
      subst hM
      rw [g1] at c1
      clear g1 y6 y1 h5 w1
      unfold encR encD at *
      refine zgo2 ?_
      refine zin Tryz.func47 Tryz.ntmps47 ?_
      refine zgo2 ?_
      refine w_rounds 3 ?_
      refine w_round ?_
      refine zgo2 ?_
      exact zfin
  · rw [if_neg g1] at hM
    subst hM
    unfold encR encD at *
    refine zgo2 ?_
    refine zin Tryz.func47 Tryz.ntmps47 ?_
    refine zgo2 ?_
    refine w_rounds 3 ?_
    refine w_round ?_
    refine zgo2 ?_
    exact zfin
theorem rimage_p (d : Dsk) (r : Rep) (hl : r.sizes.length ≤ 1000000) (h1 : d.st.length ≤ 1000000) (h2 : d.ca.length ≤ 1000000) : PC 24 [.agg (encD d), .agg (encR r)] (.tup [.snap (encL volRow (imgE d r).1), zV (imgE d r).2]) := by
  refine pstartD Tryz.func24 Tryz.ntmps24 (by simp only [go_sem]) ?_
  have c1 := rcheck_p r hl
  have c2 := rdcheck_p d h1 h2
  have c3 := rtotal_p r.sizes hl
  obtain ⟨M, hM⟩ : ∃ M, imgE d r = M := ⟨_, rfl⟩
  rw [hM]
  unfold imgE at hM
  by_cases g1 : repE r = 0
  · rw [if_pos g1] at hM
    obtain ⟨y1, y2, y3, y4, y5, y6⟩ := layE_ok (repE_ok g1)
    obtain ⟨h5, h3, h4⟩ := sum_ok y1
    have w1 : IntKind.i64.wrap (r.data + sum r.sizes) = r.data + sum r.sizes := IntWalk.i64_in _ (by omega)
    rw [h5] at c3
    by_cases g2 : dskE d = 0
    · rw [if_pos g2] at hM
      by_cases g3 : (d.st.length : Int) < r.data + sum r.sizes
      · rw [if_pos g3] at hM
        subst hM
        rw [g1] at c1
        rw [g2] at c2
        clear g1 g2 y6 y1 h5
        unfold encR encD at *
        refine zgo2 ?_
        exact zfin
      rw [if_neg g3] at hM
      by_cases g4 : r.applying ≠ 0
      · rw [if_pos g4] at hM
        subst hM
        rw [g1] at c1
        rw [g2] at c2
        clear g1 g2 y6 y1 h5
        unfold encR encD at *
        refine zgo2 ?_
        exact zfin
      rw [if_neg g4] at hM
      subst hM
      have cv := fun v (hv : v < r.sizes.length) => vol_ok g1 g2 g3 hv
      have cr := fun v => rread_p d (placeE r v) (r.sizes.getD v 0) h1 h2
      have hpw : ∀ v, v ≤ r.sizes.length → IntKind.i64.wrap (placeE r v + 0) = placeE r v := fun v hv => by
        have h9 := placeE_bd g1 hv
        rw [Int.add_zero]; exact IntWalk.i64_in _ (by omega)
      have cp : ∀ v, v ≤ r.sizes.length → PC 73 [.agg (encR r), zV v, zV 0] (zV (placeE r v)) := fun v hv => by
        have := rplace_p r v 0 hv hl
        rw [hpw v hv] at this
        exact this
      have hg := gI r.sizes
      have hsz := (sizes_ok y1).2.1
      have hvs := volsE_succ d r
      have hvl := volsE_len d r
      have hv0 : encL volRow (volsE d r 0) = [] := rfl
      rw [g1] at c1
      rw [g2] at c2
      have g5 : r.applying = 0 := by omega
      have hvol : ∀ v, Lat ((readE d (placeE r v) (r.sizes.getD v 0)).1 = volE d r v) := fun v => ⟨rfl⟩
      clear g1 g2 y6 y1 h5 g4 hpw
      generalize volsE d r = VS at *
      generalize volE d r = V at *
      have cr2 : ∀ v, v < r.sizes.length → PC 80 [.agg (encD d), .agg [zV (placeE r v), zV (r.sizes.getD v 0)]] (.tup [.snap (encL encSec (V v)), zV 0]) := fun v hv => by
        have := cr v
        rw [(hvol v).out, cv v hv] at this
        exact this
      clear cr cv hvol
      generalize placeE r = PE at *
      obtain ⟨sz, sp, dt, ep, ap, ag⟩ := r
      simp only [] at *
      subst g5
      unfold encR encD at *
      simp only [] at *
      refine zgo2 ?_
      refine zfor (α := AV × List (Nat × Option Blk)) sz.length (fun k x => [(9, true, zV k), (8, true, x.1), (3, true, .ptr 1 0 0), (2, true, .ptr 0 0 0)]) (fun k x => [(0, some (.cells 25 2 [[.snap (encL encSec d.st), .snap (encL encCa d.ca)]] true false)), (1, some (.cells 31 6 [[.snap (encL intRow sz), zV sp, zV dt, zV ep, zV ap, zV 0]] true false))] ++ x.2) (fun k m x => 40 ≤ m ∧ SlOK 22 1 (encL volRow (VS k)) 40 0 m x.1 x.2) ⟨40, (.c (.slice none 0 0), []), ⟨Nat.le_refl _, .inl ⟨rfl, rfl, hv0⟩⟩, zholds⟩ (fun k m x hk hR => ?_) (fun m x hR => ?_)
      · obtain ⟨cv, T⟩ := x
        obtain ⟨hm, hS⟩ := hR
        have hgk := hg k hk
        have c8 := cr2 k hk
        have c9 := cp k (by omega)
        have h5 := hvs k
        have h6 := hvl k
        have h7 := hvl (k + 1)
        clear cr2 cp hg hvs hvl
        rcases hS with ⟨e1, e2, e3⟩ | ⟨id, hid, hidn, hidm, e1, e2⟩
        · simp only [] at e1 e2
          subst e1 e2
          have h9 : Lat (VS (k + 1) = [V k]) := ⟨by rw [← h5, encLv_nil e3]; rfl⟩
          clear e3 h5 h6 h7 hv0
          refine zgo2 ?_
          refine ⟨m + 60, ⟨.own (m + 16 + 1) 0 1, [(m + 16 + 1, some (.cells 22 1 [[.snap (encL encSec (V k))]] true true))]⟩, ⟨by omega, .inr ⟨m + 16 + 1, by omega, by omega, by omega, by rw [h9.out]; rfl, by rw [h9.out]; rfl⟩⟩, ?_⟩
          exact zholds
        · simp only [] at e1 e2
          subst e1 e2
          have h9 : Lat (VS k ++ [V k] = VS (k + 1)) := ⟨h5⟩
          have h10 : Lat ((VS (k + 1)).length = k + 1) := ⟨h7⟩
          clear h5 h7 hv0
          generalize VS k = L at *
          rw [encL_len, h6]
          refine zgo2 ?_
          refine ⟨m + 60, ⟨.own (m + 16 + 1) 0 (k + 1), [(m + 16 + 1, some (.cells 22 1 (encL volRow (L ++ [V k])) true true))]⟩, ⟨by omega, .inr ⟨m + 16 + 1, by omega, by omega, by omega, by rw [encL_len, h10.out], by rw [← h9.out]⟩⟩, ?_⟩
          exact zholds
      · obtain ⟨cv, T⟩ := x
        obtain ⟨hm, hS⟩ := hR
        have h6 := hvl sz.length
        clear cr2 cp hg hvs hvl hv0
        generalize VS sz.length = L at *
        rcases hS with ⟨e1, e2, e3⟩ | ⟨id, hid, hidn, hidm, e1, e2⟩
        · simp only [] at e1 e2
          subst e1 e2
          rw [encLv_nil e3]
          clear e3 h6
          refine zgo2 ?_
          exact zfin
        · simp only [] at e1 e2
          subst e1 e2
          rw [encL_len]
          have hT : List.take sz.length L = L := List.take_of_length_le (by omega)
          refine zgo2 ?_
          exact zfin2
    · rw [if_neg g2] at hM
      subst hM
      rw [g1] at c1
      clear g1 y6 y1 h5
      unfold encR encD at *
      refine zgo2 ?_
      exact zfin
  · rw [if_neg g1] at hM
    subst hM
    unfold encR encD at *
    refine zgo2 ?_
    exact zfin
end Go.Proofs.YtkghiceeegindaaGreatDoor
