/- Apply: contracts of its functions. No condition but those named. -/
import Derived.Test.YtkghiceeegindaaGreatDoorAf
/- Storing, in all cases. -/
namespace Go.Proofs.YtkghiceeegindaaGreatDoor
open Go.Proofs Go.AL
set_option maxRecDepth 100000
set_option maxHeartbeats 1000000
set_option linter.unusedVariables false
set_option linter.unusedSimpArgs false
attribute [local irreducible] endA AW aops thenA blockA hold

theorem sfind_err (d : Dsk) (a e : Int) (p : List Int) (A B : List Int × Int) (l m : List Sec) (n : Int) (he : e ≠ 0) (hc : PC 105 [.agg (encD d), zV a] (.tup [.agg (bothV A B l m), zV n, zV e])) : PC 125 [.agg (encD d), zV a, .snap (encL byteRow p)] (.tup [.snap (encL opRow []), zV e]) := by
  refine pstart Tryz.func125 Tryz.ntmps125 (by simp only [go_sem]) ?_
  unfold encD bothV at *
  refine zgo ?_
  exact zfin
theorem newE_09 (A B : List Int × Int) : (newE A B).2 = 0 ∨ (newE A B).2 = 9 := by
  unfold newE
  split
  · split
    · exact .inr rfl
    · exact .inl rfl
  · split
    · exact .inr rfl
    · exact .inl rfl
theorem sstore_f (d : Dsk) (a : Int) (p : List Int) (hp : p.length ≤ 31) (hs : d.st.length ≤ 1000000) (h2 : d.ca.length ≤ 1000000) (hk : ∀ s ∈ newL d.st d.ca, SecOK s) (h : (storeE d a p).2 ≠ 0) :
    PC 125 [.agg (encD d), zV a, .snap (encL byteRow p)] (.tup [.snap (encL opRow []), zV (storeE d a p).2]) := by
  by_cases g : (readE d a 16).2 = 0
  · obtain ⟨h0, h3, h4⟩ := readE_ok g
    have hk2 : ∀ s ∈ sbL d a, SecOK s := fun s hs => hk s (List.mem_of_mem_drop (List.mem_of_mem_take hs))
    have gA := parseS_gen (l := (sbL d a).take 8) fun s hs => hk2 s (List.mem_of_mem_take hs)
    have gB := parseS_gen (l := (sbL d a).drop 8) fun s hs => hk2 s (List.mem_of_mem_drop hs)
    have hf := find_new h0 h3 h4 gA.1 gB.1
    have c := find_ok d a hs h2 hk h0 h3 h4
    have e0 := newL_len d.ca d.st
    have e1 : (sbL d a).length = 16 := by unfold sbL; rw [List.length_take, List.length_drop]; omega
    have e2 : (sbL d a).take 8 ++ (sbL d a).drop 8 = sbL d a := List.take_append_drop 8 _
    by_cases g3 : (newE (parseS ((sbL d a).take 8)) (parseS ((sbL d a).drop 8))).2 = 0
    · have g0 : (findE d a).2.2.2.2 = 0 := by
        rw [hf, if_pos g3]; split <;> rfl
      have g2 : topS (sbL d a) = 4294967295 := by
        by_cases g2 : topS (sbL d a) = 4294967295
        · exact g2
        · unfold storeE at h
          rw [if_pos g0, if_neg (by omega), if_neg g2] at h
          exact absurd rfl h
      have g4 : (storeE d a p).2 = 11 := by
        unfold storeE
        rw [if_pos g0, if_neg (by omega), if_pos g2]
      rw [g3] at c
      have t := store_ok d a p ((sbL d a).take 8) ((sbL d a).drop 8) _ _ _ _ _ hp (by rw [List.length_take]; omega) (by rw [List.length_drop]; omega) h3 (by omega) (newE_01 _ _) (by rw [e2]; exact hk2) c
      rw [e2, if_pos g2] at t
      rw [g4]
      exact t
    · have g9 : (newE (parseS ((sbL d a).take 8)) (parseS ((sbL d a).drop 8))).2 = 9 := by
        have := newE_09 (parseS ((sbL d a).take 8)) (parseS ((sbL d a).drop 8))
        rcases this with h | h
        · exact absurd h g3
        · exact h
      have g4 : (storeE d a p).2 = 9 := by
        unfold storeE
        rw [hf, if_neg g3]
        rfl
      rw [g9] at c
      rw [g4]
      exact sfind_err d a 9 p _ _ _ _ _ (by decide) c
  · have g4 : (storeE d a p).2 = (readE d a 16).2 := by
      unfold storeE
      rw [findE_err hs g, if_neg g]
    rw [g4]
    exact sfind_err d a _ p _ _ _ _ _ g (find_err d a hs h2 g)
theorem repV_len31 (r : Rep) : (repV r).length ≤ 31 := by
  have h1 := vint_len r.epoch
  have h2 := vint_len r.applied
  have h3 := vint_len r.applying
  unfold repV
  simp only [List.length_append]
  omega
@[go_sem] theorem by_fresh (G : Nat → Option Blk) (k : Nat) (l : List Int) : ((encL byteRow l).all fun row => row.all (fresh G k)) = true := by
  rw [List.all_eq_true]
  intro row hr
  simp only [encL, List.mem_map] at hr
  obtain ⟨x, _, rfl⟩ := hr
  cases k <;> rfl
theorem by_expoD (G : Nat → Option Blk) (k : Nat) (l : List Int) : (encL byteRow l).map (fun row => row.map (expoD G k)) = encL byteRow l := encL_expoD (fun a x hx => by simp [byteRow] at hx; exact ⟨_, hx⟩) G k l
theorem value_f (r : Rep) : FC 52 [.sptr [encR r] 0 0] (.snap (encL byteRow (repV r))) := by
  refine fcstart Tryz.func52 Tryz.ntmps52 ?_
  unfold encR repV
  have h1 := vint_len r.epoch
  have h2 := vint_len r.applied
  have h3 := vint_len r.applying
  have c0 := putInt_e r.epoch
  have c1 := putInt_fo (vint r.epoch) r.applied (by omega)
  have c2 := putInt_fo (vint r.epoch ++ vint r.applied) r.applying (by simp; omega)
  simp only [List.nil_append] at c0
  refine zgo ?_
  refine w_rounds 4 ?_
  refine w_round ?_
  refine zgo ?_
  refine ⟨?_, ?_, ?_⟩
  · simp only [go_sem, by_expoD]
  · simp only [go_sem, fresh, rowsOf, by_fresh]
  · simp only [go_sem, by_expoD]
    rw [List.take_of_length_le (by simp only [List.length_append]; omega)]
end Go.Proofs.YtkghiceeegindaaGreatDoor

/- Begin, End and Raise. -/
namespace Go.Proofs.YtkghiceeegindaaGreatDoor
open Go.Proofs Go.AL
set_option maxRecDepth 100000
set_option maxHeartbeats 1000000
set_option linter.unusedVariables false
set_option linter.unusedSimpArgs false
attribute [local irreducible] endA AW aops thenA blockA hold

/-- What the beginning of a cycle is. -/
def beginE (d : Dsk) (r : Rep) (n : Int) : Rep × List (Int × Int × List Sec) × Int :=
  if repE r = 0 then
    if n ≤ r.applied then (rep0, [], 8)
    else if 1073741824 < n then (rep0, [], 2)
    else if n = r.applying then (r, [], 0)
    else if r.applying ≠ 0 then (rep0, [], 26)
    else stE d ⟨r.sizes, r.super, r.data, r.epoch, r.applied, n⟩
  else (rep0, [], repE r)
def endE (d : Dsk) (r : Rep) : Rep × List (Int × Int × List Sec) × Int :=
  if repE r = 0 then
    if r.applying = 0 then (rep0, [], 12)
    else stE d ⟨r.sizes, r.super, r.data, r.epoch, r.applying, 0⟩
  else (rep0, [], repE r)
def raiseE (d : Dsk) (r : Rep) (n : Int) : Rep × List (Int × Int × List Sec) × Int :=
  if repE r = 0 then
    if n < r.epoch then (rep0, [], 13)
    else if 1073741824 < n then (rep0, [], 2)
    else if n = r.epoch then (r, [], 0)
    else stE d ⟨r.sizes, r.super, r.data, n, r.applied, r.applying⟩
  else (rep0, [], repE r)
abbrev ansV (F : Rep × List (Int × Int × List Sec) × Int) : AV := .tup [.agg (encR F.1), .snap (encL opRow F.2.1), zV F.2.2]
theorem storeE_nil {d : Dsk} {a : Int} {p : List Int} (h : (storeE d a p).2 ≠ 0) : (storeE d a p).1 = [] := by
  unfold storeE at h ⊢
  split
  · rename_i h1
    rw [if_pos h1] at h
    split
    · rfl
    · rename_i h2
      rw [if_neg h2] at h
      split
      · rfl
      · rename_i h3
        rw [if_neg h3] at h
        exact absurd rfl h
  · rfl
theorem sstore_p (d : Dsk) (a : Int) (p : List Int) (hp : p.length ≤ 31) (hs : d.st.length ≤ 1000000) (h2 : d.ca.length ≤ 1000000) (hk : ∀ s ∈ newL d.st d.ca, SecOK s) :
    PC 125 [.agg (encD d), zV a, .snap (encL byteRow p)] (.tup [.snap (encL opRow (storeE d a p).1), zV (storeE d a p).2]) := by
  by_cases h : (storeE d a p).2 = 0
  · have t := sstore_t d a p hs h2 hk h
    have hl := storeE_len h
    rw [h]
    refine t.toP (by simp only [go_sem]) ?_
    generalize (storeE d a p).1 = F at *
    have e : List.take 2 F = F := List.take_of_length_le (by omega)
    simp only [go_sem, renO, renO1, upd, hl, e]
    exact .refl _
  · rw [storeE_nil h]
    exact sstore_f d a p hp hs h2 hk h
theorem begin_p (d : Dsk) (r : Rep) (n : Int) (hl : r.sizes.length ≤ 1000000) (hs : d.st.length ≤ 1000000) (h2 : d.ca.length ≤ 1000000) (hk : ∀ s ∈ newL d.st d.ca, SecOK s) : PC 28 [.agg (encD d), .agg (encR r), zV n] (ansV (beginE d r n)) := by
  refine pstart Tryz.func28 Tryz.ntmps28 (by simp only [go_sem, encR]) ?_
  have c1 := check_p r hl
  have c4 := cloneI_p r.sizes hl
  have c7 := failed_p
  obtain ⟨M, hM⟩ : ∃ M, beginE d r n = M := ⟨_, rfl⟩
  rw [hM]
  unfold beginE stE at hM
  obtain ⟨sz, sp, dt, ep, ap, ag⟩ := r
  unfold encR at c1
  unfold rep0 encR at c7
  unfold rep0 at hM
  unfold ansV encR
  simp only [] at *
  refine zgo2 ?_
  refine zin Tryz.func47 Tryz.ntmps47 ?_
  refine zgo2 ?_
  refine zin Tryz.func82 Tryz.ntmps82 ?_
  by_cases g1 : repE ⟨sz, sp, dt, ep, ap, ag⟩ = 0
  · rw [if_pos g1] at hM
    rw [g1] at c1
    refine zgo2 ?_
    refine zin Tryz.func83 Tryz.ntmps83 ?_
    by_cases g2 : n ≤ ap
    · rw [if_pos g2] at hM
      subst hM
      refine zgo2 ?_
      exact zfin
    rw [if_neg g2] at hM
    by_cases g3 : 1073741824 < n
    · rw [if_pos g3] at hM
      subst hM
      refine zgo2 ?_
      exact zfin
    rw [if_neg g3] at hM
    by_cases g4 : n = ag
    · rw [if_pos g4] at hM
      subst hM g4
      refine zgo2 ?_
      exact zfin
    rw [if_neg g4] at hM
    by_cases g5 : ag ≠ 0
    · rw [if_pos g5] at hM
      subst hM
      refine zgo2 ?_
      exact zfin
    rw [if_neg g5] at hM
    have g6 : ag = 0 := by omega
    subst g6
    have c9 := sstore_p d sp (repV ⟨sz, sp, dt, ep, ap, n⟩) (repV_len31 _) hs h2 hk
    have c8 := value_f ⟨sz, sp, dt, ep, ap, n⟩
    clear hk
    generalize storeE d sp (repV ⟨sz, sp, dt, ep, ap, n⟩) = F at *
    obtain ⟨F1, F2⟩ := F
    simp only [] at *
    generalize repV ⟨sz, sp, dt, ep, ap, n⟩ = V at *
    unfold encD encR at *
    by_cases g9 : F2 = 0
    · rw [if_pos g9] at hM
      subst hM g9
      refine zgo2 ?_
      refine zin Tryz.func84 Tryz.ntmps84 ?_
      refine zgo2 ?_
      exact zfin2
    · rw [if_neg g9] at hM
      subst hM
      refine zgo2 ?_
      refine zin Tryz.func84 Tryz.ntmps84 ?_
      refine zgo2 ?_
      exact zfin
  · rw [if_neg g1] at hM
    subst hM
    refine zgo2 ?_
    exact zfin
theorem end_pp (d : Dsk) (r : Rep) (hl : r.sizes.length ≤ 1000000) (hs : d.st.length ≤ 1000000) (h2 : d.ca.length ≤ 1000000) (hk : ∀ s ∈ newL d.st d.ca, SecOK s) : PC 30 [.agg (encD d), .agg (encR r)] (ansV (endE d r)) := by
  refine pstart Tryz.func30 Tryz.ntmps30 (by simp only [go_sem, encR]) ?_
  have c1 := check_p r hl
  have c4 := cloneI_p r.sizes hl
  have c7 := failed_p
  obtain ⟨M, hM⟩ : ∃ M, endE d r = M := ⟨_, rfl⟩
  rw [hM]
  unfold endE stE at hM
  obtain ⟨sz, sp, dt, ep, ap, ag⟩ := r
  unfold encR at c1
  unfold rep0 encR at c7
  unfold rep0 at hM
  unfold ansV encR
  simp only [] at *
  refine zgo2 ?_
  refine zin Tryz.func47 Tryz.ntmps47 ?_
  refine zgo2 ?_
  refine zin Tryz.func82 Tryz.ntmps82 ?_
  by_cases g1 : repE ⟨sz, sp, dt, ep, ap, ag⟩ = 0
  · rw [if_pos g1] at hM
    rw [g1] at c1
    refine zgo2 ?_
    refine zin Tryz.func86 Tryz.ntmps86 ?_
    by_cases g2 : ag = 0
    · rw [if_pos g2] at hM
      subst hM g2
      refine zgo2 ?_
      exact zfin
    rw [if_neg g2] at hM
    have c9 := sstore_p d sp (repV ⟨sz, sp, dt, ep, ag, 0⟩) (repV_len31 _) hs h2 hk
    have c8 := value_f ⟨sz, sp, dt, ep, ag, 0⟩
    clear hk
    generalize storeE d sp (repV ⟨sz, sp, dt, ep, ag, 0⟩) = F at *
    obtain ⟨F1, F2⟩ := F
    simp only [] at *
    generalize repV ⟨sz, sp, dt, ep, ag, 0⟩ = V at *
    unfold encD encR at *
    by_cases g9 : F2 = 0
    · rw [if_pos g9] at hM
      subst hM g9
      refine zgo2 ?_
      refine zin Tryz.func84 Tryz.ntmps84 ?_
      refine zgo2 ?_
      exact zfin2
    · rw [if_neg g9] at hM
      subst hM
      refine zgo2 ?_
      refine zin Tryz.func84 Tryz.ntmps84 ?_
      refine zgo2 ?_
      exact zfin
  · rw [if_neg g1] at hM
    subst hM
    refine zgo2 ?_
    exact zfin
theorem raise_p (d : Dsk) (r : Rep) (n : Int) (hl : r.sizes.length ≤ 1000000) (hs : d.st.length ≤ 1000000) (h2 : d.ca.length ≤ 1000000) (hk : ∀ s ∈ newL d.st d.ca, SecOK s) : PC 32 [.agg (encD d), .agg (encR r), zV n] (ansV (raiseE d r n)) := by
  refine pstart Tryz.func32 Tryz.ntmps32 (by simp only [go_sem, encR]) ?_
  have c1 := check_p r hl
  have c4 := cloneI_p r.sizes hl
  have c7 := failed_p
  obtain ⟨M, hM⟩ : ∃ M, raiseE d r n = M := ⟨_, rfl⟩
  rw [hM]
  unfold raiseE stE at hM
  obtain ⟨sz, sp, dt, ep, ap, ag⟩ := r
  unfold encR at c1
  unfold rep0 encR at c7
  unfold rep0 at hM
  unfold ansV encR
  simp only [] at *
  refine zgo2 ?_
  refine zin Tryz.func47 Tryz.ntmps47 ?_
  refine zgo2 ?_
  refine zin Tryz.func82 Tryz.ntmps82 ?_
  by_cases g1 : repE ⟨sz, sp, dt, ep, ap, ag⟩ = 0
  · rw [if_pos g1] at hM
    rw [g1] at c1
    refine zgo2 ?_
    refine zin Tryz.func87 Tryz.ntmps87 ?_
    by_cases g2 : n < ep
    · rw [if_pos g2] at hM
      subst hM
      refine zgo2 ?_
      exact zfin
    rw [if_neg g2] at hM
    by_cases g3 : 1073741824 < n
    · rw [if_pos g3] at hM
      subst hM
      refine zgo2 ?_
      exact zfin
    rw [if_neg g3] at hM
    by_cases g4 : n = ep
    · rw [if_pos g4] at hM
      subst hM g4
      refine zgo2 ?_
      exact zfin
    rw [if_neg g4] at hM
    have c9 := sstore_p d sp (repV ⟨sz, sp, dt, n, ap, ag⟩) (repV_len31 _) hs h2 hk
    have c8 := value_f ⟨sz, sp, dt, n, ap, ag⟩
    clear hk
    generalize storeE d sp (repV ⟨sz, sp, dt, n, ap, ag⟩) = F at *
    obtain ⟨F1, F2⟩ := F
    simp only [] at *
    generalize repV ⟨sz, sp, dt, n, ap, ag⟩ = V at *
    unfold encD encR at *
    by_cases g9 : F2 = 0
    · rw [if_pos g9] at hM
      subst hM g9
      refine zgo2 ?_
      refine zin Tryz.func84 Tryz.ntmps84 ?_
      refine zgo2 ?_
      exact zfin2
    · rw [if_neg g9] at hM
      subst hM
      refine zgo2 ?_
      refine zin Tryz.func84 Tryz.ntmps84 ?_
      refine zgo2 ?_
      exact zfin
  · rw [if_neg g1] at hM
    subst hM
    refine zgo2 ?_
    exact zfin
theorem begin_t (d : Dsk) (r : Rep) (n : Int) (hl : r.sizes.length ≤ 1000000) (hs : d.st.length ≤ 1000000) (h2 : d.ca.length ≤ 1000000) (hk : ∀ s ∈ newL d.st d.ca, SecOK s)
    (g1 : repE r = 0) (g2 : ¬ n ≤ r.applied) (g3 : ¬ 1073741824 < n) (g4 : n ≠ r.applying) (g6 : r.applying = 0) (g7 : (storeE d r.super (repV ⟨r.sizes, r.super, r.data, r.epoch, r.applied, n⟩)).2 = 0) :
    TOCall Tryz.prog 28 [.agg (encD d), .agg (encR r), zV n] (.tup [.agg (encR ⟨r.sizes, r.super, r.data, r.epoch, r.applied, n⟩), .own 0 0 2, zV 0]) 94 3 (encL opRow (storeE d r.super (repV ⟨r.sizes, r.super, r.data, r.epoch, r.applied, n⟩)).1) := by
  refine tstart2 Tryz.func28 Tryz.ntmps28 (by simp only [go_sem, encR, encD]) (okO_trip _ (rep_noId _) _ _) (op_noIds _) ?_
  have c1 := check_p r hl
  have c4 := cloneI_p r.sizes hl
  have c9 := sstore_t d r.super (repV ⟨r.sizes, r.super, r.data, r.epoch, r.applied, n⟩) hs h2 hk g7
  have c8 := value_f ⟨r.sizes, r.super, r.data, r.epoch, r.applied, n⟩
  rw [g1] at c1
  clear hk g7
  obtain ⟨sz, sp, dt, ep, ap, ag⟩ := r
  simp only [] at *
  generalize storeE d sp (repV ⟨sz, sp, dt, ep, ap, n⟩) = F at *
  obtain ⟨F1, F2⟩ := F
  simp only [] at *
  generalize repV ⟨sz, sp, dt, ep, ap, n⟩ = V at *
  unfold encR encD at *
  clear g1
  subst g6
  refine zgo2 ?_
  refine zin Tryz.func47 Tryz.ntmps47 ?_
  refine zgo2 ?_
  refine zin Tryz.func82 Tryz.ntmps82 ?_
  refine zgo2 ?_
  refine zin Tryz.func83 Tryz.ntmps83 ?_
  refine zgo2 ?_
  refine zin Tryz.func84 Tryz.ntmps84 ?_
  refine zgo2 ?_
  refine ⟨_, rfl, _, ?_, wkr_refl _⟩
  exact zeq
end Go.Proofs.YtkghiceeegindaaGreatDoor

/- Begin, End and Raise, in the reference. -/
namespace Go.Proofs.YtkghiceeegindaaGreatDoor
open Go.Proofs Go.AL
set_option maxRecDepth 100000
set_option maxHeartbeats 1000000
set_option linter.unusedVariables false
set_option linter.unusedSimpArgs false
attribute [local irreducible] endA AW aops thenA blockA hold

theorem rstore_t (d : Dsk) (a : Int) (p : List Int) (hp : p.length ≤ 100000) (hs : d.st.length ≤ 1000000) (h2 : d.ca.length ≤ 1000000) (hk : ∀ s ∈ newL d.st d.ca, SecOK s) (h : (storeE d a p).2 = 0) : TOCall Tryz.prog 126 [.agg (encD d), zV a, .snap (encL byteRow p)] (.tup [.own 0 0 2, zV 0]) 94 3 (encL opRow (storeE d a p).1) := by
  refine tstart2 Tryz.func126 Tryz.ntmps126 (by simp only [go_sem, encD]) (okO_pair 2 0) (op_noIds _) ?_
  have c1 := rfind_p d a hs h2 hk
  have c0 := rcap_p
  unfold storeE at h ⊢
  by_cases g : (findE d a).2.2.2.2 = 0
  · obtain ⟨h3, h4, h5, h6⟩ := findE_ok g
    rw [if_pos g] at h ⊢
    have hk2 : ∀ s ∈ sbL d a, SecOK s := fun s hs => hk s (List.mem_of_mem_drop (List.mem_of_mem_take hs))
    have hT := topS_in _ hk2
    rw [h6, g] at c1
    have e0 := newL_len d.ca d.st
    have e1 : (sbL d a).length = 16 := by unfold sbL; rw [List.length_take, List.length_drop]; omega
    generalize (findE d a).2.1 = N at *
    generalize (findE d a).2.2.1 = pl at *
    generalize (findE d a).2.2.2.1 = gn at *
    generalize sbL d a = L at *
    clear hk h6 g
    unfold encD at c1 ⊢
    by_cases g1 : 31 < p.length
    · rw [if_pos g1] at h; exact absurd h (by decide)
    rw [if_neg g1] at h ⊢
    have g2 : ¬ (31 : Int) < p.length := by omega
    have hg := gS L
    refine zgo ?_
    refine zfor (α := Unit) L.length (fun k _ => [(14, true, zV k), (13, true, .c (.int .u32 (topS (L.take k)))), (9, true, zV N), (8, true, .snap (encL encSec L)), (1, true, zV a), (2, true, .snap (encL byteRow p))]) (fun k _ => []) (fun k m _ => True) ⟨1, (), trivial, ?_⟩ (fun k m _ hkk hR => ?_) (fun m _ hR => ?_)
    · exact zholds
    · have c2 := rgen_p (L.getD k zSec) (hk2 _ (getD_mem' zSec hkk)).1
      have h7 := topS_succ hkk
      have h8 : (if genS (L.getD k zSec) > topS (L.take k) then genS (L.getD k zSec) else topS (L.take k)) = topS (L.take (k + 1)) := by
        rw [← h7]; split <;> omega
      clear hk2 h7
      refine zgo ?_
      exact ⟨m, (), trivial, zholds⟩
    · rw [List.take_length]
      clear hk2
      by_cases g3 : topS L = 4294967295
      · rw [if_pos g3] at h; exact absurd h (by decide)
      rw [if_neg g3]
      have c3 := rcopy_p (topS L + 1) p (by omega)
      have w1 : IntKind.u32.wrap (topS L + 1) = topS L + 1 := by rw [IntKind.wrap_u32]; omega
      have w2 : IntKind.i64.wrap (a + 8) = a + 8 := IntWalk.i64_in _ (by omega)
      have w3 : IntKind.i64.wrap (8 * N) = 8 * N := IntWalk.i64_in _ (by omega)
      have w4 : IntKind.i64.wrap (a + 8 - 8 * N) = a + 8 - 8 * N := IntWalk.i64_in _ (by omega)
      refine zgo ?_
      refine ⟨m, rfl, [[zV 0, zV (a + 8 - 8 * N), .snap (encL encSec (putS (topS L + 1) p))], [zV 1, zV 0, .c (.slice none 0 0)]], ?_, wkr_cons (wks_refl _) (wkr_cons (wks_cons (.refl _) (wks_cons (.refl _) (wks_cons .nil wks_nil))) wkr_nil)⟩
      exact zeq
  · rw [if_neg g] at h; exact absurd h g
theorem rst_p (d : Dsk) (r : Rep) (hl : r.sizes.length ≤ 1000000) (hs : d.st.length ≤ 1000000) (h2 : d.ca.length ≤ 1000000) (hk : ∀ s ∈ newL d.st d.ca, SecOK s) : PC 85 [.agg (encD d), .agg (encR r)] (ansV (stE d r)) := by
  refine pstart Tryz.func85 Tryz.ntmps85 (by simp only [go_sem, encR]) ?_
  have c1 := rvalue_p r
  have c2 := copied_p r hl
  have c3 := rstore_p d r.super (repV r) (repV_len _) hs h2 hk
  obtain ⟨M, hM⟩ : ∃ M, stE d r = M := ⟨_, rfl⟩
  rw [hM]
  unfold stE rep0 at hM
  clear hk
  generalize storeE d r.super (repV r) = F at *
  obtain ⟨F1, F2⟩ := F
  obtain ⟨sz, sp, dt, ep, ap, ag⟩ := r
  simp only [] at *
  generalize repV ⟨sz, sp, dt, ep, ap, ag⟩ = V at *
  unfold encD encR at *
  unfold ansV encR
  by_cases g9 : F2 = 0
  · rw [if_pos g9] at hM
    subst hM g9
    refine zgo2 ?_
    exact zfin2
  · rw [if_neg g9] at hM
    subst hM
    refine zgo2 ?_
    exact zfin2
theorem rst_t (d : Dsk) (r : Rep) (hl : r.sizes.length ≤ 1000000) (hs : d.st.length ≤ 1000000) (h2 : d.ca.length ≤ 1000000) (hk : ∀ s ∈ newL d.st d.ca, SecOK s) (h : (storeE d r.super (repV r)).2 = 0) : TOCall Tryz.prog 85 [.agg (encD d), .agg (encR r)] (.tup [.agg (encR r), .own 0 0 2, zV 0]) 94 3 (encL opRow (storeE d r.super (repV r)).1) := by
  refine tstart2 Tryz.func85 Tryz.ntmps85 (by simp only [go_sem, encR, encD]) (okO_trip _ (rep_noId _) _ _) (op_noIds _) ?_
  have c1 := rvalue_p r
  have c2 := copied_p r hl
  have c3 := rstore_t d r.super (repV r) (repV_len _) hs h2 hk h
  clear hk h
  generalize storeE d r.super (repV r) = F at *
  obtain ⟨F1, F2⟩ := F
  obtain ⟨sz, sp, dt, ep, ap, ag⟩ := r
  simp only [] at *
  generalize repV ⟨sz, sp, dt, ep, ap, ag⟩ = V at *
  unfold encD encR at *
  refine zgo2 ?_
  refine ⟨_, rfl, _, ?_, wkr_refl _⟩
  exact zeq
theorem rbegin_p (d : Dsk) (r : Rep) (n : Int) (hl : r.sizes.length ≤ 1000000) (hs : d.st.length ≤ 1000000) (h2 : d.ca.length ≤ 1000000) (hk : ∀ s ∈ newL d.st d.ca, SecOK s) : PC 29 [.agg (encD d), .agg (encR r), zV n] (ansV (beginE d r n)) := by
  refine pstart Tryz.func29 Tryz.ntmps29 (by simp only [go_sem, encR]) ?_
  have c1 := rcheck_p r hl
  have c2 := copied_p r hl
  obtain ⟨M, hM⟩ : ∃ M, beginE d r n = M := ⟨_, rfl⟩
  rw [hM]
  unfold beginE rep0 at hM
  obtain ⟨sz, sp, dt, ep, ap, ag⟩ := r
  simp only [] at *
  have c3 := rst_p d ⟨sz, sp, dt, ep, ap, n⟩ hl hs h2 hk
  clear hk
  generalize stE d ⟨sz, sp, dt, ep, ap, n⟩ = F at *
  obtain ⟨⟨f1, f2, f3, f4, f5, f6⟩, F2, F3⟩ := F
  unfold encD encR at *
  unfold ansV encR at *
  simp only [] at *
  by_cases g1 : repE ⟨sz, sp, dt, ep, ap, ag⟩ = 0
  · rw [if_pos g1] at hM
    rw [g1] at c1
    by_cases g2 : n ≤ ap
    · rw [if_pos g2] at hM
      subst hM
      refine zgo2 ?_
      exact zfin2
    rw [if_neg g2] at hM
    by_cases g3 : 1073741824 < n
    · rw [if_pos g3] at hM
      subst hM
      refine zgo2 ?_
      exact zfin2
    rw [if_neg g3] at hM
    by_cases g4 : n = ag
    · rw [if_pos g4] at hM
      subst hM g4
      refine zgo2 ?_
      exact zfin2
    rw [if_neg g4] at hM
    by_cases g5 : ag ≠ 0
    · rw [if_pos g5] at hM
      subst hM
      refine zgo2 ?_
      exact zfin2
    rw [if_neg g5] at hM
    subst hM
    refine zgo2 ?_
    exact zfin2
  · rw [if_neg g1] at hM
    subst hM
    refine zgo2 ?_
    exact zfin2
theorem rend_p (d : Dsk) (r : Rep) (hl : r.sizes.length ≤ 1000000) (hs : d.st.length ≤ 1000000) (h2 : d.ca.length ≤ 1000000) (hk : ∀ s ∈ newL d.st d.ca, SecOK s) : PC 31 [.agg (encD d), .agg (encR r)] (ansV (endE d r)) := by
  refine pstart Tryz.func31 Tryz.ntmps31 (by simp only [go_sem, encR]) ?_
  have c1 := rcheck_p r hl
  have c2 := copied_p r hl
  obtain ⟨M, hM⟩ : ∃ M, endE d r = M := ⟨_, rfl⟩
  rw [hM]
  unfold endE rep0 at hM
  obtain ⟨sz, sp, dt, ep, ap, ag⟩ := r
  simp only [] at *
  have c3 := rst_p d ⟨sz, sp, dt, ep, ag, 0⟩ hl hs h2 hk
  clear hk
  generalize stE d ⟨sz, sp, dt, ep, ag, 0⟩ = F at *
  obtain ⟨⟨f1, f2, f3, f4, f5, f6⟩, F2, F3⟩ := F
  unfold encD encR at *
  unfold ansV encR at *
  simp only [] at *
  by_cases g1 : repE ⟨sz, sp, dt, ep, ap, ag⟩ = 0
  · rw [if_pos g1] at hM
    rw [g1] at c1
    by_cases g2 : ag = 0
    · rw [if_pos g2] at hM
      subst hM g2
      refine zgo2 ?_
      exact zfin2
    rw [if_neg g2] at hM
    subst hM
    refine zgo2 ?_
    exact zfin2
  · rw [if_neg g1] at hM
    subst hM
    refine zgo2 ?_
    exact zfin2
theorem rraise_p (d : Dsk) (r : Rep) (n : Int) (hl : r.sizes.length ≤ 1000000) (hs : d.st.length ≤ 1000000) (h2 : d.ca.length ≤ 1000000) (hk : ∀ s ∈ newL d.st d.ca, SecOK s) : PC 33 [.agg (encD d), .agg (encR r), zV n] (ansV (raiseE d r n)) := by
  refine pstart Tryz.func33 Tryz.ntmps33 (by simp only [go_sem, encR]) ?_
  have c1 := rcheck_p r hl
  have c2 := copied_p r hl
  obtain ⟨M, hM⟩ : ∃ M, raiseE d r n = M := ⟨_, rfl⟩
  rw [hM]
  unfold raiseE rep0 at hM
  obtain ⟨sz, sp, dt, ep, ap, ag⟩ := r
  simp only [] at *
  have c3 := rst_p d ⟨sz, sp, dt, n, ap, ag⟩ hl hs h2 hk
  clear hk
  generalize stE d ⟨sz, sp, dt, n, ap, ag⟩ = F at *
  obtain ⟨⟨f1, f2, f3, f4, f5, f6⟩, F2, F3⟩ := F
  unfold encD encR at *
  unfold ansV encR at *
  simp only [] at *
  by_cases g1 : repE ⟨sz, sp, dt, ep, ap, ag⟩ = 0
  · rw [if_pos g1] at hM
    rw [g1] at c1
    by_cases g2 : n < ep
    · rw [if_pos g2] at hM
      subst hM
      refine zgo2 ?_
      exact zfin2
    rw [if_neg g2] at hM
    by_cases g3 : 1073741824 < n
    · rw [if_pos g3] at hM
      subst hM
      refine zgo2 ?_
      exact zfin2
    rw [if_neg g3] at hM
    by_cases g4 : n = ep
    · rw [if_pos g4] at hM
      subst hM g4
      refine zgo2 ?_
      exact zfin2
    rw [if_neg g4] at hM
    subst hM
    refine zgo2 ?_
    exact zfin2
  · rw [if_neg g1] at hM
    subst hM
    refine zgo2 ?_
    exact zfin2
theorem rbegin_t (d : Dsk) (r : Rep) (n : Int) (hl : r.sizes.length ≤ 1000000) (hs : d.st.length ≤ 1000000) (h2 : d.ca.length ≤ 1000000) (hk : ∀ s ∈ newL d.st d.ca, SecOK s)
    (g1 : repE r = 0) (g2 : ¬ n ≤ r.applied) (g3 : ¬ 1073741824 < n) (g4 : n ≠ r.applying) (g6 : r.applying = 0) (g7 : (storeE d r.super (repV ⟨r.sizes, r.super, r.data, r.epoch, r.applied, n⟩)).2 = 0) :
    TOCall Tryz.prog 29 [.agg (encD d), .agg (encR r), zV n] (.tup [.agg (encR ⟨r.sizes, r.super, r.data, r.epoch, r.applied, n⟩), .own 0 0 2, zV 0]) 94 3 (encL opRow (storeE d r.super (repV ⟨r.sizes, r.super, r.data, r.epoch, r.applied, n⟩)).1) := by
  refine tstart2 Tryz.func29 Tryz.ntmps29 (by simp only [go_sem, encR, encD]) (okO_trip _ (rep_noId _) _ _) (op_noIds _) ?_
  have c1 := rcheck_p r hl
  have c3 := rst_t d ⟨r.sizes, r.super, r.data, r.epoch, r.applied, n⟩ hl hs h2 hk g7
  rw [g1] at c1
  clear hk g7 g1
  obtain ⟨sz, sp, dt, ep, ap, ag⟩ := r
  simp only [] at *
  generalize storeE d sp (repV ⟨sz, sp, dt, ep, ap, n⟩) = F at *
  obtain ⟨F1, F2⟩ := F
  simp only [] at *
  unfold encR encD at *
  subst g6
  have g5 : ¬ (0 : Int) = n := fun h => g4 h.symm
  refine zgo2 ?_
  refine ⟨_, rfl, _, ?_, wkr_refl _⟩
  exact zeq
end Go.Proofs.YtkghiceeegindaaGreatDoor
