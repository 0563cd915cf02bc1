/- Apply: contracts of its functions. No condition but those named. -/
import Derived.Test.YtkghiceeegindaaGreatDoorAj
import Derived.Test.YtkghiceeegindaaGreatDoorAi
import Derived.Test.YtkghiceeegindaaGreatDoorAh
import Derived.Test.YtkghiceeegindaaGreatDoorAe
import Derived.Test.YtkghiceeegindaaGreatDoorLe
/- What is the same as itself. -/
namespace Go.Proofs.YtkghiceeegindaaGreatDoor
open Go.Proofs Go.AL
set_option maxRecDepth 100000
set_option maxHeartbeats 1000000
set_option linter.unusedVariables false
set_option linter.unusedSimpArgs false
attribute [local irreducible] endA AW aops thenA blockA hold

theorem guardSec : Tryz.prog.eqGuardType Tryz.prog.depth 96 = false := by kernel_rfl
theorem eqA_sec (d : Nat) (s t : Sec) : eqA Tryz.prog (d + 2) 96 (.agg (encSec s)) (.agg (encSec t)) = some (decide (s = t)) := by
  have h5 : Tryz.prog.underlying 5 = some (.int .u8) := Tryz.underlying5
  simp only [eqA, Tryz.underlying96, szT5, eqIs, partA, isAggT5, encSec, List.range_succ, List.range_zero, List.nil_append, List.cons_append, Nat.zero_mul, Nat.mul_one, List.getElem?_cons_zero, List.getElem?_cons_succ, h5, if_true]
  obtain ⟨⟨a, b, c, e⟩, ⟨f, g, h, i⟩⟩ := s
  obtain ⟨⟨a', b', c', e'⟩, ⟨f', g', h', i'⟩⟩ := t
  simp only [Option.some.injEq, Prod.mk.injEq]
  rw [Bool.eq_iff_iff]
  simp only [Bool.and_eq_true, beq_iff_eq, decide_eq_true_eq, Bool.and_true, and_assoc]
@[go_sem] theorem eqs_sec (s : Sec) : eqTop Tryz.prog 96 (.agg (encSec s)) (.agg (encSec s)) = some true := by
  unfold eqTop
  rw [guardSec, if_neg (by simp)]
  exact (eqA_sec 9998 s s).trans (by simp)
theorem sameInts_p (l : List Int) (hl : l.length ≤ 1000000) : PC 65 [.snap (encL intRow l), .snap (encL intRow l)] (bV true) := by
  refine pstart Tryz.func65 Tryz.ntmps65 (.c _) ?_
  have hg := gI l
  refine zgo2 ?_
  refine zfor1 l.length 0 [] (fun k => [(5, true, zV k), (0, true, .snap (encL intRow l)), (1, true, .snap (encL intRow l))]) zholds (fun k m hlt hm => ?_) (fun m hm => ?_)
  · have hgk := hg k hlt
    clear hg
    refine zgo2 ?_
    refine ⟨m + 200, by omega, zholds⟩
  · clear hg
    refine zgo2 ?_
    exact zfin
theorem sameSecs_p (l : List Sec) (hl : l.length ≤ 1000000) : PC 66 [.snap (encL encSec l), .snap (encL encSec l)] (bV true) := by
  refine pstart Tryz.func66 Tryz.ntmps66 (.c _) ?_
  have hg := gS l
  refine zgo2 ?_
  refine zfor1 l.length 0 [] (fun k => [(5, true, zV k), (0, true, .snap (encL encSec l)), (1, true, .snap (encL encSec l))]) zholds (fun k m hlt hm => ?_) (fun m hm => ?_)
  · have hgk := hg k hlt
    clear hg
    refine zgo2 ?_
    refine ⟨m + 200, by omega, zholds⟩
  · clear hg
    refine zgo2 ?_
    exact zfin
theorem sameVol_p (l : List Sec) (hl : l.length ≤ 1000000) : PC 81 [.snap (encL encSec l), .snap (encL encSec l)] (bV true) := by
  refine pstart Tryz.func81 Tryz.ntmps81 (.c _) ?_
  have hg := gS l
  refine zgo2 ?_
  refine zfor1 l.length 0 [] (fun k => [(5, true, zV k), (0, true, .snap (encL encSec l)), (1, true, .snap (encL encSec l))]) zholds (fun k m hlt hm => ?_) (fun m hm => ?_)
  · have hgk := hg k hlt
    clear hg
    refine zgo2 ?_
    refine ⟨m + 200, by omega, zholds⟩
  · clear hg
    refine zgo2 ?_
    exact zfin
theorem eqSl_p (l : List Sec) (hl : l.length ≤ 1000000) : PC 96 [.snap (encL encSec l), .snap (encL encSec l)] (bV true) := by
  refine pstart Tryz.func96 Tryz.ntmps96 (.c _) ?_
  have hg := gS l
  refine zgo2 ?_
  refine zfor1 l.length 0 [] (fun k => [(13, true, zV k), (12, true, zV l.length), (0, true, .snap (encL encSec l)), (1, true, .snap (encL encSec l))]) zholds (fun k m hlt hm => ?_) (fun m hm => ?_)
  · have hgk := hg k hlt
    clear hg
    refine zgo2 ?_
    refine ⟨m + 200, by omega, zholds⟩
  · clear hg
    refine zgo2 ?_
    exact zfin
theorem gVol (l : List (List Sec)) (k : Nat) (h : k < l.length) : (encL volRow l)[k]? = some (volRow (l.getD k [])) := encL_get [] h
theorem same7_p (l : List (List Sec)) (hl : l.length ≤ 1000000) (hs : ∀ v ∈ l, v.length ≤ 1000000) : PC 27 [.snap (encL volRow l), .snap (encL volRow l)] (bV true) := by
  refine pstart Tryz.func27 Tryz.ntmps27 (.c _) ?_
  have hg := gVol l
  refine zgo2 ?_
  refine zfor1 l.length 0 [] (fun k => [(5, true, zV k), (0, true, .snap (encL volRow l)), (1, true, .snap (encL volRow l))]) zholds (fun k m hlt hm => ?_) (fun m hm => ?_)
  · have hgk := hg k hlt
    clear hg
    have hm1 : l.getD k [] ∈ l := getD_mem' [] hlt
    have c1 := sameVol_p (l.getD k []) (hs _ hm1)
    have hgk2 : (encL volRow l)[k]? = some [.snap (encL encSec (l.getD k []))] := hgk
    clear hgk
    refine zgo2 ?_
    refine ⟨m + 200, by omega, zholds⟩
  · clear hg
    refine zgo2 ?_
    exact zfin
theorem eqF_p (l : List (List Sec)) (hl : l.length ≤ 1000000) (hs : ∀ v ∈ l, v.length ≤ 1000000) : PC 95 [.snap (encL volRow l), .snap (encL volRow l), .fn (.func 96) [] []] (bV true) := by
  refine pstart Tryz.func95 Tryz.ntmps95 (.c _) ?_
  have hg := gVol l
  refine zgo2 ?_
  refine zfor1 l.length 0 [] (fun k => [(17, true, zV k), (16, true, zV l.length), (15, true, .snap (encL volRow l)), (1, true, .snap (encL volRow l)), (2, true, .fn (.func 96) [] [])]) zholds (fun k m hlt hm => ?_) (fun m hm => ?_)
  · have hgk := hg k hlt
    clear hg
    have hm1 : l.getD k [] ∈ l := getD_mem' [] hlt
    have c1 := eqSl_p (l.getD k []) (hs _ hm1)
    have hgk2 : (encL volRow l)[k]? = some [.snap (encL encSec (l.getD k []))] := hgk
    clear hgk
    refine zgo2 ?_
    refine ⟨m + 200, by omega, zholds⟩
  · clear hg
    refine zgo2 ?_
    exact zfin
theorem imsame_p (l : List (List Sec)) (hl : l.length ≤ 1000000) (hs : ∀ v ∈ l, v.length ≤ 1000000) : PC 40 [.snap (encL volRow l), .snap (encL volRow l)] (bV true) := by
  refine pstart Tryz.func40 Tryz.ntmps40 (.c _) ?_
  have c1 := eqF_p l hl hs
  refine zgo2 ?_
  exact zfin
theorem sameOps_p (l : List Opr) (hl : l.length ≤ 1000000) (hs : ∀ o ∈ l, o.2.2.length ≤ 1000000) : PC 17 [.snap (encL opRow l), .snap (encL opRow l)] (bV true) := by
  refine pstart Tryz.func17 Tryz.ntmps17 (.c _) ?_
  have hg := gO l
  refine zgo2 ?_
  refine zfor1 l.length 0 [] (fun k => [(5, true, zV k), (0, true, .snap (encL opRow l)), (1, true, .snap (encL opRow l))]) zholds (fun k m hlt hm => ?_) (fun m hm => ?_)
  · have hgk := hg k hlt
    clear hg
    have hm1 : l.getD k zOp ∈ l := getD_mem' zOp hlt
    have c1 := sameSecs_p (l.getD k zOp).2.2 (hs _ hm1)
    unfold opRow at hgk
    have hgk2 : (encL opRow l)[k]? = some [zV (l.getD k zOp).1, zV (l.getD k zOp).2.1, .snap (encL encSec (l.getD k zOp).2.2)] := hgk
    clear hgk
    refine zgo2 ?_
    refine ⟨m + 200, by omega, zholds⟩
  · clear hg
    refine zgo2 ?_
    exact zfin
theorem same35_p (r : Rep) (hl : r.sizes.length ≤ 1000000) : PC 16 [.agg (encR r), .agg (encR r)] (bV true) := by
  refine pstart Tryz.func16 Tryz.ntmps16 (.c _) ?_
  have c1 := sameInts_p r.sizes hl
  obtain ⟨sz, sp, dt, ep, ap, ag⟩ := r
  unfold encR at *
  refine zgo2 ?_
  exact zfin
end Go.Proofs.YtkghiceeegindaaGreatDoor

/- What is small. -/
namespace Go.Proofs.YtkghiceeegindaaGreatDoor
open Go.Proofs Go.AL
set_option maxRecDepth 100000
set_option maxHeartbeats 1000000
set_option linter.unusedVariables false
set_option linter.unusedSimpArgs false
attribute [local irreducible] endA AW aops thenA blockA hold

def fewD (d : Dsk) : Bool := decide (d.st.length ≤ 400) && decide (d.ca.length ≤ 400)
theorem fewD_p (d : Dsk) (h1 : d.st.length ≤ 9223372036854775807) (h2 : d.ca.length ≤ 9223372036854775807) : PC 44 [.agg (encD d)] (bV (fewD d)) := by
  refine pstart Tryz.func44 Tryz.ntmps44 (.c _) ?_
  obtain ⟨M, hM⟩ : ∃ M, fewD d = M := ⟨_, rfl⟩
  rw [hM]
  unfold fewD at hM
  unfold encD
  by_cases g1 : d.st.length ≤ 400
  · by_cases g2 : d.ca.length ≤ 400
    · obtain rfl : M = true := by rw [← hM]; simp [g1, g2]
      clear hM
      refine zgo2 ?_
      exact zfin
    · obtain rfl : M = false := by rw [← hM]; simp [g1, g2]
      clear hM
      refine zgo2 ?_
      exact zfin
  · obtain rfl : M = false := by rw [← hM]; simp [g1]
    clear hM
    refine zgo2 ?_
    exact zfin
def midS (n : Int) : Bool := decide (60 < n) && decide (n ≤ 4096)
def fewR (r : Rep) : Bool := !((r.sizes.take 20).any midS) && decide (r.sizes.length ≤ 20)
theorem fewR_bad {r : Rep} {k : Nat} (h1 : k < r.sizes.length) (h2 : k < 20) (h : midS (r.sizes.getD k 0) = true) : fewR r = false := by
  have hm : r.sizes.getD k 0 ∈ r.sizes.take 20 := by
    rw [List.getD_eq_getElem?_getD, List.getElem?_eq_getElem h1, Option.getD_some]
    exact List.mem_take_iff_getElem.2 ⟨k, by omega, rfl⟩
  have : (r.sizes.take 20).any midS = true := List.any_eq_true.2 ⟨_, hm, h⟩
  unfold fewR
  rw [this]
  rfl
theorem fewR_ok {r : Rep} (h : ∀ i, i < r.sizes.length → i < 20 → midS (r.sizes.getD i 0) = false) : fewR r = decide (r.sizes.length ≤ 20) := by
  have : (r.sizes.take 20).any midS = false := by
    rw [List.any_eq_false]
    intro x hx
    obtain ⟨i, hi, rfl⟩ := List.mem_take_iff_getElem.1 hx
    have := h i (by omega) (by omega)
    rw [List.getD_eq_getElem?_getD, List.getElem?_eq_getElem (by omega), Option.getD_some] at this
    simp [this]
  unfold fewR
  rw [this]
  rfl
theorem fewR_p (r : Rep) (hl : r.sizes.length ≤ 9223372036854775807) : PC 45 [.agg (encR r)] (bV (fewR r)) := by
  refine pstart Tryz.func45 Tryz.ntmps45 (.c _) ?_
  obtain ⟨M, hM⟩ : ∃ M, fewR r = M := ⟨_, rfl⟩
  have hbad := fun k h1 h2 => fewR_bad (r := r) (k := k) h1 h2
  have hok := fewR_ok (r := r)
  rw [hM] at hok hbad ⊢
  clear hM
  have hbad' := Lat.mk hbad
  have hok' := Lat.mk hok
  clear hbad hok
  obtain ⟨sz, sp, dt, ep, ap, ag⟩ := r
  unfold encR
  simp only [] at *
  have hg := gI sz
  refine zgo2 ?_
  refine zfor (α := Unit) (min sz.length 20) (fun k _ => [(3, true, zV k), (1, true, .ptr 0 0 0)]) (fun _ _ => [(0, some (.cells 31 6 [[.snap (encL intRow sz), zV sp, zV dt, zV ep, zV ap, zV ag]] true false))]) (fun k m _ => 1 ≤ m ∧ ∀ i, i < k → midS (sz.getD i 0) = false) ⟨1, (), ⟨by omega, fun i hi => by omega⟩, zholds⟩ (fun k m _ hk hR => ?_) (fun m _ hR => ?_)
  · obtain ⟨hm, hR⟩ := hR
    have hR' := Lat.mk hR
    have hk2 : k < sz.length := by omega
    have hk3 : k < 20 := by omega
    have hgk := hg k hk2
    clear hR hg hk
    by_cases g1 : 60 < sz.getD k 0
    · by_cases g2 : sz.getD k 0 ≤ 4096
      · obtain rfl := hbad'.out k hk2 hk3 (by unfold midS; rw [decide_eq_true g1, decide_eq_true g2]; rfl)
        refine zgo2 ?_
        exact zfin
      · have h9 : midS (sz.getD k 0) = false := by unfold midS; rw [decide_eq_false g2, Bool.and_false]
        have h9' := Lat.mk h9
        clear h9
        refine zgo2 ?_
        refine ⟨m + 60, (), ⟨by omega, fun i hi => ?_⟩, zholds⟩
        by_cases hik : i = k
        · subst hik; exact h9'.out
        · exact hR'.out i (by omega)
    · have h9 : midS (sz.getD k 0) = false := by unfold midS; rw [decide_eq_false g1, Bool.false_and]
      have h9' := Lat.mk h9
      clear h9
      refine zgo2 ?_
      refine ⟨m + 60, (), ⟨by omega, fun i hi => ?_⟩, zholds⟩
      by_cases hik : i = k
      · subst hik; exact h9'.out
      · exact hR'.out i (by omega)
  · obtain ⟨hm, hR⟩ := hR
    have hok := hok'.out fun i (h1 : i < sz.length) h2 => hR i (by omega)
    simp only [] at hok
    clear hR hg
    by_cases g1 : sz.length ≤ 20
    · obtain rfl : M = true := by rw [hok]; simp [g1]
      have g3 : ((min sz.length 20 : Nat) : Int) = sz.length := by omega
      have g4 : min sz.length 20 = sz.length := by omega
      rw [g4]
      clear g3 g4 hok
      refine zgo2 ?_
      exact zfin
    · obtain rfl : M = false := by rw [hok]; simp [g1]
      have g4 : min sz.length 20 = 20 := by omega
      rw [g4]
      clear g4 hok
      refine zgo2 ?_
      exact zfin
theorem few_p (d : Dsk) (r : Rep) (h1 : d.st.length ≤ 9223372036854775807) (h2 : d.ca.length ≤ 9223372036854775807) (hl : r.sizes.length ≤ 9223372036854775807) : PC 10 [.agg (encD d), .agg (encR r)] (bV (fewD d && fewR r)) := by
  refine pstart Tryz.func10 Tryz.ntmps10 (.c _) ?_
  have c1 := fewD_p d h1 h2
  have c2 := fewR_p r hl
  generalize fewD d = x at *
  generalize fewR r = y at *
  obtain ⟨sz, sp, dt, ep, ap, ag⟩ := r
  unfold encR encD at *
  simp only [] at *
  cases x <;> cases y <;> (refine zgo2 ?_; exact zfin)
def bigW (w : Wrt) : Bool := decide (24 < w.2.2.length)
def fewW (l : List Wrt) : Bool := !((l.take 60).any bigW) && decide (l.length ≤ 40)
theorem fewW_bad {l : List Wrt} {k : Nat} (h1 : k < l.length) (h2 : k < 60) (h : bigW (l.getD k zWr) = true) : fewW l = false := by
  have hm : l.getD k zWr ∈ l.take 60 := by
    rw [List.getD_eq_getElem?_getD, List.getElem?_eq_getElem h1, Option.getD_some]
    exact List.mem_take_iff_getElem.2 ⟨k, by omega, rfl⟩
  have : (l.take 60).any bigW = true := List.any_eq_true.2 ⟨_, hm, h⟩
  unfold fewW
  rw [this]
  rfl
theorem fewW_ok {l : List Wrt} (h : ∀ i, i < l.length → i < 60 → bigW (l.getD i zWr) = false) : fewW l = decide (l.length ≤ 40) := by
  have : (l.take 60).any bigW = false := by
    rw [List.any_eq_false]
    intro x hx
    obtain ⟨i, hi, rfl⟩ := List.mem_take_iff_getElem.1 hx
    have := h i (by omega) (by omega)
    rw [List.getD_eq_getElem?_getD, List.getElem?_eq_getElem (by omega), Option.getD_some] at this
    simp [this]
  unfold fewW
  rw [this]
  rfl
theorem fewW_p (l : List Wrt) (hl : l.length ≤ 9223372036854775807) (hs : ∀ w ∈ l, w.2.2.length ≤ 9223372036854775807) : PC 67 [.snap (encL opRow l)] (bV (fewW l)) := by
  refine pstart Tryz.func67 Tryz.ntmps67 (.c _) ?_
  obtain ⟨M, hM⟩ : ∃ M, fewW l = M := ⟨_, rfl⟩
  have hbad := fun k h1 h2 => fewW_bad (l := l) (k := k) h1 h2
  have hok := fewW_ok (l := l)
  rw [hM] at hok hbad ⊢
  clear hM
  have hbad' := Lat.mk hbad
  have hok' := Lat.mk hok
  have hs' := Lat.mk hs
  clear hbad hok hs
  refine zgo2 ?_
  refine zfor (α := Unit) (min l.length 60) (fun k _ => [(3, true, zV k), (0, true, .snap (encL opRow l))]) (fun _ _ => []) (fun k m _ => ∀ i, i < k → bigW (l.getD i zWr) = false) ⟨0, (), fun i hi => by omega, zholds⟩ (fun k m _ hk hR => ?_) (fun m _ hR => ?_)
  · have hR' := Lat.mk hR
    have hk2 : k < l.length := by omega
    have hk3 : k < 60 := by omega
    have hgk : (encL opRow l)[k]? = some [zV (l.getD k zWr).1, zV (l.getD k zWr).2.1, .snap (encL encSec (l.getD k zWr).2.2)] := gO l k hk2
    have hsk := hs'.out _ (getD_mem' zWr hk2)
    clear hR hk
    by_cases g1 : 24 < (l.getD k zWr).2.2.length
    · obtain rfl := hbad'.out k hk2 hk3 (by unfold bigW; rw [decide_eq_true g1])
      refine zgo2 ?_
      exact zfin
    · have h9 : bigW (l.getD k zWr) = false := by unfold bigW; rw [decide_eq_false g1]
      have h9' := Lat.mk h9
      clear h9
      refine zgo2 ?_
      refine ⟨m + 60, (), fun i hi => ?_, zholds⟩
      by_cases hik : i = k
      · subst hik; exact h9'.out
      · exact hR'.out i (by omega)
  · have hok := hok'.out fun i h1 h2 => hR i (by omega)
    clear hR
    by_cases g1 : l.length ≤ 40
    · obtain rfl : M = true := by rw [hok]; simp [g1]
      have g4 : min l.length 60 = l.length := by omega
      rw [g4]
      clear g4 hok
      refine zgo2 ?_
      exact zfin
    · obtain rfl : M = false := by rw [hok]; simp [g1]
      by_cases g2 : l.length ≤ 60
      · have g4 : min l.length 60 = l.length := by omega
        rw [g4]
        clear g4 hok
        refine zgo2 ?_
        exact zfin
      · have g4 : min l.length 60 = 60 := by omega
        rw [g4]
        clear g4 hok
        refine zgo2 ?_
        exact zfin
theorem fewC_p (c : Cyc) (hp : c.pos.length ≤ 9223372036854775807) (hl : c.writes.length ≤ 9223372036854775807) (hs : ∀ w ∈ c.writes, w.2.2.length ≤ 9223372036854775807) : PC 18 [.agg (encC c)] (bV (decide (c.pos.length ≤ 40) && fewW c.writes)) := by
  refine pstart Tryz.func18 Tryz.ntmps18 (.c _) ?_
  have c1 := fewW_p c.writes hl hs
  generalize fewW c.writes = x at *
  clear hs
  obtain ⟨b, n, t, ps, ws⟩ := c
  unfold encC at *
  simp only [] at *
  by_cases g : ps.length ≤ 40
  · have e1 : decide (ps.length ≤ 40) = true := by simp [g]
    rw [e1]
    cases x <;> (refine zgo2 ?_; exact zfin)
  · have e1 : decide (ps.length ≤ 40) = false := by simp [g]
    rw [e1]
    refine zgo2 ?_
    exact zfin
theorem step_p (d : Dsk) (ops : List Opr) (h1 : d.st.length ≤ 1000000) (h2 : d.ca.length + ops.length * 4096 ≤ 400000) : PC 38 [.agg (encD d), .snap (encL opRow ops)] (.agg (encD (runE d ops).1)) := by
  refine pstart Tryz.func38 Tryz.ntmps38 (by simp only [go_sem, encD]) ?_
  have c1 := drun_p d ops h1 h2
  generalize runE d ops = R at *
  obtain ⟨x, n, e⟩ := R
  unfold encD at *
  simp only [] at *
  refine zgo2 ?_
  exact zfin
end Go.Proofs.YtkghiceeegindaaGreatDoor

/- What awake comes by, in plain terms. -/
namespace Go.Proofs.YtkghiceeegindaaGreatDoor
open Go.Proofs Go.AL

def byteB (x : Int) : Bool := decide (0 ≤ x) && decide (x < 256)
theorem byteB_ok {x : Int} (h : byteB x = true) : ByteOK x := by
  unfold byteB at h
  rw [Bool.and_eq_true] at h
  exact ⟨of_decide_eq_true h.1, of_decide_eq_true h.2⟩
def secB (s : Sec) : Bool := byteB s.1.1 && byteB s.1.2.1 && byteB s.1.2.2.1 && byteB s.1.2.2.2 && (d4 s).all byteB
theorem secB_ok {s : Sec} (h : secB s = true) : SecOK s := by
  unfold secB at h
  simp only [Bool.and_eq_true, List.all_eq_true] at h
  obtain ⟨⟨⟨⟨a, b⟩, c⟩, d⟩, e⟩ := h
  exact ⟨⟨byteB_ok a, byteB_ok b, byteB_ok c, byteB_ok d⟩, fun x hx => byteB_ok (e x hx)⟩
def dskB (d : Dsk) : Bool := d.st.all secB && d.ca.all fun c => secB c.2
theorem dskB_ok {d : Dsk} (h : dskB d = true) : DskOK d := by
  unfold dskB at h
  simp only [Bool.and_eq_true, List.all_eq_true] at h
  exact ⟨fun s hs => secB_ok (h.1 s hs), fun c hc => secB_ok (h.2 c hc)⟩
def s1 : Sec := ((1, 0, 0, 0), (0, 0, 0, 0))
def s2 : Sec := ((2, 0, 0, 0), (0, 0, 0, 0))
def aD : Dsk := (newE2 20).1
def aF := fmtE [4] 0 16 3
def aX : Dsk := (runE aD aF.2.1).1
def aC : Cyc := ⟨0, 1, 0, [], [(0, 1, [s1, s2])]⟩
def aA := applyE aX aF.1 aC
def aI := interE aX aA.2.1 3 [1, 0]
def aL := loadE aI.1 [4] 0 16
def aM := imgE aI.1 aL.1
def aK := copyE aL.1 aC
def aY : Dsk := (runE aI.1 aK.1).1
def aE := endE aY aL.1
def aZ : Dsk := (runE aY aE.2.1).1
def aN := imgE aZ aE.1
def aO : Opr := aF.2.1.getD 0 zOp
def aP : Opr := aA.2.1.getD 2 zOp
theorem fN : (newE2 20).2 = 0 := by kernel_rfl
theorem fF1 : aF.2.2 = 0 := by kernel_rfl
theorem fF2 : aF.2.1.length = 6 := by kernel_rfl
theorem fO1 : aO.2.1 = 16 := by kernel_rfl
theorem fO2 : aO.2.2.length = 4 := by kernel_rfl
theorem fA1 : aA.2.2 = 0 := by kernel_rfl
theorem fA2 : aA.2.1.length = 6 := by kernel_rfl
theorem fP1 : aP.2.1 = 17 := by kernel_rfl
theorem fA3 : aA.1.applied = 1 := by kernel_rfl
theorem fA4 : aA.1.applying = 0 := by kernel_rfl
theorem fI : aI.2.2 = 0 := by kernel_rfl
theorem fL1 : aL.2 = 0 := by kernel_rfl
theorem fL2 : aL.1.applied = 0 := by kernel_rfl
theorem fL3 : aL.1.applying = 1 := by kernel_rfl
theorem fL4 : aL.1.epoch = 3 := by kernel_rfl
theorem fM : aM.2 = 12 := by kernel_rfl
theorem fK : aK.2 = 0 := by kernel_rfl
theorem fE : aE.2.2 = 0 := by kernel_rfl
theorem fN2 : aN.2 = 0 := by kernel_rfl
theorem fN1 : aN.1 = [[zSec, s1, s2, zSec]] := by kernel_rfl
theorem dX : dskB aX = true := by kernel_rfl
theorem dI : dskB aI.1 = true := by kernel_rfl
theorem dY : dskB aY = true := by kernel_rfl
def lenB (d : Dsk) : Bool := decide (d.st.length ≤ 1000) && decide (d.ca.length ≤ 1000)
theorem lenB_ok {d : Dsk} (h : lenB d = true) : d.st.length ≤ 1000 ∧ d.ca.length ≤ 1000 := by
  unfold lenB at h
  rw [Bool.and_eq_true] at h
  exact ⟨of_decide_eq_true h.1, of_decide_eq_true h.2⟩
theorem lD : lenB aD = true := by kernel_rfl
theorem lX : lenB aX = true := by kernel_rfl
theorem lI : lenB aI.1 = true := by kernel_rfl
theorem lY : lenB aY = true := by kernel_rfl
theorem lZ : lenB aZ = true := by kernel_rfl
theorem lR : lenB (runE aX (aA.2.1.take (3 : Int).toNat)).1 = true := by kernel_rfl
theorem lF : aF.1.sizes.length = 1 := by kernel_rfl
theorem lL : aL.1.sizes.length = 1 := by kernel_rfl
theorem lE : aE.1.sizes.length = 1 := by kernel_rfl
theorem lK : aK.1.length = 2 := by kernel_rfl
theorem lE2 : aE.2.1.length = 2 := by kernel_rfl
end Go.Proofs.YtkghiceeegindaaGreatDoor

/- awake() returns true. -/
namespace Go.Proofs.YtkghiceeegindaaGreatDoor
open Go.Proofs Go.AL
set_option maxRecDepth 100000
set_option maxHeartbeats 2000000
set_option linter.unusedVariables false
set_option linter.unusedSimpArgs false
attribute [local irreducible] endA AW aops thenA blockA hold

theorem k_new : PC 46 [zV 20] (.tup [.agg (encD aD), zV 0]) := by
  have h := dnew_p 20
  rw [fN] at h
  exact h
theorem k_fmt : PC 12 [.snap [[zV 4]], zV 0, zV 16, zV 3] (.tup [.agg (encR aF.1), .snap (encL opRow aF.2.1), zV 0]) := by
  have h := format_p [4] 0 16 3 (by decide)
  rw [show (fmtE [4] 0 16 3).2.2 = 0 from fF1] at h
  exact h
theorem k_step : PC 38 [.agg (encD aD), .snap (encL opRow aF.2.1)] (.agg (encD aX)) :=
  step_p aD aF.2.1 (by have := lenB_ok lD; omega) (by have := lenB_ok lD; have := fF2; omega)
theorem ok_C : CycLen aC := ⟨by decide, by decide, by decide⟩
theorem ok_W : ∀ w ∈ aC.writes, ∀ s ∈ w.2.2, SecOK s := by
  intro w hw s hs
  have : (aC.writes.all fun w => w.2.2.all secB) = true := by kernel_rfl
  rw [List.all_eq_true] at this
  have := this w hw
  rw [List.all_eq_true] at this
  exact secB_ok (this s hs)
abbrev nilS : AV := .c (.slice none 0 0)
abbrev cycV : AV := .agg [zV 0, zV 1, zV 0, nilS, .snap [[zV 0, zV 1, .snap [[uV 1, uV 0, uV 0, uV 0, uV 0, uV 0, uV 0, uV 0], [uV 2, uV 0, uV 0, uV 0, uV 0, uV 0, uV 0, uV 0]]]]]
theorem wk_cyc : Wk cycV (.agg (encC aC)) := by
  refine wk_agg ?_
  refine wks_cons (.refl _) (wks_cons (.refl _) (wks_cons (.refl _) (wks_cons .nil (wks_cons (.refl _) wks_nil))))
theorem k_app : PC 21 [.agg (encD aX), .agg (encR aF.1), cycV] (.tup [.agg (encR aA.1), .snap (encL opRow aA.2.1), zV 0]) := by
  have h := apply_p aX aF.1 aC (by rw [lF]; decide) ok_C (by have := lenB_ok lX; omega) (by have := lenB_ok lX; have h : aC.writes.length = 1 := rfl; omega) (dskB_ok dX) ok_W
  unfold ansV at h
  rw [show (applyE aX aF.1 aC).2.2 = 0 from fA1] at h
  exact h.less (wks_cons (.refl _) (wks_cons (.refl _) (wks_cons wk_cyc wks_nil)))
theorem k_int : PC 42 [.agg (encD aX), .snap (encL opRow aA.2.1), zV 3, .snap [[zV 1], [zV 0]]] (.tup [.agg (encD aI.1), .snap (encL intRow aI.2.1), zV 0]) := by
  have h := inter_p aX aA.2.1 3 [1, 0] (by decide) (by have := lenB_ok lX; omega) (by rw [fA2]; decide) (by have := lenB_ok lX; have := fA2; omega) (by have := lenB_ok lR; omega)
  rw [show (interE aX aA.2.1 3 [1, 0]).2.2 = 0 from fI] at h
  exact h
theorem k_load : PC 14 [.agg (encD aI.1), .snap [[zV 4]], zV 0, zV 16] (.tup [.agg (encR aL.1), zV 0]) := by
  have h := aload_p aI.1 [4] 0 16 (by decide) (by have := lenB_ok lI; omega) (by have := lenB_ok lI; omega) (dskB_ok dI).new
  rw [show (loadE aI.1 [4] 0 16).2 = 0 from fL1] at h
  exact h
theorem k_im1 : PC 23 [.agg (encD aI.1), .agg (encR aL.1)] (.tup [.snap (encL volRow aM.1), zV 12]) := by
  have h := image_p aI.1 aL.1 (by rw [lL]; decide) (by have := lenB_ok lI; omega) (by have := lenB_ok lI; omega)
  rw [show (imgE aI.1 aL.1).2 = 12 from fM] at h
  exact h
theorem k_copy : PC 19 [.agg (encR aL.1), cycV] (.tup [.snap (encL opRow aK.1), zV 0]) := by
  have h := copy_p aL.1 aC (by rw [lL]; decide) ok_C
  rw [show (copyE aL.1 aC).2 = 0 from fK] at h
  exact h.less (wks_cons (.refl _) (wks_cons wk_cyc wks_nil))
theorem k_step2 : PC 38 [.agg (encD aI.1), .snap (encL opRow aK.1)] (.agg (encD aY)) :=
  step_p aI.1 aK.1 (by have := lenB_ok lI; omega) (by have := lenB_ok lI; have := lK; omega)
theorem k_end : PC 30 [.agg (encD aY), .agg (encR aL.1)] (.tup [.agg (encR aE.1), .snap (encL opRow aE.2.1), zV 0]) := by
  have h := end_pp aY aL.1 (by rw [lL]; decide) (by have := lenB_ok lY; omega) (by have := lenB_ok lY; omega) (dskB_ok dY).new
  unfold ansV at h
  rw [show (endE aY aL.1).2.2 = 0 from fE] at h
  exact h
theorem k_step3 : PC 38 [.agg (encD aY), .snap (encL opRow aE.2.1)] (.agg (encD aZ)) :=
  step_p aY aE.2.1 (by have := lenB_ok lY; omega) (by have := lenB_ok lY; have := lE2; omega)
theorem k_im2 : PC 23 [.agg (encD aZ), .agg (encR aE.1)] (.tup [.snap (encL volRow aN.1), zV 0]) := by
  have h := image_p aZ aE.1 (by rw [lE]; decide) (by have := lenB_ok lZ; omega) (by have := lenB_ok lZ; omega)
  rw [show (imgE aZ aE.1).2 = 0 from fN2] at h
  exact h
abbrev zR : List AV := [uV 0, uV 0, uV 0, uV 0, uV 0, uV 0, uV 0, uV 0]
theorem k_same : FC 40 [.snap (encL volRow aN.1), .snap [[.snap [zR, [uV 1, uV 0, uV 0, uV 0, uV 0, uV 0, uV 0, uV 0], [uV 2, uV 0, uV 0, uV 0, uV 0, uV 0, uV 0, uV 0], zR]]]] (bV true) := by
  have h := imsame_p aN.1 (by rw [fN1]; decide) (by rw [fN1]; decide)
  have e : encL volRow aN.1 = [[.snap [zR, [uV 1, uV 0, uV 0, uV 0, uV 0, uV 0, uV 0, uV 0], [uV 2, uV 0, uV 0, uV 0, uV 0, uV 0, uV 0, uV 0], zR]]] := by rw [fN1]; rfl
  rw [e] at h ⊢
  exact FCall.ofK h rfl
theorem fzrow {id n : Nat} {rows : List (List AV)} {xs : List AV} (hn : n = rows.length) : FzRows id rows [xs ++ [.own id 0 n]] [xs ++ [.snap rows]] := by
  subst hn
  refine ⟨rfl, fun i r r' hr hr' => ?_⟩
  cases i with
  | succ i => simp at hr
  | zero =>
    simp only [List.getElem?_cons_zero, Option.some.injEq] at hr hr'
    subst hr; subst hr'
    refine ⟨by simp, fun k x y hx hy => ?_⟩
    by_cases hk : k < xs.length
    · rw [List.getElem?_append_left hk] at hx hy
      rw [hx] at hy
      injection hy with hy
      exact .inl hy
    · rw [List.getElem?_append_right (by omega)] at hx hy
      cases h9 : k - xs.length with
      | succ j => rw [h9] at hx; simp at hx
      | zero =>
        rw [h9] at hx hy
        simp only [List.getElem?_cons_zero, Option.some.injEq] at hx hy
        subst hx; subst hy
        exact .inr ⟨0, rows.length, rfl, by omega, by simp⟩
abbrev R1 : List AV := [uV 1, uV 0, uV 0, uV 0, uV 0, uV 0, uV 0, uV 0]
abbrev R2 : List AV := [uV 2, uV 0, uV 0, uV 0, uV 0, uV 0, uV 0, uV 0]
theorem awake_p : PC 11 [] (bV true) := by
  refine pstart Tryz.func11 Tryz.ntmps11 (.c _) ?_
  have d1 := Lat.mk k_new
  have d2 := Lat.mk k_fmt
  have d3 := Lat.mk k_step
  have d4 := Lat.mk k_app
  have d5 := Lat.mk k_int
  have d6 := Lat.mk k_load
  have d7 := Lat.mk k_im1
  have d8 := Lat.mk k_copy
  have d9 := Lat.mk k_step2
  have d10 := Lat.mk k_end
  have d11 := Lat.mk k_step3
  have d12 := Lat.mk k_im2
  have d13 := Lat.mk k_same
  have hz : encSec zSec = [uV 0, uV 0, uV 0, uV 0, uV 0, uV 0, uV 0, uV 0] := rfl
  have hO : (encL opRow aF.2.1)[0]? = some [zV aO.1, zV aO.2.1, .snap (encL encSec aO.2.2)] := gO aF.2.1 0 (by rw [fF2]; decide)
  have hP : (encL opRow aA.2.1)[2]? = some [zV aP.1, zV aP.2.1, .snap (encL encSec aP.2.2)] := gO aA.2.1 2 (by rw [fA2]; decide)
  have e1 := fF2
  have e2 := fO1
  have e3 := fO2
  have e4 := fA2
  have e5 := fP1
  have e6 := fA3
  have e7 := fA4
  have e8 := fL2
  have e9 := fL3
  have e10 := fL4
  generalize aO = O at *
  generalize aP = P at *
  generalize aD = D at *
  generalize aX = X at *
  generalize aY = Y at *
  generalize aZ = Z at *
  generalize aF = F at *
  generalize aA = A at *
  generalize aI = I at *
  generalize aL = L at *
  generalize aM = M at *
  generalize aK = K at *
  generalize aE = E at *
  generalize aN = N at *
  obtain ⟨F, Fo, Fe⟩ := F
  obtain ⟨A, Ao, Ae⟩ := A
  obtain ⟨E, Eo, Ee⟩ := E
  obtain ⟨L, Le⟩ := L
  obtain ⟨I, Ic, Ie⟩ := I
  obtain ⟨o1, o2, o3⟩ := O
  obtain ⟨p1, p2, p3⟩ := P
  unfold encD encR at *
  simp only [] at *
  have c1 := d1.out
  refine zgo2 ?_
  clear c1
  have c2 := d2.out
  refine zgo2 ?_
  clear c2
  have c3 := d3.out
  refine zcallH ?_
  clear c3
  repeat (first | refine aw_seq ?_ | refine w_nil ?_ | refine w_hold ?_ | refine w_hold2 ?_ | refine w_then ?_ | refine w_thenR ?_ | refine w_thenE ?_)
  refine zregion ?_
  repeat (first | refine aw_seq ?_ | refine w_nil ?_ | refine w_hold ?_ | refine w_hold2 ?_ | refine w_then ?_ | refine w_thenR ?_ | refine w_thenE ?_)
  refine aw_fz 6 7 [[zV 0, zV 1, .snap [R1, R2]]] zeq zeq (by decide) (fzrow (xs := [zV 0, zV 1]) rfl) ?_
  refine aw_less (env := [(6, true, .ptr 8 0 0), (3, true, .ptr 3 0 0), (1, true, .ptr 0 0 0)]) (H := ⟨40, tabG [(0, some (.cells 25 2 [[.snap (encL encSec X.st), .snap (encL encCa X.ca)]] true false)), (3, some (.cells 31 6 [[.snap (encL intRow F.sizes), zV F.super, zV F.data, zV F.epoch, zV F.applied, zV F.applying]] true false)), (7, some (.cells 98 3 [[zV 0, zV 1, .snap [R1, R2]]] true true)), (8, some (.cells 48 5 [[zV 0, zV 1, zV 0, nilS, .own 7 0 1]] true false))]⟩) zholds ?_
  clear hO e1 e2 e3
  have c4 := d4.out
  refine zgo2 ?_
  clear c4
  have c5 := d5.out
  refine zgo2 ?_
  clear c5
  have c6 := d6.out
  refine zgo2 ?_
  clear c6
  have c7 := d7.out
  rw [e8, e9, e10] at c7
  refine zgo2 ?_
  clear c7
  have c8 := d8.out
  rw [e8, e9, e10] at c8
  refine zgo2 ?_
  clear c8
  have c9 := d9.out
  refine zgo2 ?_
  clear c9
  have c10 := d10.out
  rw [e8, e9, e10] at c10
  refine zgo2 ?_
  clear c10
  have c11 := d11.out
  have c12 := d12.out
  refine zgo2 ?_
  clear c11 c12
  have c13 := d13.out
  refine zcallFG ?_
  refine zgo2 ?_
  exact zfin
end Go.Proofs.YtkghiceeegindaaGreatDoor
