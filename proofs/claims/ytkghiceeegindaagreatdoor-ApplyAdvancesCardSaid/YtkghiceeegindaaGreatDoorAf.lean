/- Apply: contracts of its functions (Af). No condition but those named. -/
import Derived.Test.YtkghiceeegindaaGreatDoorAc
import Derived.Test.YtkghiceeegindaaGreatDoorLe
import Derived.Test.YtkghiceeegindaaGreatDoorAd
import Derived.Test.YtkghiceeegindaaGreatDoorAe
namespace Go.Proofs.YtkghiceeegindaaGreatDoor
open Go.Proofs Go.AL
set_option maxRecDepth 100000
set_option maxHeartbeats 1000000
set_option linter.unusedVariables false
set_option linter.unusedSimpArgs false
attribute [local irreducible] endA AW aops thenA blockA hold
def inB (n lo hi : Int) : Bool := decide (lo ≤ n) && decide (n ≤ hi)
theorem in_p (n lo hi : Int) : PC 110 [zV n, zV lo, zV hi] (bV (inB n lo hi)) := by
  refine pstart Tryz.func110 Tryz.ntmps110 (.c _) ?_
  unfold inB
  by_cases g1 : lo ≤ n
  · refine zgo ?_
    exact zfin
  · refine zgo ?_
    exact zfin
def badPos (n : Int) : Bool := !(inB n 0 1073741824)
theorem pos1_p (n : Int) : PC 146 [zV n] (bV (badPos n)) := by
  refine pstart Tryz.func146 Tryz.ntmps146 (.c _) ?_
  have c1 := in_p n 0 1073741824
  unfold badPos
  refine zgo ?_
  exact zfin
theorem posIdx_p (l : List Int) (hl : l.length ≤ 1000000) : PC 158 [.snap (encL intRow l), .fn (.func 146) [] []] (zV (idxZ (l.findIdx? badPos))) := by
  refine pstart Tryz.func158 Tryz.ntmps158 (.c _) ?_
  unfold idxZ
  refine zgo ?_
  have hg := gI l
  have c1 := pos1_p
  refine zfor (α := Unit) l.length (fun k _ => [(8, true, zV k), (7, true, zV l.length), (0, true, .snap (encL intRow l)), (1, true, .fn (.func 146) [] [])]) (fun _ _ => []) (fun k m _ => ∀ i, i < k → badPos (l.getD i 0) = false) ⟨0, (), fun i hi => by omega, zholds⟩ (fun k m _ hk hR => ?_) (fun m _ hR => ?_)
  · refine zgo ?_
    refine zsplit (fun h => ?_) (fun h => ?_)
    · have hf : l.findIdx? badPos = some k := by
        rw [List.findIdx?_eq_some_iff_getElem]
        exact ⟨hk, by simpa [hk] using h, fun j hj => by have := hR j hj; simp [show j < l.length by omega] at this; simpa using this⟩
      refine zgo ?_
      exact zfin
    · refine zgo ?_
      refine ⟨m, (), fun i hi => ?_, zholds⟩
      by_cases hik : i = k
      · subst hik; exact h
      · exact hR i (by omega)
  · have hf : l.findIdx? badPos = none := by
      rw [List.findIdx?_eq_none_iff]
      intro x hx
      obtain ⟨i, hi⟩ := List.mem_iff_getElem?.1 hx
      obtain ⟨h1, h2⟩ := List.getElem?_eq_some_iff.1 hi
      have := hR i h1
      simp [h1, h2] at this
      exact this
    refine zgo ?_
    exact zfin
theorem idxZ_any {α : Type} (q : α → Bool) (l : List α) : decide (0 ≤ idxZ (l.findIdx? q)) = l.any q := by
  cases h : l.findIdx? q with
  | none =>
    rw [List.findIdx?_eq_none_iff] at h
    simp only [idxZ]
    symm
    simpa using h
  | some i =>
    rw [List.findIdx?_eq_some_iff_getElem] at h
    obtain ⟨h1, h2, _⟩ := h
    simp only [idxZ]
    have : l.any q = true := List.any_eq_true.2 ⟨_, List.getElem_mem h1, h2⟩
    rw [this]
    simp
theorem posAny_p (l : List Int) (hl : l.length ≤ 1000000) : PC 129 [.snap (encL intRow l), .fn (.func 146) [] []] (bV (l.any badPos)) := by
  refine pstart Tryz.func129 Tryz.ntmps129 (.c _) ?_
  have c1 := posIdx_p l hl
  have h1 := idxZ_any badPos l
  refine zgo ?_
  exact zfin
def posE (l : List Int) : Int := if 8 < l.length then 6 else if l.any badPos = true then 2 else 0
theorem positions_p (l : List Int) (hl : l.length ≤ 1000000) : PC 111 [.snap (encL intRow l), zV 0] (zV (posE l)) := by
  refine pstart Tryz.func111 Tryz.ntmps111 (.c _) ?_
  have c1 := in_p (l.length : Int) 0 8
  have c2 := posAny_p l hl
  unfold posE
  unfold inB at c1
  by_cases g1 : 8 < l.length
  · rw [if_pos g1]
    rw [dec_leT (by omega), dec_leF (by omega)] at c1
    refine zgo ?_
    exact zfin
  · rw [if_neg g1]
    rw [dec_leT (by omega), dec_leT (by omega)] at c1
    cases h : l.any badPos with
    | true =>
      rw [h] at c2
      refine zgo ?_
      exact zfin
    | false =>
      rw [h] at c2
      refine zgo ?_
      exact zfin
def szOf (im : List (List Sec)) : List Int := im.map fun v => (v.length : Int)
theorem gV (l : List (List Sec)) (k : Nat) (h : k < l.length) : (encL volRow l)[k]? = some (volRow (l.getD k [])) := encL_get [] h
theorem len1_p (v : List Sec) : PC 163 [.snap (encL encSec v)] (zV v.length) := by
  refine pstart Tryz.func163 Tryz.ntmps163 (.c _) ?_
  refine zgo ?_
  exact zfin
theorem lens_p (im : List (List Sec)) (hl : im.length ≤ 1000) : PC 162 [.snap (encL volRow im), .fn (.func 163) [] []] (.snap (encL intRow (szOf im))) := by
  refine pstart Tryz.func162 Tryz.ntmps162 (encL_noId _) ?_
  have hg := gV im
  have c1 := len1_p
  unfold szOf
  refine zgo ?_
  refine zfor (α := Nat) im.length (fun k id => [(13, true, zV k), (12, true, zV im.length), (11, true, .snap (encL volRow im)), (1, true, .fn (.func 163) [] []), (5, true, .own id 0 k)]) (fun k id => [(id, some (.cells 3 1 (encL intRow ((im.map fun v => (v.length : Int)).take k)) true true))]) (fun k m id => id < m) ⟨9, 0, by omega, zholds⟩ (fun k m id hk hR => ?_) (fun m id hR => ?_)
  · have h5 := map_snoc (fun v : List Sec => (v.length : Int)) [] hk
    have h6 : ((im.map fun v => (v.length : Int)).take k).length = k := by simp; omega
    refine zgo ?_
    exact ⟨m + 2, m + 1, by omega, zholds⟩
  · have h6 : (im.map fun v => (v.length : Int)).take im.length = im.map fun v => (v.length : Int) := List.take_of_length_le (by simp)
    refine zgo ?_
    exact zfin
theorem szs_p (im : List (List Sec)) (hl : im.length ≤ 1000) : PC 134 [.snap (encL volRow im)] (.snap (encL intRow (szOf im))) := by
  refine pstart Tryz.func134 Tryz.ntmps134 (encL_noId _) ?_
  have c1 := lens_p im hl
  refine zgo ?_
  exact zfin
theorem szOf_len (im : List (List Sec)) : (szOf im).length = im.length := by simp [szOf]
theorem icheck_p (im : List (List Sec)) (hl : im.length ≤ 1000) : PC 94 [.snap (encL volRow im)] (zV (sizesE (szOf im))) := by
  refine pstart Tryz.func94 Tryz.ntmps94 (.c _) ?_
  have c1 := szs_p im hl
  have c2 := sizes_p (szOf im) (by rw [szOf_len]; omega)
  refine zgo ?_
  exact zfin
def fitE (sz : List Int) (w : Int × Int × List Sec) : Int :=
  if w.1 < 0 ∨ (sz.length : Int) ≤ w.1 then 7
  else if w.2.2.length = 0 then 1
  else if w.2.1 < 0 ∨ sz.getD w.1.toNat 0 - w.2.2.length < w.2.1 then 2
  else 0
theorem fits_p (im : List (List Sec)) (w : Int × Int × List Sec) (hl : im.length ≤ 1000) (hv : ∀ v ∈ im, v.length ≤ 1000000) (hw : w.2.2.length ≤ 1000000) : PC 128 [.snap (encL volRow im), .agg (opRow w)] (zV (fitE (szOf im) w)) := by
  refine pstart Tryz.func128 Tryz.ntmps128 (.c _) ?_
  have hg := gV im
  obtain ⟨v, s, l⟩ := w
  unfold opRow
  simp only [] at *
  unfold fitE
  by_cases g1 : v < 0
  · rw [if_pos (.inl g1)]
    refine zgo ?_
    exact zfin
  by_cases g2 : (im.length : Int) ≤ v
  · rw [if_pos (by rw [szOf_len]; exact .inr g2)]
    refine zgo ?_
    exact zfin
  rw [if_neg (by rw [szOf_len]; omega)]
  by_cases g3 : l.length = 0
  · rw [if_pos g3]
    have g4 : (l.length : Int) = 0 := by omega
    refine zgo ?_
    exact zfin
  rw [if_neg g3]
  have g4 : ¬ (l.length : Int) = 0 := by omega
  obtain ⟨n, rfl⟩ := Int.eq_ofNat_of_zero_le (by omega : 0 ≤ v)
  have g5 : n < im.length := by omega
  have e1 : (szOf im).getD ((n : Int)).toNat 0 = ((im.getD n []).length : Int) := by
    rw [Int.toNat_natCast]
    unfold szOf
    rw [List.getD_eq_getElem?_getD, List.getD_eq_getElem?_getD, List.getElem?_map, List.getElem?_eq_getElem g5]
    rfl
  rw [e1]
  have hvn := hv _ (getD_mem' [] g5)
  have hgn := hg n g5
  clear hg hv e1
  generalize im.getD n [] = V at *
  have w1 : IntKind.i64.wrap ((V.length : Int) - l.length) = (V.length : Int) - l.length := IntWalk.i64_in _ (by omega)
  by_cases g6 : s < 0
  · rw [if_pos (.inl g6)]
    refine zgo ?_
    exact zfin
  by_cases g7 : (V.length : Int) - l.length < s
  · rw [if_pos (.inr g7)]
    refine zgo ?_
    exact zfin
  rw [if_neg (fun h => by simp only [] at h; omega)]
  refine zgo ?_
  exact zfin
theorem fitsI_p (im : List (List Sec)) (w : Int × Int × List Sec) (hl : im.length ≤ 1000) (hv : ∀ v ∈ im, v.length ≤ 1000000) (hw : w.2.2.length ≤ 1000000) : PC 149 [.snap (encL volRow im), .agg (opRow w)] (zV (if sizesE (szOf im) = 0 then fitE (szOf im) w else sizesE (szOf im))) := by
  refine pstart Tryz.func149 Tryz.ntmps149 (.c _) ?_
  have c1 := icheck_p im hl
  have c2 := fits_p im w hl hv hw
  unfold opRow at *
  by_cases g : sizesE (szOf im) = 0
  · rw [if_pos g]
    rw [g] at c1
    refine zgo ?_
    exact zfin
  · rw [if_neg g]
    refine zgo ?_
    exact zfin
end Go.Proofs.YtkghiceeegindaaGreatDoor
namespace Go.Proofs.YtkghiceeegindaaGreatDoor
open Go.Proofs Go.AL
set_option maxRecDepth 100000
set_option maxHeartbeats 1000000
set_option linter.unusedVariables false
set_option linter.unusedSimpArgs false
attribute [local irreducible] endA AW aops thenA blockA hold
abbrev Wrt := Int × Int × List Sec
def zWr : Wrt := (0, 0, [])
theorem gW (l : List Wrt) (k : Nat) (h : k < l.length) : (encL opRow l)[k]? = some (opRow (l.getD k zWr)) := encL_get zWr h
theorem szs_ok {sz : List Int} (h : sizesE sz = 0) {v : Nat} (hv : v < sz.length) : 1 ≤ sz.getD v 0 ∧ sz.getD v 0 ≤ 4096 := by
  obtain ⟨h1, h2, h3⟩ := sizes_ok h
  exact h3 _ (getD_mem' 0 hv)
theorem fit_ok {sz : List Int} {w : Wrt} (h : sizesE sz = 0) (hf : fitE sz w = 0) : 0 ≤ w.1 ∧ w.1.toNat < sz.length ∧ 1 ≤ w.2.2.length ∧ 0 ≤ w.2.1 ∧ w.2.1 + w.2.2.length ≤ sz.getD w.1.toNat 0 ∧ w.2.1 + w.2.2.length ≤ 4096 := by
  unfold fitE at hf
  by_cases g1 : w.1 < 0 ∨ (sz.length : Int) ≤ w.1
  · rw [if_pos g1] at hf; exact absurd hf (by decide)
  rw [if_neg g1] at hf
  by_cases g2 : w.2.2.length = 0
  · rw [if_pos g2] at hf; exact absurd hf (by decide)
  rw [if_neg g2] at hf
  by_cases g3 : w.2.1 < 0 ∨ sz.getD w.1.toNat 0 - w.2.2.length < w.2.1
  · rw [if_pos g3] at hf; exact absurd hf (by decide)
  have g4 : w.1.toNat < sz.length := by omega
  have := szs_ok h g4
  exact ⟨by omega, g4, by omega, by omega, by omega, by omega⟩
def ordB (x w : Wrt) : Bool := decide (w.1 < x.1) || (decide (w.1 = x.1) && decide (w.2.1 ≤ x.2.1 + x.2.2.length))
def cwG (sz : List Int) : Option Wrt → List Wrt → Int
  | _, [] => 0
  | p, w :: r => if fitE sz w = 0 then (match p with | none => cwG sz (some w) r | some x => if ordB x w = true then 3 else cwG sz (some w) r) else fitE sz w
def prevO (l : List Wrt) : Nat → Option Wrt
  | 0 => none
  | k + 1 => some (l.getD k zWr)
theorem chk1_p (im : List (List Sec)) (w : Wrt) (hl : im.length ≤ 1000) (hv : ∀ v ∈ im, v.length ≤ 1000000) (hw : w.2.2.length ≤ 1000000) (h0 : sizesE (szOf im) = 0) : PC 148 [.agg (opRow w), .sptr [[.snap (encL volRow im)]] 0 0] (zV (fitE (szOf im) w)) := by
  refine pstart Tryz.func148 Tryz.ntmps148 (.c _) ?_
  have c1 := fitsI_p im w hl hv hw
  rw [if_pos h0] at c1
  unfold opRow at *
  refine zgo ?_
  exact zfin
theorem cw_p (im : List (List Sec)) (l : List Wrt) (hl : im.length ≤ 1000) (hv : ∀ v ∈ im, v.length ≤ 1000000) (hw : ∀ w ∈ l, w.2.2.length ≤ 1000000) (hn : l.length ≤ 1000000) (h0 : sizesE (szOf im) = 0) : PC 147 [.snap (encL opRow l), .fn (.func 148) [] [.sptr [[.snap (encL volRow im)]] 0 0]] (zV (cwG (szOf im) none l)) := by
  refine pstart Tryz.func147 Tryz.ntmps147 (.c _) ?_
  generalize hF : cwG (szOf im) none l = F
  have hg := gW l
  refine zgo ?_
  refine zfor (α := Unit) l.length (fun k _ => [(11, true, zV k), (10, true, zV l.length), (9, true, .snap (encL opRow l)), (1, true, .fn (.func 148) [] [.sptr [[.snap (encL volRow im)]] 0 0]), (0, true, .snap (encL opRow l))]) (fun _ _ => []) (fun k m _ => cwG (szOf im) (prevO l k) (l.drop k) = F ∧ (0 < k → fitE (szOf im) (l.getD (k - 1) zWr) = 0)) ⟨9, (), ⟨hF, fun h => by omega⟩, zholds⟩ (fun k m _ hk hR => ?_) (fun m _ hR => ?_)
  · obtain ⟨r1, r2⟩ := hR
    have c1 := chk1_p im (l.getD k zWr) hl hv (hw _ (getD_mem' zWr hk)) h0
    have hgk := hg k hk
    rw [drop_at zWr hk] at r1
    by_cases g1 : fitE (szOf im) (l.getD k zWr) = 0
    · have f1 := fit_ok h0 g1
      rw [g1] at c1
      cases k with
      | zero =>
        have r3 : Lat (cwG (szOf im) (prevO l (0 + 1)) (l.drop (0 + 1)) = F ∧ (0 < 0 + 1 → fitE (szOf im) (l.getD (0 + 1 - 1) zWr) = 0)) := ⟨by
          simp only [cwG, prevO] at r1
          rw [if_pos g1] at r1
          exact r1, fun _ => g1⟩
        clear r1 r2 hF hg hw f1 g1
        generalize l.getD 0 zWr = w at *
        obtain ⟨v, s, d⟩ := w
        have hgk2 : (encL opRow l)[0]? = some [zV v, zV s, .snap (encL encSec d)] := hgk
        clear hgk
        unfold opRow at c1
        refine zgo ?_
        exact ⟨m + 30, (), r3.out, zholds⟩
      | succ j =>
        have f2 := fit_ok h0 (r2 (by omega))
        have hgj := hg j (by omega)
        have e1 : j + 1 - 1 = j := by omega
        rw [e1] at f2
        have e2 : ((j + 1 : Nat) : Int) - 1 = (j : Int) := by omega
        have e3 : ((j : Int) + 1) - 1 = (j : Int) := by omega
        have hz : ¬ ((j + 1 : Nat) : Int) = 0 := by omega
        simp only [cwG, prevO] at r1
        rw [if_pos g1] at r1
        by_cases g2 : ordB (l.getD j zWr) (l.getD (j + 1) zWr) = true
        · rw [if_pos g2] at r1
          rw [← r1]
          clear r1 r2 hF hg hw g1
          generalize l.getD j zWr = x at *
          generalize l.getD (j + 1) zWr = w at *
          obtain ⟨v, s, d⟩ := w
          obtain ⟨v2, s2, d2⟩ := x
          have hgk2 : (encL opRow l)[j + 1]? = some [zV v, zV s, .snap (encL encSec d)] := hgk
          have hgj2 : (encL opRow l)[j]? = some [zV v2, zV s2, .snap (encL encSec d2)] := hgj
          clear hgk hgj
          unfold opRow at c1
          unfold ordB at g2
          simp only [] at *
          have w1 : IntKind.i64.wrap (s2 + (d2.length : Int)) = s2 + d2.length := IntWalk.i64_in _ (by omega)
          simp only [Bool.or_eq_true, Bool.and_eq_true, decide_eq_true_eq] at g2
          by_cases g3 : v < v2
          · clear g2
            refine zgo ?_
            exact zfin
          · have g4 : v = v2 := by omega
            have g5 : s ≤ s2 + d2.length := by omega
            subst g4
            clear g2
            refine zgo ?_
            exact zfin
        · rw [if_neg g2] at r1
          have r3 : Lat (cwG (szOf im) (prevO l (j + 1 + 1)) (l.drop (j + 1 + 1)) = F ∧ (0 < j + 1 + 1 → fitE (szOf im) (l.getD (j + 1 + 1 - 1) zWr) = 0)) := ⟨r1, fun _ => g1⟩
          clear r1 r2 hF hg hw g1
          generalize l.getD j zWr = x at *
          generalize l.getD (j + 1) zWr = w at *
          obtain ⟨v, s, d⟩ := w
          obtain ⟨v2, s2, d2⟩ := x
          have hgk2 : (encL opRow l)[j + 1]? = some [zV v, zV s, .snap (encL encSec d)] := hgk
          have hgj2 : (encL opRow l)[j]? = some [zV v2, zV s2, .snap (encL encSec d2)] := hgj
          clear hgk hgj
          unfold opRow at c1
          unfold ordB at g2
          simp only [] at *
          have w1 : IntKind.i64.wrap (s2 + (d2.length : Int)) = s2 + d2.length := IntWalk.i64_in _ (by omega)
          simp only [Bool.or_eq_true, Bool.and_eq_true, decide_eq_true_eq] at g2
          have g3 : ¬ v < v2 := by omega
          by_cases g4 : v = v2
          · have g5 : ¬ s ≤ s2 + d2.length := by omega
            subst g4
            clear g2
            refine zgo ?_
            exact ⟨m + 30, (), r3.out, zholds⟩
          · clear g2
            refine zgo ?_
            exact ⟨m + 30, (), r3.out, zholds⟩
    · simp only [cwG] at r1
      rw [if_neg g1] at r1
      rw [← r1]
      clear r1 r2 hF hg hw
      generalize fitE (szOf im) (l.getD k zWr) = e at *
      generalize l.getD k zWr = w at *
      obtain ⟨v, s, d⟩ := w
      have hgk2 : (encL opRow l)[k]? = some [zV v, zV s, .snap (encL encSec d)] := hgk
      clear hgk
      unfold opRow at c1
      refine zgo ?_
      exact zfin
  · have r1 := hR.1
    rw [List.drop_length] at r1
    rw [← r1]
    clear r1 hR hF
    refine zgo ?_
    exact zfin
end Go.Proofs.YtkghiceeegindaaGreatDoor
namespace Go.Proofs.YtkghiceeegindaaGreatDoor
open Go.Proofs Go.AL
set_option maxRecDepth 100000
set_option maxHeartbeats 1000000
set_option linter.unusedVariables false
set_option linter.unusedSimpArgs false
attribute [local irreducible] endA AW aops thenA blockA hold
theorem szOf_new {sz : List Int} (h : sizesE sz = 0) : szOf (newIm sz) = sz := by
  obtain ⟨h1, h2, h3⟩ := sizes_ok h
  unfold szOf newIm
  rw [if_pos h, List.map_map]
  have : ∀ l : List Int, (∀ x ∈ l, 1 ≤ x ∧ x ≤ 4096) → l.map ((fun v : List Sec => (v.length : Int)) ∘ zeros) = l := by
    intro l
    induction l with
    | nil => intro _; rfl
    | cons x l ih =>
      intro h
      have hx := h x (by simp)
      rw [List.map_cons, ih fun y hy => h y (by simp [hy])]
      congr 1
      simp only [Function.comp, zeros, List.length_replicate]
      omega
  exact this sz h3
theorem newIm_len {sz : List Int} (h : sizesE sz = 0) : (newIm sz).length ≤ 1000 ∧ ∀ v ∈ newIm sz, v.length ≤ 1000000 := by
  obtain ⟨h1, h2, h3⟩ := sizes_ok h
  unfold newIm
  rw [if_pos h]
  refine ⟨by rw [List.length_map]; omega, fun v hv => ?_⟩
  simp only [List.mem_map] at hv
  obtain ⟨x, hx, rfl⟩ := hv
  have := h3 x hx
  simp only [zeros, List.length_replicate]
  omega
def cwE (sz : List Int) (l : List Wrt) : Int := if sizesE sz = 0 then cwG sz none l else sizesE sz
theorem cCheck_p (l : List Wrt) (sz : List Int) (hl : sz.length ≤ 1000000) (hw : ∀ w ∈ l, w.2.2.length ≤ 1000000) (hn : l.length ≤ 1000000) : PC 112 [.snap (encL opRow l), .snap (encL intRow sz)] (zV (cwE sz l)) := by
  refine pstart Tryz.func112 Tryz.ntmps112 (.c _) ?_
  have c1 := new_p sz hl
  unfold cwE
  by_cases g : sizesE sz = 0
  · obtain ⟨n1, n2⟩ := newIm_len g
    have e := szOf_new g
    have c2 := cw_p (newIm sz) l n1 n2 hw hn (by rw [e]; exact g)
    rw [e] at c2
    rw [if_pos g]
    rw [g] at c1
    clear n2 hw e
    generalize cwG sz none l = F at *
    generalize newIm sz = im at *
    refine zgo ?_
    exact zfin
  · rw [if_neg g]
    clear hw
    generalize newIm sz = im at *
    refine zgo ?_
    exact zfin
structure Cyc where
  base : Int
  number : Int
  time : Int
  pos : List Int
  writes : List Wrt
def encC (c : Cyc) : List AV := [zV c.base, zV c.number, zV c.time, .snap (encL intRow c.pos), .snap (encL opRow c.writes)]
def cycE (c : Cyc) (sz : List Int) : Int :=
  if sizesE sz = 0 then
    if c.base < 0 ∨ c.number ≤ c.base ∨ 1073741824 < c.number then 2
    else if c.time < 0 ∨ 1073741824 < c.time then 24
    else if posE c.pos = 0 then cwE sz c.writes else posE c.pos
  else sizesE sz
def CycLen (c : Cyc) : Prop := c.pos.length ≤ 1000000 ∧ c.writes.length ≤ 1000000 ∧ ∀ w ∈ c.writes, w.2.2.length ≤ 1000000
theorem cycheck_p (c : Cyc) (sz : List Int) (hl : sz.length ≤ 1000000) (hc : CycLen c) : PC 69 [.agg (encC c), .snap (encL intRow sz)] (zV (cycE c sz)) := by
  refine pstart Tryz.func69 Tryz.ntmps69 (.c _) ?_
  obtain ⟨h1, h2, h3⟩ := hc
  have c1 := new_p sz hl
  have c2 := in_p c.time 0 1073741824
  have c3 := positions_p c.pos h1
  have c4 := cCheck_p c.writes sz hl h3 h2
  unfold cycE
  clear h3
  obtain ⟨b, n, t, p, w⟩ := c
  unfold encC
  unfold inB at c2
  simp only [] at *
  generalize newIm sz = im at *
  generalize cwE sz w = cw at *
  generalize posE p = pe at *
  generalize sizesE sz = se at *
  by_cases g1 : se = 0
  · rw [if_pos g1]
    subst g1
    by_cases g2 : b < 0
    · rw [if_pos (.inl g2)]
      refine zgo ?_
      exact zfin
    by_cases g3 : n ≤ b
    · rw [if_pos (.inr (.inl g3))]
      refine zgo ?_
      exact zfin
    by_cases g4 : 1073741824 < n
    · rw [if_pos (.inr (.inr g4))]
      refine zgo ?_
      exact zfin
    rw [if_neg (by omega)]
    by_cases g5 : t < 0
    · rw [if_pos (.inl g5)]
      rw [dec_leF (by omega)] at c2
      simp only [Bool.false_and] at c2
      refine zgo ?_
      exact zfin
    by_cases g6 : 1073741824 < t
    · rw [if_pos (.inr g6)]
      rw [dec_leT (by omega), dec_leF (by omega)] at c2
      simp only [Bool.and_false] at c2
      refine zgo ?_
      exact zfin
    rw [if_neg (by omega)]
    rw [dec_leT (by omega), dec_leT (by omega)] at c2
    simp only [Bool.and_true] at c2
    by_cases g7 : pe = 0
    · rw [if_pos g7]
      subst g7
      refine zgo ?_
      exact zfin
    · rw [if_neg g7]
      refine zgo ?_
      exact zfin
  · rw [if_neg g1]
    refine zgo ?_
    exact zfin
end Go.Proofs.YtkghiceeegindaaGreatDoor
namespace Go.Proofs.YtkghiceeegindaaGreatDoor
open Go.Proofs Go.AL
set_option maxRecDepth 100000
set_option maxHeartbeats 1000000
set_option linter.unusedVariables false
set_option linter.unusedSimpArgs false
attribute [local irreducible] endA AW aops thenA blockA hold
theorem cwG_fits {sz : List Int} : ∀ (l : List Wrt) (p : Option Wrt), cwG sz p l = 0 → ∀ w ∈ l, fitE sz w = 0
  | [], _, _, w, hw => by simp at hw
  | x :: l, p, h, w, hw => by
    unfold cwG at h
    by_cases g : fitE sz x = 0
    · rw [if_pos g] at h
      simp only [List.mem_cons] at hw
      rcases hw with rfl | hw
      · exact g
      · cases p with
        | none => exact cwG_fits l _ h w hw
        | some y =>
          simp only [] at h
          split at h
          · exact absurd h (by decide)
          · exact cwG_fits l _ h w hw
    · rw [if_neg g] at h; exact absurd h g
theorem cycE_ok {c : Cyc} {sz : List Int} (h : cycE c sz = 0) : sizesE sz = 0 ∧ 0 ≤ c.base ∧ c.base < c.number ∧ c.number ≤ 1073741824 ∧ ∀ w ∈ c.writes, fitE sz w = 0 := by
  unfold cycE at h
  by_cases g1 : sizesE sz = 0
  · rw [if_pos g1] at h
    split at h
    · exact absurd h (by decide)
    · split at h
      · exact absurd h (by decide)
      · split at h
        · unfold cwE at h
          rw [if_pos g1] at h
          exact ⟨g1, by omega, by omega, by omega, cwG_fits _ _ h⟩
        · rename_i g2
          exact absurd h g2
  · rw [if_neg g1] at h; exact absurd h g1
def copyO (r : Rep) (w : Wrt) : Int × Int × List Sec := (0, IntKind.i64.wrap (placeE r w.1.toNat + w.2.1), w.2.2)
def copyE (r : Rep) (c : Cyc) : List (Int × Int × List Sec) × Int :=
  if repE r = 0 then
    if cycE c r.sizes = 0 then
      if r.applying ≠ c.number then ([], 12)
      else if r.applied < c.base then ([], 15)
      else (c.writes.map (copyO r) ++ [(1, 0, [])], 0)
    else ([], cycE c r.sizes)
  else ([], repE r)
theorem op_snocE (a : List (Int × Int × List Sec)) (x y : Int) (d : List Sec) : encL opRow a ++ [[zV x, zV y, .snap (encL encSec d)]] = encL opRow (a ++ [(x, y, d)]) := encL_snoc a (x, y, d)
attribute [local go_sem] op_snocE
theorem copyO_succ {r : Rep} {l : List Wrt} {k : Nat} (h : k < l.length) : (l.map (copyO r)).take k ++ [copyO r (l.getD k zWr)] = (l.map (copyO r)).take (k + 1) := (map_snoc (copyO r) zWr h).symm
theorem wkr_app {a b c d : List (List AV)} (h : Wkr a b) (k : Wkr c d) : Wkr (a ++ c) (b ++ d) := by
  refine ⟨by simp [h.1, k.1], fun i x y hx hy => ?_⟩
  by_cases hi : i < a.length
  · rw [List.getElem?_append_left hi] at hx
    rw [List.getElem?_append_left (by rw [← h.1]; exact hi)] at hy
    exact h.2 i x y hx hy
  · rw [List.getElem?_append_right (by omega)] at hx
    rw [List.getElem?_append_right (by rw [← h.1]; omega), ← h.1] at hy
    exact k.2 _ x y hx hy
theorem opsync (L : List (Int × Int × List Sec)) : Wkr (encL opRow L ++ [[zV 1, zV 0, .c (.slice none 0 0)]]) (encL opRow (L ++ [(1, 0, [])])) := by
  rw [show encL opRow (L ++ [(1, 0, [])]) = encL opRow L ++ [[zV 1, zV 0, .snap []]] from (encL_snoc L (1, 0, [])).symm]
  exact wkr_app (wkr_refl _) (wkr_cons (wks_cons (.refl _) (wks_cons (.refl _) (wks_cons .nil wks_nil))) wkr_nil)
theorem encL_nil_inv {l : List (Int × Int × List Sec)} (h : encL opRow l = []) : l = [] := by
  cases l with
  | nil => rfl
  | cons a b => simp [encL] at h
theorem end_sync (G : Nat → Option Blk) (id n : Nat) (t : TypeId) (L : List (Int × Int × List Sec)) (hG : G id = some (.cells t 3 (encL opRow L ++ [[zV 1, zV 0, .c (.slice none 0 0)]]) true true)) (hn : n = L.length + 1) :
    NoId (expoD G 4 (.tup [.own id 0 n, zV 0])) ∧ Wk (expoD G 4 (.tup [.own id 0 n, zV 0])) (.tup [.snap (encL opRow (L ++ [(1, 0, [])])), zV 0]) := by
  have hlen : (encL opRow L ++ [[zV 1, zV 0, AV.c (.slice none 0 0)]]).length = n := by rw [List.length_append, encL_len, hn]; rfl
  have e1 : rowsOf G (.own id 0 n) = some (encL opRow L ++ [[zV 1, zV 0, .c (.slice none 0 0)]], [id]) := by
    simp only [rowsOf, hG]
    rw [if_pos (by rw [hlen]; omega), List.drop_zero, List.take_of_length_le (by rw [hlen]; exact Nat.le_refl _)]
  have e2 : (encL opRow L ++ [[zV 1, zV 0, AV.c (.slice none 0 0)]]).map (fun row => row.map (expoD G 2)) = encL opRow L ++ [[zV 1, zV 0, .c (.slice none 0 0)]] := by
    rw [List.map_append, op_expoD]; rfl
  have e : expoD G 4 (.tup [.own id 0 n, zV 0]) = .tup [.snap (encL opRow L ++ [[zV 1, zV 0, .c (.slice none 0 0)]]), zV 0] := by
    have e3 : expoD G 3 (.own id 0 n) = .snap (encL opRow L ++ [[zV 1, zV 0, .c (.slice none 0 0)]]) := by
      rw [expoD, e1]
      simp only []
      rw [e2]
    have e4 : expoD G 4 (.tup [.own id 0 n, zV 0]) = .tup [expoD G 3 (.own id 0 n), expoD G 3 (zV 0)] := rfl
    rw [e4, e3]
    rfl
  rw [e]
  refine ⟨noId_tup.2 fun x hx => ?_, wk_tup (wks_cons (wk_snap (opsync L)) (wks_refl _))⟩
  simp only [List.mem_cons, List.not_mem_nil, or_false] at hx
  rcases hx with rfl | rfl
  · refine noId_snap.2 fun row hr y hy => ?_
    rw [List.mem_append] at hr
    rcases hr with hr | hr
    · exact op_noIds L row hr y hy
    · simp only [List.mem_cons, List.not_mem_nil, or_false] at hr
      subst hr
      simp only [List.mem_cons, List.not_mem_nil, or_false] at hy
      rcases hy with rfl | rfl | rfl <;> exact .c _
  · exact .c _
theorem copy_p (r : Rep) (c : Cyc) (hl : r.sizes.length ≤ 1000000) (hc : CycLen c) : PC 19 [.agg (encR r), .agg (encC c)] (.tup [.snap (encL opRow (copyE r c).1), zV (copyE r c).2]) := by
  refine pstartD Tryz.func19 Tryz.ntmps19 (by simp only [go_sem]) ?_
  have c1 := check_p r hl
  have c2 := cycheck_p c r.sizes hl hc
  have c4 := cloneI_p r.sizes hl
  have cp := fun v hv => place_p r v hv hl
  obtain ⟨M, hM⟩ : ∃ M, copyE r c = M := ⟨_, rfl⟩
  rw [hM]
  unfold copyE at hM
  obtain ⟨h1, h2, h3⟩ := hc
  have hok := cycE_ok (c := c) (sz := r.sizes)
  generalize cycE c r.sizes = ce at *
  generalize hre : repE r = re at *
  obtain ⟨cb, cn, ct, cpos, cw⟩ := c
  obtain ⟨sz, sp, dt, ep, ap, ag⟩ := r
  unfold encR at c1 cp
  unfold encR encC at *
  simp only [] at *
  by_cases g1 : re = 0
  · rw [if_pos g1] at hM
    subst g1
    by_cases g2 : ce = 0
    · rw [if_pos g2] at hM
      subst g2
      obtain ⟨k1, k2, k3, k4, k5⟩ := hok rfl
      clear hok
      by_cases g3 : ag ≠ cn
      · rw [if_pos g3] at hM
        subst hM
        clear cp k5 h3
        refine zgo2 ?_
        refine zin Tryz.func47 Tryz.ntmps47 ?_
        refine zgo2 ?_
        exact zfin
      rw [if_neg g3] at hM
      have g3' : ag = cn := by omega
      subst g3'
      by_cases g4 : ap < cb
      · rw [if_pos g4] at hM
        subst hM
        clear cp k5 h3
        refine zgo2 ?_
        refine zin Tryz.func47 Tryz.ntmps47 ?_
        refine zgo2 ?_
        exact zfin
      rw [if_neg g4] at hM
      subst hM
      have hgW := gW cw
      refine zgo2 ?_
      refine zin Tryz.func47 Tryz.ntmps47 ?_
      refine zgo2 ?_
      refine zfor (α := AV × List (Nat × Option Blk)) cw.length (fun k x => [(50, true, zV k), (49, true, zV cw.length), (48, true, .snap (encL opRow cw)), (9, true, x.1), (6, true, .ptr 4 0 0)]) (fun k x => (4, some (.cells 105 6 [[.snap (encL intRow sz), zV sp, zV dt, zV ep, zV ap, zV ag]] true false)) :: x.2) (fun k m x => 31 ≤ m ∧ SlOK 94 3 (encL opRow ((cw.map (copyO ⟨sz, sp, dt, ep, ap, ag⟩)).take k)) 31 0 m x.1 x.2) ⟨31, (.c (.slice none 0 0), []), ⟨Nat.le_refl _, .inl ⟨rfl, rfl, rfl⟩⟩, zholds⟩ (fun k m x hk hR => ?_) (fun m x hR => ?_)
      · obtain ⟨cv, T⟩ := x
        obtain ⟨hm, hS⟩ := hR
        have hgk := hgW k hk
        have hf := k5 _ (getD_mem' zWr hk)
        obtain ⟨f1, f2, f3, f4, f5, f6⟩ := fit_ok k1 hf
        have hd := h3 _ (getD_mem' zWr hk)
        have h5 := copyO_succ (r := ⟨sz, sp, dt, ep, ap, ag⟩) hk
        have h6 : ((cw.map (copyO ⟨sz, sp, dt, ep, ap, ag⟩)).take k).length = k := by rw [List.length_take, List.length_map]; omega
        have cp2 := cp (cw.getD k zWr).1.toNat (by omega)
        have cl := cloneS_p (cw.getD k zWr).2.2 hd
        clear k5 h3 hgW cp hf
        generalize cw.getD k zWr = w at *
        obtain ⟨v, t, d⟩ := w
        have hgk2 : (encL opRow cw)[k]? = some [zV v, zV t, .snap (encL encSec d)] := hgk
        clear hgk
        simp only [] at *
        obtain ⟨n, rfl⟩ := Int.eq_ofNat_of_zero_le f1
        simp only [Int.toNat_natCast] at cp2 f2 f5
        have h5b : (cw.map (copyO ⟨sz, sp, dt, ep, ap, ag⟩)).take k ++ [(0, IntKind.i64.wrap (placeE ⟨sz, sp, dt, ep, ap, ag⟩ n + t), d)] = (cw.map (copyO ⟨sz, sp, dt, ep, ap, ag⟩)).take (k + 1) := h5
        clear h5
        generalize placeE ⟨sz, sp, dt, ep, ap, ag⟩ n = pe at *
        rcases hS with ⟨e1, e2, e3⟩ | ⟨id, hid, hidn, hidm, e1, e2⟩
        · subst e1 e2
          have h9 : Lat ((cw.map (copyO ⟨sz, sp, dt, ep, ap, ag⟩)).take (k + 1) = [(0, IntKind.i64.wrap (pe + t), d)]) := ⟨by
            rw [← h5b, encL_nil_inv e3]; rfl⟩
          clear e3 h5b h6
          refine zgo2 ?_
          refine ⟨m + 40, ⟨.own (m + 1 + 1 + 13) 0 1, [(m + 1 + 1 + 13, some (.cells 94 3 [[zV 0, zV (IntKind.i64.wrap (pe + t)), .snap (encL encSec d)]] true true))]⟩, ⟨by omega, .inr ⟨m + 1 + 1 + 13, by omega, by omega, by omega, by rw [h9.out]; rfl, by rw [h9.out]; rfl⟩⟩, ?_⟩

          exact zholds
        · subst e1 e2
          have h9 : Lat ((cw.map (copyO ⟨sz, sp, dt, ep, ap, ag⟩)).take k ++ [(0, IntKind.i64.wrap (pe + t), d)] = (cw.map (copyO ⟨sz, sp, dt, ep, ap, ag⟩)).take (k + 1)) := ⟨h5b⟩
          clear h5b
          generalize (cw.map (copyO ⟨sz, sp, dt, ep, ap, ag⟩)).take k = L at *
          rw [encL_len, h6]
          refine zgo2 ?_
          refine ⟨m + 40, ⟨.own (m + 1 + 1 + 13) 0 (k + 1), [(m + 1 + 1 + 13, some (.cells 94 3 (encL opRow (L ++ [(0, IntKind.i64.wrap (pe + t), d)])) true true))]⟩, ⟨by omega, .inr ⟨m + 1 + 1 + 13, by omega, by omega, by omega, by rw [← h9.out, encL_len, List.length_append, h6]; rfl, by rw [← h9.out]⟩⟩, ?_⟩

          exact zholds
      · obtain ⟨cv, T⟩ := x
        obtain ⟨hm, hS⟩ := hR
        rw [List.take_of_length_le (by rw [List.length_map]; omega)] at hS
        have h6 : (cw.map (copyO ⟨sz, sp, dt, ep, ap, ag⟩)).length = cw.length := List.length_map _
        clear k5 h3 hgW cp
        generalize cw.map (copyO ⟨sz, sp, dt, ep, ap, ag⟩) = L at *
        rcases hS with ⟨e1, e2, e3⟩ | ⟨id, hid, hidn, hidm, e1, e2⟩
        · simp only [] at e1 e2
          subst e1 e2
          have e4 : L = [] := by
            cases L with
            | nil => rfl
            | cons a b => simp [encL] at e3
          rw [e4]
          clear e3 e4
          refine zgo2 ?_
          exact zfin
        · simp only [] at e1 e2
          subst e1 e2
          rw [encL_len]
          refine zgo2 ?_
          exact end_sync _ _ _ _ _ zeq (by omega)
    · rw [if_neg g2] at hM
      subst hM
      clear cp hok h3
      refine zgo2 ?_
      refine zin Tryz.func47 Tryz.ntmps47 ?_
      refine zgo2 ?_
      exact zfin
  · rw [if_neg g1] at hM
    subst hM
    clear cp hok h3
    refine zgo2 ?_
    refine zin Tryz.func47 Tryz.ntmps47 ?_
    refine zgo2 ?_
    exact zfin
end Go.Proofs.YtkghiceeegindaaGreatDoor
namespace Go.Proofs.YtkghiceeegindaaGreatDoor
open Go.Proofs Go.AL
set_option maxRecDepth 100000
set_option maxHeartbeats 1000000
set_option linter.unusedVariables false
set_option linter.unusedSimpArgs false
attribute [local irreducible] endA AW aops thenA blockA hold
attribute [local go_sem] op_snocE
theorem fzlast {dd : Nat} {A : List (List AV)} {x y : AV} {d : List Sec} {n : Nat} {B : List (List AV)} (h : A ++ [[x, y, .snap (encL encSec d)]] = B) (hn : n = (encL encSec d).length) : FzRows dd (encL encSec d) (A ++ [[x, y, .own dd 0 n]]) B := by
  subst h hn
  refine ⟨by simp, fun i r r' hr hr' => ?_⟩
  by_cases hi : i < A.length
  · rw [List.getElem?_append_left hi] at hr hr'
    rw [hr] at hr'
    injection hr' with hr'
    subst hr'
    refine ⟨rfl, fun k x y hx hy => ?_⟩
    rw [hx] at hy
    injection hy with hy
    exact .inl hy
  · rw [List.getElem?_append_right (by omega)] at hr hr'
    have h0 : i - A.length = 0 := by
      have := (List.getElem?_eq_some_iff.1 hr).1
      simp at this
      omega
    rw [h0] at hr hr'
    simp at hr hr'
    subst hr hr'
    refine ⟨rfl, fun k a b ha hb => ?_⟩
    match k with
    | 0 => simp at ha hb; subst ha hb; exact .inl rfl
    | 1 => simp at ha hb; subst ha hb; exact .inl rfl
    | 2 =>
      simp at ha hb
      subst ha hb
      exact .inr ⟨0, _, rfl, by simp, by simp⟩
    | k + 3 => simp at ha
end Go.Proofs.YtkghiceeegindaaGreatDoor
namespace Go.Proofs.YtkghiceeegindaaGreatDoor
open Go.Proofs Go.AL
set_option maxRecDepth 100000
set_option maxHeartbeats 1000000
set_option linter.unusedVariables false
set_option linter.unusedSimpArgs false
attribute [local irreducible] endA AW aops thenA blockA hold
def DskOK (d : Dsk) : Prop := (∀ s ∈ d.st, SecOK s) ∧ ∀ c ∈ d.ca, SecOK c.2
def OpsOK (l : List Opr) : Prop := ∀ o ∈ l, ∀ s ∈ o.2.2, SecOK s
theorem newL_ok : ∀ (ca : List (Int × Sec)) (st : List Sec), (∀ s ∈ st, SecOK s) → (∀ c ∈ ca, SecOK c.2) → ∀ s ∈ newL st ca, SecOK s
  | [], st, h, _, s, hs => h s hs
  | c :: ca, st, h, h2, s, hs => newL_ok ca (st.set c.1.toNat c.2) (fun x hx => by
      rcases List.mem_or_eq_of_mem_set hx with hx | rfl
      · exact h x hx
      · exact h2 c (by simp)) (fun x hx => h2 x (by simp [hx])) s hs
theorem DskOK.new {d : Dsk} (h : DskOK d) : ∀ s ∈ newL d.st d.ca, SecOK s := newL_ok _ _ h.1 h.2
theorem secOK_zero : SecOK zSec := by
  refine ⟨⟨⟨by decide, by decide⟩, ⟨by decide, by decide⟩, ⟨by decide, by decide⟩, ⟨by decide, by decide⟩⟩, fun x hx => ?_⟩
  simp only [d4, zSec, List.mem_cons, List.not_mem_nil, or_false] at hx
  rcases hx with rfl | rfl | rfl | rfl <;> exact ⟨by decide, by decide⟩
theorem putC_ok : ∀ (a : Int) (l : List Sec), (∀ s ∈ l, SecOK s) → ∀ c ∈ putC a l, SecOK c.2
  | _, [], _, c, hc => by simp [putC] at hc
  | a, s :: l, h, c, hc => by
    simp only [putC, List.mem_cons] at hc
    rcases hc with rfl | hc
    · exact h s (by simp)
    · exact putC_ok (a + 1) l (fun x hx => h x (by simp [hx])) c hc
theorem runG_ok : ∀ (ops : List Opr) (d : Dsk) (i : Nat), DskOK d → OpsOK ops → DskOK (runG ops d i).1 ∧ (runG ops d i).1.st.length ≤ d.st.length ∧ (dskE d = 0 → (runG ops d i).1.ca.length ≤ d.ca.length + ops.length * 4096)
  | [], d, i, h, _ => ⟨h, Nat.le_refl _, fun _ => by simp [runG]⟩
  | o :: r, d, i, h, ho => by
    have h0 : DskOK dsk0 := ⟨fun s hs => by simp [dsk0] at hs, fun s hs => by simp [dsk0] at hs⟩
    have hr : OpsOK r := fun x hx => ho x (by simp [hx])
    have e0 : dsk0.st.length ≤ d.st.length := Nat.zero_le _
    have e1 : dskE d = 0 → dsk0.ca.length ≤ d.ca.length + (o :: r).length * 4096 := fun _ => Nat.zero_le _
    simp only [runG]
    split
    · split
      · rename_i h1 h2
        by_cases h3 : dskE d = 0
        · unfold writeE at h2 ⊢
          rw [if_pos h3] at h2 ⊢
          cases h4 : insB d o.2.1 o.2.2.length with
          | false => rw [h4, if_neg (by decide)] at h2; exact absurd h2 (by decide)
          | true =>
            rw [if_pos rfl]
            obtain ⟨q1, q2⟩ := dskE_ok h3
            obtain ⟨q3, q4⟩ := insB_ok h4
            have h5 := dskE_put h3 h4
            have ih := runG_ok r ⟨d.st, d.ca ++ putC o.2.1 o.2.2⟩ (i + 1) ⟨h.1, fun c hc => by
              rcases List.mem_append.1 hc with hc | hc
              · exact h.2 c hc
              · exact putC_ok _ _ (ho o (by simp)) c hc⟩ hr
            refine ⟨ih.1, ih.2.1, fun _ => ?_⟩
            have := ih.2.2 h5
            simp only [List.length_append, putC_len, List.length_cons] at this ⊢
            omega
        · unfold writeE at h2
          rw [if_neg h3] at h2
          exact absurd h2 h3
      · exact ⟨h0, e0, e1⟩
    · split
      · have ih := runG_ok r ⟨newL d.st d.ca, []⟩ (i + 1) ⟨h.new, fun c hc => by simp at hc⟩ hr
        refine ⟨ih.1, by have := ih.2.1; rw [newL_len] at this; exact this, fun h3 => ?_⟩
        have := ih.2.2 (dskE_len (dskE_ok h3).1 (newL_len _ _))
        simp only [List.length_nil, List.length_cons] at this ⊢
        omega
      · exact ⟨h0, e0, e1⟩
theorem runE_ok {d : Dsk} {ops : List Opr} (h : DskOK d) (ho : OpsOK ops) : DskOK (runE d ops).1 ∧ (runE d ops).1.st.length ≤ d.st.length ∧ (runE d ops).1.ca.length ≤ d.ca.length + ops.length * 4096 := by
  unfold runE
  split
  · rename_i h1
    have := runG_ok ops d 0 h ho
    exact ⟨this.1, this.2.1, this.2.2 h1⟩
  · exact ⟨⟨fun s hs => by simp [dsk0] at hs, fun s hs => by simp [dsk0] at hs⟩, Nat.zero_le _, Nat.zero_le _⟩
theorem vg_ok (n : Nat) : ∀ x ∈ vg n, ByteOK x := by
  induction n using Nat.strongRecOn with
  | ind n ih =>
    intro x hx
    by_cases h : n < 128
    · rw [vg_lt h] at hx
      simp only [List.mem_cons, List.not_mem_nil, or_false] at hx
      subst hx
      exact ⟨by omega, by omega⟩
    · rw [vg_ge h] at hx
      simp only [List.mem_cons] at hx
      rcases hx with rfl | hx
      · exact ⟨by omega, by omega⟩
      · exact ih _ (by omega) x hx
theorem repV_ok (r : Rep) : ∀ x ∈ repV r, ByteOK x := by
  intro x hx
  unfold repV vint at hx
  simp only [List.mem_append] at hx
  rcases hx with (hx | hx) | hx <;> exact vg_ok _ x hx
theorem byteOK_gb (n : Int) (i : Nat) : ByteOK (gb n i) := by
  unfold gb
  rw [IntKind.wrap_u8]
  exact ⟨by omega, by omega⟩
theorem dat_ok {p : List Int} (hp : ∀ x ∈ p, ByteOK x) (hl : p.length ≤ 31) : ∀ x ∈ dat p, ByteOK x := by
  intro x hx
  unfold dat at hx
  simp only [List.mem_cons, List.mem_append, List.mem_replicate] at hx
  rcases hx with rfl | hx | ⟨_, rfl⟩
  · exact ⟨by omega, by omega⟩
  · exact hp x hx
  · exact ⟨by decide, by decide⟩
theorem getD_ok {l : List Int} (h : ∀ x ∈ l, ByteOK x) (i : Nat) : ByteOK (l.getD i 0) := by
  by_cases hi : i < l.length
  · exact h _ (getD_mem' 0 hi)
  · rw [List.getD_eq_getElem?_getD, List.getElem?_eq_none (by omega)]
    exact ⟨by decide, by decide⟩
theorem secOf_ok (n : Int) {D : List Int} (h : ∀ x ∈ D, ByteOK x) (k : Nat) : SecOK (secOf n D k) := by
  refine ⟨⟨byteOK_gb n 0, byteOK_gb n 1, byteOK_gb n 2, byteOK_gb n 3⟩, fun x hx => ?_⟩
  simp only [d4, secOf, List.mem_cons, List.not_mem_nil, or_false] at hx
  rcases hx with rfl | rfl | rfl | rfl <;> exact getD_ok h _
theorem putS_ok (n : Int) {p : List Int} (hp : ∀ x ∈ p, ByteOK x) (hl : p.length ≤ 31) : ∀ s ∈ putS n p, SecOK s := by
  intro s hs
  have hd := dat_ok hp hl
  simp only [putS, List.mem_cons, List.not_mem_nil, or_false] at hs
  rcases hs with rfl | rfl | rfl | rfl | rfl | rfl | rfl | rfl <;> exact secOf_ok n hd _
theorem storeE_ops (d : Dsk) (a : Int) {p : List Int} (hp : ∀ x ∈ p, ByteOK x) (hl : p.length ≤ 31) : OpsOK (storeE d a p).1 := by
  unfold storeE
  split
  · split
    · intro o ho; simp at ho
    · split
      · intro o ho; simp at ho
      · intro o ho s hs
        simp only [List.mem_cons, List.not_mem_nil, or_false] at ho
        rcases ho with rfl | rfl
        · exact putS_ok _ hp hl s hs
        · simp at hs
  · intro o ho; simp at ho
theorem stE_ops (d : Dsk) (r : Rep) : OpsOK (stE d r).2.1 := by
  unfold stE
  split
  · exact storeE_ops d _ (repV_ok r) (repV_len31 r)
  · intro o ho; simp at ho
theorem opsOK_nil : OpsOK [] := fun o ho => by simp at ho
theorem beginE_ops (d : Dsk) (r : Rep) (n : Int) : OpsOK (beginE d r n).2.1 := by
  unfold beginE
  split
  · split
    · exact opsOK_nil
    · split
      · exact opsOK_nil
      · split
        · exact opsOK_nil
        · split
          · exact opsOK_nil
          · exact stE_ops _ _
  · exact opsOK_nil
theorem copyE_ops (r : Rep) (c : Cyc) (h : ∀ w ∈ c.writes, ∀ s ∈ w.2.2, SecOK s) : OpsOK (copyE r c).1 := by
  unfold copyE
  split
  · split
    · split
      · exact opsOK_nil
      · split
        · exact opsOK_nil
        · intro o ho s hs
          simp only [List.mem_append, List.mem_map, List.mem_cons, List.not_mem_nil, or_false] at ho
          rcases ho with ⟨w, hw, rfl⟩ | rfl
          · exact h w hw s hs
          · simp at hs
    · exact opsOK_nil
  · exact opsOK_nil
theorem copyE_len (r : Rep) (c : Cyc) : (copyE r c).1.length ≤ c.writes.length + 1 := by
  unfold copyE
  split
  · split
    · split
      · simp
      · split
        · simp
        · simp
    · simp
  · simp
def applyE (d : Dsk) (r : Rep) (c : Cyc) : Rep × List Opr × Int :=
  if (beginE d r c.number).2.2 = 0 then
    if (copyE (beginE d r c.number).1 c).2 = 0 then
      if (runE d ((beginE d r c.number).2.1 ++ (copyE (beginE d r c.number).1 c).1)).2.2 = 0 then
        if (endE (runE d ((beginE d r c.number).2.1 ++ (copyE (beginE d r c.number).1 c).1)).1 (beginE d r c.number).1).2.2 = 0 then
          ((endE (runE d ((beginE d r c.number).2.1 ++ (copyE (beginE d r c.number).1 c).1)).1 (beginE d r c.number).1).1, ((beginE d r c.number).2.1 ++ (copyE (beginE d r c.number).1 c).1) ++ (endE (runE d ((beginE d r c.number).2.1 ++ (copyE (beginE d r c.number).1 c).1)).1 (beginE d r c.number).1).2.1, 0)
        else (rep0, [], (endE (runE d ((beginE d r c.number).2.1 ++ (copyE (beginE d r c.number).1 c).1)).1 (beginE d r c.number).1).2.2)
      else (rep0, [], (runE d ((beginE d r c.number).2.1 ++ (copyE (beginE d r c.number).1 c).1)).2.2)
    else (rep0, [], (copyE (beginE d r c.number).1 c).2)
  else (rep0, [], (beginE d r c.number).2.2)
def joinE (b : Rep × List Opr × Int) (k : List Opr × Int) (x : Dsk × Int × Int) (e : Rep × List Opr × Int) : Rep × List Opr × Int :=
  if b.2.2 = 0 then (if k.2 = 0 then (if x.2.2 = 0 then (if e.2.2 = 0 then (e.1, (b.2.1 ++ k.1) ++ e.2.1, 0) else (rep0, [], e.2.2)) else (rep0, [], x.2.2)) else (rep0, [], k.2)) else (rep0, [], b.2.2)
theorem applyE_join (d : Dsk) (r : Rep) (c : Cyc) : applyE d r c = joinE (beginE d r c.number) (copyE (beginE d r c.number).1 c) (runE d ((beginE d r c.number).2.1 ++ (copyE (beginE d r c.number).1 c).1)) (endE (runE d ((beginE d r c.number).2.1 ++ (copyE (beginE d r c.number).1 c).1)).1 (beginE d r c.number).1) := rfl
theorem stE_len (d : Dsk) (r : Rep) : (stE d r).2.1.length ≤ 2 := by
  unfold stE
  split
  · rename_i h; rw [storeE_len h]; exact Nat.le_refl _
  · simp
theorem beginE_len (d : Dsk) (r : Rep) (n : Int) : (beginE d r n).2.1.length ≤ 2 := by
  unfold beginE
  split
  · split
    · simp
    · split
      · simp
      · split
        · simp
        · split
          · simp
          · exact stE_len _ _
  · simp
theorem beginE_szs (d : Dsk) (r : Rep) (n : Int) : (beginE d r n).1.sizes = r.sizes ∨ (beginE d r n).1.sizes = [] := by
  unfold beginE stE rep0
  repeat' split
  all_goals first | exact .inl rfl | exact .inr rfl
end Go.Proofs.YtkghiceeegindaaGreatDoor
