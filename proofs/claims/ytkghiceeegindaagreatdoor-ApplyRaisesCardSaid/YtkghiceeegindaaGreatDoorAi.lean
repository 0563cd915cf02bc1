/- Apply: contracts of its functions (Ai). No condition but those named. -/
import Derived.Test.YtkghiceeegindaaGreatDoorAh
import Derived.Test.YtkghiceeegindaaGreatDoorLe
namespace Go.Proofs.YtkghiceeegindaaGreatDoor
open Go.Proofs Go.AL
set_option maxRecDepth 100000
set_option maxHeartbeats 2000000
set_option linter.unusedVariables false
set_option linter.unusedSimpArgs false
attribute [local irreducible] endA AW aops thenA blockA hold
def bigV (v : List Sec) : Bool := decide (24 < v.length)
def few7 (l : List (List Sec)) : Bool := decide (l.length ≤ 9) && !(l.any bigV)
theorem few7_p (l : List (List Sec)) (hl : l.length ≤ BIG) (hs : ∀ v ∈ l, v.length ≤ BIG) : PC 88 [.snap (encL volRow l)] (bV (few7 l)) := by
  refine pstart Tryz.func88 Tryz.ntmps88 (.c _) ?_
  obtain ⟨M, hM⟩ : ∃ M, few7 l = M := ⟨_, rfl⟩
  rw [hM]
  unfold few7 at hM
  have hs' := Lat.mk hs
  clear hs
  by_cases g0 : l.length ≤ 9
  · rw [decide_eq_true g0, Bool.true_and] at hM
    have hM' := Lat.mk hM
    clear hM
    refine zgo2 ?_
    refine zfor (α := Unit) l.length (fun k _ => [(3, true, zV k), (0, true, .snap (encL volRow l))]) (fun _ _ => []) (fun k m _ => ∀ i, i < k → bigV (l.getD i []) = false) ⟨0, (), fun i hi => by omega, zholds⟩ (fun k m _ hk hR => ?_) (fun m _ hR => ?_)
    · have hR' := Lat.mk hR
      have hgk : (encL volRow l)[k]? = some [.snap (encL encSec (l.getD k []))] := gVol l k hk
      have hsk := hs'.out _ (getD_mem' [] hk)
      have hmem := getD_mem' [] hk
      clear hR
      by_cases g1 : 24 < (l.getD k []).length
      · have h9 : l.any bigV = true := List.any_eq_true.2 ⟨_, hmem, by unfold bigV; rw [decide_eq_true g1]⟩
        obtain rfl : M = false := by rw [← hM'.out, h9]; rfl
        clear h9 hmem
        refine zgo2 ?_
        exact zfin
      · have h9 : bigV (l.getD k []) = false := by unfold bigV; rw [decide_eq_false g1]
        have h9' := Lat.mk h9
        clear h9 hmem
        refine zgo2 ?_
        refine ⟨m + 60, (), fun i hi => ?_, zholds⟩
        by_cases hik : i = k
        · subst hik; exact h9'.out
        · exact hR'.out i (by omega)
    · have h9 : l.any bigV = false := by
        rw [List.any_eq_false]
        intro x hx
        obtain ⟨i, hi, rfl⟩ := List.mem_iff_getElem.1 hx
        have := hR i hi
        rw [List.getD_eq_getElem?_getD, List.getElem?_eq_getElem hi, Option.getD_some] at this
        rw [this]; simp
      obtain rfl : M = true := by rw [← hM'.out, h9]; rfl
      clear hR h9
      refine zgo2 ?_
      exact zfin
  · rw [decide_eq_false g0, Bool.false_and] at hM
    subst hM
    refine zgo2 ?_
    exact zfin
theorem place35_p (n : Int) (k : Nat) (hk : k ≤ 1000000) : PC 43 [zV n, zV k] (zV (n % ((k : Int) + 1))) := by
  refine pstart Tryz.func43 Tryz.ntmps43 (.c _) ?_
  have w1 : IntKind.i64.wrap ((k : Int) + 1) = (k : Int) + 1 := IntWalk.i64_in _ (by omega)
  have h0 : (0 : Int) < (k : Int) + 1 := by omega
  have hne : ¬ (k : Int) + 1 = 0 := by omega
  have h1 := tm_lo (x := n) h0
  have h2 := dec1 (x := n) h0
  obtain ⟨m, hm⟩ : ∃ m, n.tmod ((k : Int) + 1) = m := ⟨_, rfl⟩
  rw [hm] at h1 h2
  have w0 : IntKind.i64.wrap m = m := IntWalk.i64_in _ (by omega)
  have w2 : IntKind.i64.wrap (m + k) = m + k := IntWalk.i64_in _ (by omega)
  have w3 : IntKind.i64.wrap (m + k + 1) = m + k + 1 := IntWalk.i64_in _ (by omega)
  have h3 : (m + (k : Int) + 1).tmod ((k : Int) + 1) = n % ((k : Int) + 1) := by rw [← h2]; congr 1; omega
  have h4 := Int.emod_nonneg n (show (k : Int) + 1 ≠ 0 by omega)
  have h5 := Int.emod_lt_of_pos n h0
  generalize n % ((k : Int) + 1) = r at *
  have w4 : IntKind.i64.wrap r = r := IntWalk.i64_in _ (by omega)
  clear h1 h2
  refine zgo2 ?_
  exact zfin
end Go.Proofs.YtkghiceeegindaaGreatDoor
namespace Go.Proofs.YtkghiceeegindaaGreatDoor
open Go.Proofs Go.AL
set_option maxRecDepth 100000
set_option maxHeartbeats 2000000
set_option linter.unusedVariables false
set_option linter.unusedSimpArgs false
attribute [local irreducible] endA AW aops thenA blockA hold
def s7 : Sec := ((7, 0, 0, 0), (0, 0, 0, 0))
def s8 : Sec := ((8, 0, 0, 0), (0, 0, 0, 0))
theorem eqs_sec2 (s t : Sec) : eqTop Tryz.prog 96 (.agg (encSec s)) (.agg (encSec t)) = some (decide (s = t)) := by
  unfold eqTop
  rw [guardSec, if_neg (by simp)]
  exact eqA_sec 9998 s t
def guardB (d : Dsk) : Bool := decide (2 ≤ d.st.length) && (decide (d.st.getD (d.st.length - 2) zSec = s7) && decide (d.st.getD (d.st.length - 1) zSec = s8))
theorem guarded_p (d : Dsk) (h1 : d.st.length ≤ 1000000) : PC 41 [.agg (encD d)] (bV (guardB d)) := by
  refine pstart Tryz.func41 Tryz.ntmps41 (.c _) ?_
  obtain ⟨M, hM⟩ : ∃ M, guardB d = M := ⟨_, rfl⟩
  rw [hM]
  unfold guardB at hM
  obtain ⟨st, ca⟩ := d
  unfold encD
  simp only [] at *
  have hz : encSec zSec = [uV 0, uV 0, uV 0, uV 0, uV 0, uV 0, uV 0, uV 0] := rfl
  by_cases g0 : 2 ≤ st.length
  · rw [decide_eq_true g0, Bool.true_and] at hM
    have k7 : eqTop Tryz.prog 96 (.agg (encSec (st.getD (st.length - 2) zSec))) (.agg [uV 7, uV 0, uV 0, uV 0, uV 0, uV 0, uV 0, uV 0]) = some (decide (st.getD (st.length - 2) zSec = s7)) := eqs_sec2 _ s7
    have k8 : eqTop Tryz.prog 96 (.agg (encSec (st.getD (st.length - 1) zSec))) (.agg [uV 8, uV 0, uV 0, uV 0, uV 0, uV 0, uV 0, uV 0]) = some (decide (st.getD (st.length - 1) zSec = s8)) := eqs_sec2 _ s8
    have g7 := gS st (st.length - 2) (by omega)
    have g8 := gS st (st.length - 1) (by omega)
    have w7 : IntKind.i64.wrap ((st.length : Int) - 2) = ((st.length - 2 : Nat) : Int) := by rw [IntWalk.i64_in _ (by omega)]; omega
    have w8 : IntKind.i64.wrap ((st.length : Int) - 1) = ((st.length - 1 : Nat) : Int) := by rw [IntWalk.i64_in _ (by omega)]; omega
    have l7 : st.length - 2 < st.length := by omega
    have l8 : st.length - 1 < st.length := by omega
    generalize decide (st.getD (st.length - 2) zSec = s7) = x at *
    generalize decide (st.getD (st.length - 1) zSec = s8) = y at *
    generalize st.getD (st.length - 2) zSec = a at *
    generalize st.getD (st.length - 1) zSec = b at *
    generalize hA : st.length - 2 = A at *
    generalize hB : st.length - 1 = B at *
    clear hA hB
    subst hM
    cases x <;> cases y <;> (refine zgo2 ?_; exact zfin)
  · rw [decide_eq_false g0, Bool.false_and] at hM
    subst hM
    refine zgo2 ?_
    exact zfin
end Go.Proofs.YtkghiceeegindaaGreatDoor
namespace Go.Proofs.YtkghiceeegindaaGreatDoor
open Go.Proofs Go.AL
set_option maxRecDepth 100000
set_option maxHeartbeats 2000000
set_option linter.unusedVariables false
set_option linter.unusedSimpArgs false
attribute [local irreducible] endA AW aops thenA blockA hold
def plcE (w : Wrt) : Int :=
  if w.1 < 0 ∨ 8 ≤ w.1 then 7
  else if w.2.2.length = 0 then 1
  else if w.2.1 < 0 ∨ 4096 - (w.2.2.length : Int) < w.2.1 then 2
  else 0
theorem placed_p (w : Wrt) (hl : w.2.2.length ≤ 1000000) : PC 131 [.agg (opRow w)] (zV (plcE w)) := by
  refine pstart Tryz.func131 Tryz.ntmps131 (.c _) ?_
  obtain ⟨M, hM⟩ : ∃ M, plcE w = M := ⟨_, rfl⟩
  rw [hM]
  unfold plcE at hM
  obtain ⟨v, t, d⟩ := w
  simp only [] at *
  unfold opRow
  simp only []
  by_cases g1 : v < 0
  · rw [if_pos (.inl g1)] at hM
    subst hM
    refine zgo2 ?_
    exact zfin
  by_cases g2 : 8 ≤ v
  · rw [if_pos (.inr g2)] at hM
    subst hM
    refine zgo2 ?_
    exact zfin
  rw [if_neg (by omega)] at hM
  by_cases g3 : d.length = 0
  · rw [if_pos g3] at hM
    subst hM
    have g3' : ((d.length : Int) == 0) = true := by simp [g3]
    have g3'' := Lat.mk g3
    clear g3
    refine zgo2 ?_
    exact zfin
  rw [if_neg g3] at hM
  have w1 : IntKind.i64.wrap (4096 - (d.length : Int)) = 4096 - (d.length : Int) := IntWalk.i64_in _ (by omega)
  have g3' : ((d.length : Int) == 0) = false := by rw [beq_eq_false_iff_ne]; omega
  by_cases g4 : t < 0
  · rw [if_pos (.inl g4)] at hM
    subst hM
    refine zgo2 ?_
    exact zfin
  by_cases g5 : 4096 - (d.length : Int) < t
  · rw [if_pos (.inr g5)] at hM
    subst hM
    refine zgo2 ?_
    exact zfin
  rw [if_neg (by omega)] at hM
  subst hM
  refine zgo2 ?_
  exact zfin
end Go.Proofs.YtkghiceeegindaaGreatDoor
namespace Go.Proofs.YtkghiceeegindaaGreatDoor
open Go.Proofs Go.AL
set_option linter.unusedVariables false
def putV (v : List Sec) (o : Nat) (d : List Sec) : List Sec := v.take o ++ d ++ v.drop (o + d.length)
theorem putV_len {v : List Sec} {o : Nat} {d : List Sec} (h : o + d.length ≤ v.length) : (putV v o d).length = v.length := by
  unfold putV
  simp only [List.length_append, List.length_take, List.length_drop]
  omega
def putW (im : List (List Sec)) (w : Wrt) : List (List Sec) := im.set w.1.toNat (putV (im.getD w.1.toNat []) w.2.1.toNat w.2.2)
def apG : List Wrt → List (List Sec) → Nat → List (List Sec) × Int × Int
  | [], im, _ => (im, 0, 0)
  | w :: l, im, i => if fitE (szOf im) w = 0 then apG l (putW im w) (i + 1) else ([], (i : Int), fitE (szOf im) w)
def apE (im : List (List Sec)) (ws : List Wrt) : List (List Sec) × Int × Int :=
  if sizesE (szOf im) = 0 then apG ws im 0 else ([], 0, sizesE (szOf im))
theorem fitE_in {im : List (List Sec)} {w : Wrt} (h : fitE (szOf im) w = 0) : 0 ≤ w.1 ∧ w.1.toNat < im.length ∧ 0 < w.2.2.length ∧ 0 ≤ w.2.1 ∧ w.2.1.toNat + w.2.2.length ≤ (im.getD w.1.toNat []).length := by
  unfold fitE at h
  have e : (szOf im).length = im.length := by simp [szOf]
  by_cases g1 : w.1 < 0 ∨ ((szOf im).length : Int) ≤ w.1
  · rw [if_pos g1] at h; exact absurd h (by decide)
  rw [if_neg g1] at h
  by_cases g2 : w.2.2.length = 0
  · rw [if_pos g2] at h; exact absurd h (by decide)
  rw [if_neg g2] at h
  by_cases g3 : w.2.1 < 0 ∨ (szOf im).getD w.1.toNat 0 - w.2.2.length < w.2.1
  · rw [if_pos g3] at h; exact absurd h (by decide)
  have hi : w.1.toNat < im.length := by omega
  have hv : (szOf im).getD w.1.toNat 0 = ((im.getD w.1.toNat []).length : Int) := by
    simp [szOf, hi]
  rw [hv] at g3
  exact ⟨by omega, hi, by omega, by omega, by omega⟩
theorem getD_set_same {α : Type} (z : α) {l : List α} {i : Nat} (x : α) (h : i < l.length) : (l.set i x).getD i z = x := by
  simp [h]
theorem getD_set_ne {α : Type} (z : α) {l : List α} {i j : Nat} (x : α) (h : i ≠ j) : (l.set i x).getD j z = l.getD j z := by
  simp [List.getElem?_set_ne h]
theorem putW_szs {im : List (List Sec)} {w : Wrt} (h : fitE (szOf im) w = 0) : szOf (putW im w) = szOf im := by
  obtain ⟨h1, h2, h3, h4, h5⟩ := fitE_in h
  refine List.ext_getElem (by simp [szOf, putW]) fun i hi hj => ?_
  simp only [szOf, putW, List.getElem_map, List.getElem_set]
  split
  · rename_i e
    subst e
    rw [putV_len h5]
    simp [h2]
  · rfl
theorem apG_szs : ∀ (ws : List Wrt) (im : List (List Sec)) (i : Nat), (apG ws im i).2.2 = 0 → szOf (apG ws im i).1 = szOf im
  | [], im, i, _ => rfl
  | w :: l, im, i, h => by
    unfold apG at h ⊢
    by_cases g : fitE (szOf im) w = 0
    · rw [if_pos g] at h ⊢
      rw [apG_szs l _ _ h, putW_szs g]
    · rw [if_neg g] at h
      exact absurd h g
end Go.Proofs.YtkghiceeegindaaGreatDoor
namespace Go.Proofs.YtkghiceeegindaaGreatDoor
open Go.Proofs Go.AL
open Go.ChangeShapes Go.WideShapes Go.RowKit
set_option linter.unusedVariables false
set_option linter.unusedSimpArgs false
structure Pln where
  sizes : List Int
  lists : List (List Wrt)
def wrsRow (l : List Wrt) : List AV := [.snap (encL opRow l)]
def encP (p : Pln) : List AV := [.snap (encL intRow p.sizes), .snap (encL wrsRow p.lists)]
structure Crs where
  at1 : Int
  at2 : Int
  ch1 : List Int
  ch2 : List Int
def encK (c : Crs) : List AV := [zV c.at1, zV c.at2, .snap (encL intRow c.ch1), .snap (encL intRow c.ch2)]
def shP : List Sh := [.sl [shI], .sl [.sl shOp]]
def shK : List Sh := [shI, shI, .sl [shI], .sl [shI]]
theorem open_wrs (r : List AV) (h : CfR [.sl shOp] r) : ∃ l : List Wrt, ((∀ o ∈ l, (∀ s ∈ o.2.2, SecOK s) ∧ o.2.2.length ≤ maxLen) ∧ l.length ≤ maxLen) ∧ r = wrsRow l := by
  obtain ⟨a0, r, rfl, h0, g0⟩ := h.uncons
  obtain rfl := g0.unnil
  obtain ⟨l, w1, w2, rfl⟩ := open_ops h0
  exact ⟨l, ⟨w1, w2⟩, rfl⟩
theorem open_pln (r : List AV) (h : CfR shP r) : ∃ p : Pln, (p.sizes.length ≤ maxLen ∧ p.lists.length ≤ maxLen ∧ ∀ l ∈ p.lists, (∀ o ∈ l, (∀ s ∈ o.2.2, SecOK s) ∧ o.2.2.length ≤ maxLen) ∧ l.length ≤ maxLen) ∧ r = encP p := by
  obtain ⟨a0, r, rfl, h0, g0⟩ := h.uncons
  obtain ⟨a1, r, rfl, h1, g1⟩ := g0.uncons
  obtain rfl := g1.unnil
  obtain ⟨sz, _, w0, rfl⟩ := open_ints h0
  obtain ⟨ls, w1, w2, rfl⟩ := sl_enc open_wrs h1
  exact ⟨⟨sz, ls⟩, ⟨w0, w2, w1⟩, rfl⟩
theorem open_crs (r : List AV) (h : CfR shK r) : ∃ c : Crs, (c.ch1.length ≤ maxLen ∧ c.ch2.length ≤ maxLen) ∧ r = encK c := by
  obtain ⟨a0, r, rfl, h0, g0⟩ := h.uncons
  obtain ⟨a1, r, rfl, h1, g1⟩ := g0.uncons
  obtain ⟨a2, r, rfl, h2, g2⟩ := g1.uncons
  obtain ⟨a3, r, rfl, h3, g3⟩ := g2.uncons
  obtain rfl := g3.unnil
  obtain ⟨n0, rfl, _⟩ := h0.unint
  obtain ⟨n1, rfl, _⟩ := h1.unint
  obtain ⟨l0, _, w0, rfl⟩ := open_ints h2
  obtain ⟨l1, _, w1, rfl⟩ := open_ints h3
  exact ⟨⟨n0, n1, l0, l1⟩, ⟨w0, w1⟩, rfl⟩
theorem shp73 : shp Tryz.prog 10 73 = some shP := by kernel_rfl
theorem shp84 : shp Tryz.prog 10 84 = some shK := by kernel_rfl
end Go.Proofs.YtkghiceeegindaaGreatDoor
namespace Go.Proofs.YtkghiceeegindaaGreatDoor
open Go.Proofs Go.AL
set_option maxRecDepth 100000
set_option maxHeartbeats 1000000
set_option linter.unusedVariables false
set_option linter.unusedSimpArgs false
attribute [local irreducible] endA AW aops thenA blockA hold
def volBlk (v : List Sec) : Blk := .cells 96 8 (encL encSec v) true true
def rowsV (ids : List Nat) (im : List (List Sec)) : List (List AV) := List.zipWith (fun id v => [AV.own id 0 v.length]) ids im
structure VolsV (G : Nat → Option Blk) (N : Nat) (im : List (List Sec)) (ids : List Nat) : Prop where
  len : ids.length = im.length
  nd : ids.Nodup
  rng : ∀ q ∈ ids, q < N
  get : ∀ i, i < im.length → G (ids.getD i 0) = some (volBlk (im.getD i []))
theorem ids_mem {ids : List Nat} {i : Nat} (h : i < ids.length) : ids.getD i 0 ∈ ids := getD_mem' 0 h
theorem ids_inj {ids : List Nat} (hn : ids.Nodup) {i j : Nat} (hi : i < ids.length) (hj : j < ids.length) (h : ids.getD i 0 = ids.getD j 0) : i = j := by
  have h1 : ids[i] = ids[j] := by simpa [hi, hj] using h
  exact (List.getElem_inj hn).1 h1
theorem VolsV.nil {G : Nat → Option Blk} {N : Nat} : VolsV G N [] [] := ⟨rfl, List.nodup_nil, fun q h => by simp at h, fun i h => by simp at h⟩
theorem VolsV.snoc {G G' : Nat → Option Blk} {N N' m : Nat} {im : List (List Sec)} {ids : List Nat} (h : VolsV G N im ids) (v : List Sec) (hm : N ≤ m) (hN : m < N') (hnew : G' m = some (volBlk v)) (hold : ∀ q ∈ ids, G' q = G q) : VolsV G' N' (im ++ [v]) (ids ++ [m]) := by
  refine ⟨by simp [h.len], List.nodup_append.2 ⟨h.nd, by simp, fun a ha b hb => ?_⟩, fun q hq => ?_, fun i hi => ?_⟩
  · simp at hb; subst hb
    have := h.rng a ha
    omega
  · rcases List.mem_append.1 hq with h1 | h1
    · have := h.rng q h1; omega
    · simp at h1; omega
  · by_cases hlt : i < im.length
    · have h1 : i < ids.length := by rw [h.len]; exact hlt
      rw [List.getD_eq_getElem?_getD, List.getElem?_append_left h1, ← List.getD_eq_getElem?_getD, List.getD_eq_getElem?_getD (l := im ++ [v]), List.getElem?_append_left hlt, ← List.getD_eq_getElem?_getD, hold _ (ids_mem h1)]
      exact h.get i hlt
    · have : i = im.length := by simp at hi; omega
      subst this
      have e1 : (ids ++ [m]).getD im.length 0 = m := by rw [← h.len]; simp
      have e2 : (im ++ [v]).getD im.length [] = v := by simp
      rw [e1, e2]
      exact hnew
theorem VolsV.put {G G' : Nat → Option Blk} {N N' : Nat} {im : List (List Sec)} {ids : List Nat} (h : VolsV G N im ids) {i : Nat} (hi : i < im.length) (v : List Sec) (hN : N ≤ N') (hnew : G' (ids.getD i 0) = some (volBlk v)) (hold : ∀ q ∈ ids, q ≠ ids.getD i 0 → G' q = G q) : VolsV G' N' (im.set i v) ids := by
  have hi2 : i < ids.length := by rw [h.len]; exact hi
  refine ⟨by simp [h.len], h.nd, fun q hq => by have := h.rng q hq; omega, fun j hj => ?_⟩
  have hj' : j < im.length := by simpa using hj
  have hj2 : j < ids.length := by rw [h.len]; exact hj'
  by_cases hij : i = j
  · subst hij
    rw [hnew]; simp [hi]
  · have hne : ids.getD j 0 ≠ ids.getD i 0 := fun e => hij (ids_inj h.nd hj2 hi2 e).symm
    rw [hold _ (ids_mem hj2) hne, h.get j hj']
    congr 2
    simp [List.getElem?_set_ne hij]
theorem rowsV_len {ids : List Nat} {im : List (List Sec)} (h : ids.length = im.length) : (rowsV ids im).length = im.length := by simp [rowsV, h]
theorem rowsV_get {ids : List Nat} {im : List (List Sec)} (h : ids.length = im.length) {i : Nat} (hi : i < im.length) : (rowsV ids im)[i]? = some [.own (ids.getD i 0) 0 (im.getD i []).length] := by
  have h2 : i < ids.length := by omega
  unfold rowsV
  rw [List.getElem?_zipWith, List.getElem?_eq_getElem h2, List.getElem?_eq_getElem hi]
  simp [h2, hi]
theorem rowsV_snoc {ids : List Nat} {im : List (List Sec)} (h : ids.length = im.length) (m : Nat) (v : List Sec) : rowsV ids im ++ [[.own m 0 v.length]] = rowsV (ids ++ [m]) (im ++ [v]) := by
  simp [rowsV, List.zipWith_append h]
theorem rowsV_set {ids : List Nat} {im : List (List Sec)} {i : Nat} {v : List Sec} (hl : v.length = (im.getD i []).length) : rowsV ids (im.set i v) = rowsV ids im := by
  refine List.ext_getElem? fun j => ?_
  simp only [rowsV, List.getElem?_zipWith]
  by_cases hij : i = j
  · subst hij
    by_cases hi : i < im.length
    · simp [hi] at hl ⊢
      cases ids[i]? <;> simp [hl]
    · rw [List.getElem?_eq_none (l := im.set i v) (by rw [List.length_set]; omega), List.getElem?_eq_none (l := im) (by omega)]
  · rw [List.getElem?_set_ne hij]
theorem VolsV.exp {G : Nat → Option Blk} {N : Nat} {im : List (List Sec)} {ids : List Nat} (h : VolsV G N im ids) {F : Nat → Option Blk} {o : Nat} (k : Nat) {t : TypeId} {w a : Bool} (ho : F o = some (.cells t 1 (rowsV ids im) w a)) (hF : ∀ q ∈ ids, F q = G q) : expoD F (k + 3) (.own o 0 im.length) = .snap (encL volRow im) := by
  have hl := rowsV_len h.len
  have e0 : rowsOf F (.own o 0 im.length) = some (rowsV ids im, [o]) := by
    simp only [rowsOf, ho, hl]
    rw [if_pos (by omega), List.drop_zero, List.take_of_length_le (by omega)]
  have e1 : ∀ i, i < im.length → expoD F (k + 2) (.own (ids.getD i 0) 0 (im.getD i []).length) = .snap (encL encSec (im.getD i [])) := fun i hi => by
    have h2 : i < ids.length := by rw [h.len]; exact hi
    have e2 : rowsOf F (.own (ids.getD i 0) 0 (im.getD i []).length) = some (encL encSec (im.getD i []), [ids.getD i 0]) := by
      simp only [rowsOf, hF _ (ids_mem h2), h.get i hi, volBlk, encL_len]
      rw [if_pos (by omega), List.drop_zero, List.take_of_length_le (by rw [encL_len]; omega)]
    rw [expoD, e2]
    simp only []
    rw [encL_expoD (f := encSec) (fun s x hx => by
      simp only [encSec, List.mem_cons, List.not_mem_nil, or_false] at hx
      rcases hx with rfl | rfl | rfl | rfl | rfl | rfl | rfl | rfl <;> exact ⟨_, rfl⟩)]
  rw [expoD, e0]
  simp only []
  congr 1
  refine List.ext_getElem? fun i => ?_
  rw [List.getElem?_map]
  by_cases hi : i < im.length
  · rw [rowsV_get h.len hi]
    simp only [Option.map_some, List.map_cons, List.map_nil, e1 i hi]
    rw [gVol im i hi]
    rfl
  · rw [List.getElem?_eq_none (by rw [hl]; omega), List.getElem?_eq_none (by rw [encL_len]; omega)]
    rfl
end Go.Proofs.YtkghiceeegindaaGreatDoor
namespace Go.Proofs.YtkghiceeegindaaGreatDoor
open Go.Proofs Go.AL
set_option maxRecDepth 100000
set_option maxHeartbeats 2000000
set_option linter.unusedVariables false
set_option linter.unusedSimpArgs false
attribute [local irreducible] endA AW aops thenA blockA hold
theorem fits_big (im : List (List Sec)) (w : Int × Int × List Sec) (hl : im.length ≤ 1000) (hv : ∀ v ∈ im, v.length ≤ 1000000) (hw : w.2.2.length ≤ 9223372036854775807) : PC 128 [.snap (encL volRow im), .agg (opRow w)] (zV (fitE (szOf im) w)) := by
  refine pstart Tryz.func128 Tryz.ntmps128 (.c _) ?_
  have hg := gV im
  obtain ⟨v, s, l⟩ := w
  unfold opRow
  simp only [] at *
  unfold fitE
  by_cases g1 : v < 0
  · rw [if_pos (.inl g1)]
    refine zgo ?_
    exact zfin
  by_cases g2 : (im.length : Int) ≤ v
  · rw [if_pos (by rw [szOf_len]; exact .inr g2)]
    refine zgo ?_
    exact zfin
  rw [if_neg (by rw [szOf_len]; omega)]
  by_cases g3 : l.length = 0
  · rw [if_pos g3]
    have g4 : (l.length : Int) = 0 := by omega
    refine zgo ?_
    exact zfin
  rw [if_neg g3]
  have g4 : ¬ (l.length : Int) = 0 := by omega
  obtain ⟨n, rfl⟩ := Int.eq_ofNat_of_zero_le (by omega : 0 ≤ v)
  have g5 : n < im.length := by omega
  have e1 : (szOf im).getD ((n : Int)).toNat 0 = ((im.getD n []).length : Int) := by
    rw [Int.toNat_natCast]
    unfold szOf
    rw [List.getD_eq_getElem?_getD, List.getD_eq_getElem?_getD, List.getElem?_map, List.getElem?_eq_getElem g5]
    rfl
  rw [e1]
  have hvn := hv _ (getD_mem' [] g5)
  have hgn := hg n g5
  clear hg hv e1
  generalize im.getD n [] = V at *
  have w1 : IntKind.i64.wrap ((V.length : Int) - l.length) = (V.length : Int) - l.length := IntWalk.i64_in _ (by omega)
  by_cases g6 : s < 0
  · rw [if_pos (.inl g6)]
    refine zgo ?_
    exact zfin
  by_cases g7 : (V.length : Int) - l.length < s
  · rw [if_pos (.inr g7)]
    refine zgo ?_
    exact zfin
  rw [if_neg (fun h => by simp only [] at h; omega)]
  refine zgo ?_
  exact zfin
theorem fits_f (im : List (List Sec)) (w : Wrt) (hl : im.length ≤ 1000) (hv : ∀ v ∈ im, v.length ≤ 1000000) (hw : w.2.2.length ≤ 9223372036854775807) : FC 128 [.snap (encL volRow im), .agg (opRow w)] (zV (fitE (szOf im) w)) :=
  FCall.ofK (fits_big im w hl hv hw) rfl
def HeadC (im : List (List Sec)) (n : Nat) (env : List (Nat × Bool × AV)) (H : Heap) : Prop :=
  ∃ (k N o : Nat) (G : Nat → Option Blk) (ids : List Nat), n = im.length - k ∧ k ≤ im.length ∧ VolsV G N (im.take k) ids ∧ o < N ∧ (∀ q ∈ ids, q ≠ o) ∧ (∀ id, N ≤ id → G id = none) ∧
    env = [(13, true, zV k), (12, true, zV im.length), (11, true, .snap (encL volRow im)), (1, true, .fn (.func 71) [] []), (5, true, .own o 0 k)] ∧
    H = ⟨N, tabB G [(o, some (.cells 22 1 (rowsV ids (im.take k)) true true))]⟩
def R0 (ids : List Nat) (im : List (List Sec)) := rowsV ids im
def HeadW (im : List (List Sec)) (ws : List Wrt) (M : List (List Sec) × Int × Int) (n : Nat) (env : List (Nat × Bool × AV)) (H : Heap) : Prop :=
  ∃ (k N o : Nat) (G : Nat → Option Blk) (ids : List Nat) (cur : List (List Sec)), n = ws.length - k ∧ k ≤ ws.length ∧ VolsV G N cur ids ∧ o < N ∧ (∀ q ∈ ids, q ≠ o) ∧ (∀ id, N ≤ id → G id = none) ∧ szOf cur = szOf im ∧ apG (ws.drop k) cur k = M ∧
    env = [(21, true, zV k), (20, true, zV ws.length), (19, true, .snap (encL opRow ws)), (8, true, .own o 0 im.length)] ∧
    H = ⟨N, tabB G [(o, some (.cells 22 1 (rowsV ids cur) true true))]⟩
theorem iapply_p (im : List (List Sec)) (ws : List Wrt) (hl : im.length ≤ 1000) (hv : ∀ v ∈ im, v.length ≤ 1000000) (hw : ∀ w ∈ ws, w.2.2.length ≤ 9223372036854775807) (hwl : ws.length ≤ 9223372036854775807) : PC 89 [.snap (encL volRow im), .snap (encL opRow ws)] (.tup [.snap (encL volRow (apE im ws).1), zV (apE im ws).2.1, zV (apE im ws).2.2]) := by
  refine pstartD Tryz.func89 Tryz.ntmps89 (by simp only [go_sem]) ?_
  have c1 := icheck_p im hl
  obtain ⟨M, hM⟩ : ∃ M, apE im ws = M := ⟨_, rfl⟩
  rw [hM]
  unfold apE at hM
  by_cases g : sizesE (szOf im) = 0
  · rw [if_pos g] at hM
    rw [g] at c1
    have hsz := sizes_ok g
    have hgv := gVol im
    clear g
    refine zgo2 ?_
    refine zin Tryz.func127 Tryz.ntmps127 ?_
    refine zgo2 ?_
    refine zin Tryz.func157 Tryz.ntmps157 ?_
    refine zgo2 ?_
    refine w_loop (HeadC im) im.length ?_ ?_
    · refine ⟨_, _, ⟨0, 1000, 0, fun _ => none, [], by omega, by omega, VolsV.nil, by omega, fun q h => by simp at h, fun _ _ => rfl, rfl, rfl⟩, ?_⟩
      rw [← tabG_B, show rowsV [] (im.take 0) = [] from rfl]
      exact zholds
    · rintro n env H ⟨k, N, o, G, ids, rfl, hk, hV, hoN, hio, hG, rfl, rfl⟩
      have hV' := Lat.mk hV
      have hio' := Lat.mk hio
      have hG' := Lat.mk hG
      have hlen := hV.len
      have hF : ∀ q, q ∈ ids → q ≠ o := hio
      clear hV hio hF
      by_cases hlt : k < im.length
      · have hgk := hgv k hlt
        have hve := hv _ (getD_mem' [] hlt)
        have hne : im.getD k [] ≠ [] := fun e => by
          have := hsz.2.2 ((im.getD k []).length : Int) (by
            unfold szOf
            exact List.mem_map.2 ⟨_, getD_mem' [] hlt, rfl⟩)
          rw [e] at this
          simp at this
        have c2 := cloneS_o (im.getD k []) hne hve
        have htk : Lat (im.take (k + 1) = im.take k ++ [im.getD k []]) := ⟨by
          rw [List.take_succ_eq_append_getElem hlt]; simp [hlt]⟩
        have hlk : (im.take k).length = k := by rw [List.length_take]; omega
        have hrl := rowsV_len hlen
        have hsn : Lat (∀ m, rowsV ids (im.take k) ++ [[.own m 0 (im.getD k []).length]] = rowsV (ids ++ [m]) (im.take (k + 1))) := ⟨fun m => by rw [htk.out]; exact rowsV_snoc hlen m _⟩
        rw [hlk] at hrl
        generalize hR : rowsV ids (im.take k) = R at *
        generalize im.getD k [] = V at *
        clear hgv hv hsz hne hlen hlk
        refine zgo2 ?_
        have hN : VolsV (tabB G [(N, some (volBlk V)), (o, none)]) (N + 3) (im.take (k + 1)) (ids ++ [N]) := by
          rw [htk.out]
          refine hV'.out.snoc V (Nat.le_refl _) (by omega) (by simp only [tabB, lookB, if_true]) fun q hq => ?_
          have h1 := hV'.out.rng q hq
          have h2 := hio'.out q hq
          simp only [tabB, lookB]
          rw [if_neg (by omega), if_neg h2]
        refine ⟨im.length - (k + 1), by omega, _, _, ⟨k + 1, N + 3, N + 1 + 1, _, _, rfl, by omega, hN, by omega, fun q hq => ?_, tabB_free hG'.out (by omega) (by simp only [keysLt, and_true]; omega), rfl, rfl⟩, ?_⟩
        · rcases List.mem_append.1 hq with h1 | h1
          · have := hV'.out.rng q h1; omega
          · simp at h1; omega
        · rw [tabB_tabB, ← hsn.out]
          simp only [List.cons_append, List.nil_append, volBlk]
          exact zholdsB
      · obtain rfl : k = im.length := by omega
        rw [List.take_of_length_le (Nat.le_refl im.length)] at hV' hlen ⊢
        have hrl := rowsV_len hlen
        clear hgv hG
        have hR' : Lat (R0 ids im = rowsV ids im) := ⟨rfl⟩
        rw [← hR'.out]
        rw [← hR'.out] at hrl
        generalize R0 ids im = R at *
        refine zgo2 ?_
        refine w_loop (HeadW im ws M) ws.length ?_ ?_
        · refine ⟨_, _, ⟨0, N, o, G, ids, im, by omega, by omega, hV'.out, hoN, hio'.out, hG'.out, rfl, hM, rfl, rfl⟩, ?_⟩
          rw [← hR'.out]
          have hG := hG'.out
          exact zholdsB
        · rintro n env H ⟨k, N, o, G, ids, cur, rfl, hk, hV, hoN, hio, hG, hcs, hcm, rfl, rfl⟩
          have hG' := Lat.mk hG
          have hV' := Lat.mk hV
          have hio' := Lat.mk hio
          have hlen := hV.len
          have hrl := rowsV_len hlen
          have hcl : cur.length = im.length := by have := congrArg List.length hcs; simpa [szOf] using this
          have hexp : Lat (∀ (F : Nat → Option Blk), F o = some (.cells 22 1 (rowsV ids cur) true true) → (∀ q ∈ ids, F q = G q) → expoD F 3 (.own o 0 im.length) = .snap (encL volRow cur)) := ⟨fun F h1 h2 => by rw [← hcl]; exact hV.exp 0 h1 h2⟩
          by_cases hlt : k < ws.length
          · have hgk := gW ws k hlt
            have hwk := hw _ (getD_mem' zWr hlt)
            have hdk : ws.drop k = ws.getD k zWr :: ws.drop (k + 1) := by
              rw [List.drop_eq_getElem_cons hlt]; simp [hlt]
            rw [hdk] at hcm
            unfold apG at hcm
            have c3 := fits_f cur (ws.getD k zWr) (by omega) (fun v hvm => by
              have h1 : ((v.length : Int)) ∈ szOf im := by rw [← hcs]; exact List.mem_map.2 ⟨v, hvm, rfl⟩
              have := hsz.2.2 _ h1
              omega) hwk
            have hfi : Lat (fitE (szOf cur) (ws.getD k zWr) = 0 → _) := ⟨fun h => fitE_in h⟩
            have hput : Lat (fitE (szOf cur) (ws.getD k zWr) = 0 → szOf (putW cur (ws.getD k zWr)) = szOf cur) := ⟨fun h => putW_szs h⟩
            generalize ws.getD k zWr = w at *
            obtain ⟨v, t, d⟩ := w
            have hgk2 : (encL opRow ws)[k]? = some [zV v, zV t, .snap (encL encSec d)] := hgk
            have c4 : FC 128 [.snap (encL volRow cur), .agg [zV v, zV t, .snap (encL encSec d)]] (zV (fitE (szOf cur) (v, t, d))) := c3
            simp only [] at *
            clear hV hio hw hv hsz hdk hgk c3
            have hFq : ∀ (x : Option Blk), Lat (∀ q ∈ ids, tabB G [(o, some (.cells 22 1 (rowsV ids cur) true true)), (N, x)] q = G q) := fun x => ⟨fun q hq => by
              have h1 := hV'.out.rng q hq
              have h2 := hio'.out q hq
              simp only [tabB, lookB]
              rw [if_neg h2, if_neg (by omega)]⟩
            refine zgo2 ?_
            refine w_callA (args := [.own o 0 im.length, .agg [zV v, zV t, .snap (encL encSec d)]]) (n := 128) rfl rfl ?hc (c4.act 3 ?he ?hn) ?hrest
            case hc => simp (maxSteps := 2000000) (disch := omega) only [go_sem, *] <;> rfl
            case he =>
              simp only [List.map_cons, List.map_nil]
              rw [hexp.out _ (by simp only [tabB, lookB, if_true]) (hFq _).out]
              rfl
            case hn => simp only [go_sem]
            case hrest =>
              rintro r H' ⟨rfl, rfl⟩
              by_cases hft : fitE (szOf cur) (v, t, d) = 0
              · rw [if_pos hft] at hcm
                obtain ⟨f1, f2, f3, f4, f5⟩ := hfi.out hft
                have hput' := hput.out hft
                simp only [] at f1 f2 f3 f4 f5
                rw [hft]
                clear hft hfi hput hexp c4
                obtain ⟨V, rfl⟩ := Int.eq_ofNat_of_zero_le f1
                obtain ⟨T, rfl⟩ := Int.eq_ofNat_of_zero_le f4
                simp only [Int.toNat_natCast] at f2 f5
                have hrow := rowsV_get hlen f2
                have hgq := hV'.out.get V f2
                have hqr := hV'.out.rng _ (ids_mem (by rw [hlen]; exact f2))
                have hqo := hio'.out _ (ids_mem (by rw [hlen]; exact f2))
                have hVi : V < im.length := by omega
                unfold volBlk at hgq
                have hset : Lat (∀ v, v.length = (cur.getD V []).length → rowsV ids (cur.set V v) = rowsV ids cur) := ⟨fun v h => rowsV_set h⟩
                have hpw : Lat (putW cur ((V : Int), (T : Int), d) = cur.set V (putV (cur.getD V []) T d)) := ⟨by unfold putW; simp only [Int.toNat_natCast]⟩
                have hqi : Lat (ids.getD V 0 = ids.getD V 0) := ⟨rfl⟩
                generalize hqe : ids.getD V 0 = q at *
                generalize hve : cur.getD V [] = v0 at *
                have hmn : Nat.min d.length (v0.length - T) = d.length := Nat.min_eq_left (by omega)
                have htk : (encL encSec d).take d.length = encL encSec d := List.take_of_length_le (by rw [encL_len]; omega)
                have hput2 := Lat.mk hput'
                have hcs2 := Lat.mk hcs
                have hqe2 := Lat.mk hqe
                have hve2 := Lat.mk hve
                have hcm2 := Lat.mk hcm
                clear f1 f4 hput' hcs hFq hqi hqe hve hcm
                refine zgo2 ?_
                have hpl : (putV v0 T d).length = v0.length := putV_len f5
                have hV2 : VolsV (tabB G [(q, some (volBlk (putV v0 T d)))]) (N + 13) (cur.set V (putV v0 T d)) ids := by
                  refine hV'.out.put f2 _ (by omega) (by rw [hqe2.out]; simp only [tabB, lookB, if_true]) fun q' hq1 hq2 => ?_
                  rw [hqe2.out] at hq2
                  simp only [tabB, lookB]
                  rw [if_neg hq2]
                refine ⟨ws.length - (k + 1), by omega, _, _, ⟨k + 1, N + 13, o, _, ids, cur.set V (putV v0 T d), rfl, by omega, hV2, by omega, hio'.out, tabB_free hG'.out (by omega) (by simp only [keysLt, and_true]; omega), ?_, ?_, rfl, rfl⟩, ?_⟩
                · rw [← hpw.out, hput2.out]; exact hcs2.out
                · rw [← hpw.out]; exact hcm2.out
                · rw [tabB_tabB, hset.out _ hpl]
                  simp only [List.cons_append, List.nil_append, volBlk, putV]
                  exact zholdsB
              · rw [if_neg hft] at hcm
                subst hcm
                generalize fitE (szOf cur) (v, t, d) = e at *
                clear hexp hrl hcl hlen c4
                refine zgo2 ?_
                exact zfin2
          · obtain rfl : k = ws.length := by omega
            rw [List.drop_length] at hcm
            obtain rfl : (cur, (0 : Int), (0 : Int)) = M := hcm
            have hFq : Lat (∀ q ∈ ids, tabB G [(o, some (.cells 22 1 (rowsV ids cur) true true))] q = G q) := ⟨fun q hq => by
              have h2 := hio'.out q hq
              simp only [tabB, lookB]
              rw [if_neg h2]⟩
            clear hio hV hw hM
            refine zgo2 ?_
            have e : expoD (tabB G [(o, some (.cells 22 1 (rowsV ids cur) true true))]) 4 (.tup [.own o 0 im.length, zV 0, zV 0]) = .tup [.snap (encL volRow cur), zV 0, zV 0] := by
              show AV.tup [expoD _ 3 (.own o 0 im.length), zV 0, zV 0] = _
              rw [hexp.out _ (by simp only [tabB, lookB, if_true]) hFq.out]
            refine ⟨?_, ?_⟩
            · show NoId (expoD _ 4 _)
              rw [e]
              simp only [go_sem]
            · show Wk (expoD _ 4 _) _
              rw [e]
              exact .refl _
  · rw [if_neg g] at hM
    subst hM
    clear hw
    refine zgo2 ?_
    exact zfin2
end Go.Proofs.YtkghiceeegindaaGreatDoor
