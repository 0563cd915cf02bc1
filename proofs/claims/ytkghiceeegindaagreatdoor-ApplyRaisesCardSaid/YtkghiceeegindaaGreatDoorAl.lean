/- Apply: contracts of its functions (Al). No condition but those named. -/
import Derived.Shelf.SlSortCmp.WholeK
import Derived.Shelf.SlSortCmp.NoneTotal
import Derived.Shelf.Lay
import Derived.Ground.SlsfProg
import Derived.Test.YtkghiceeegindaaGreatDoorAj
import Derived.Test.YtkghiceeegindaaGreatDoorAk
import Derived.Test.YtkghiceeegindaaGreatDoorLc
import Derived.Test.YtkghiceeegindaaGreatDoorAi
import Derived.Test.YtkghiceeegindaaGreatDoorLe
namespace Go.Proofs.YtkghiceeegindaaGreatDoor
open Go.Proofs Go.AL Go.RowKit Go.Sort Go.Shelf
set_option linter.unusedVariables false
set_option linter.unusedSimpArgs false
shelf_lay_g SlLaysF0.n6 Slsf 6 at Tryz 160 as Tryz.sortPl
def plRow (p : Pl) : List AV := [zV p.1, zV p.2]
def encPv (x : Pl) : List Value := [.int .i64 x.1, .int .i64 x.2]
theorem cmpI_lt (a b : Int) : Lib.compareInt a b < 0 ↔ a < b := by
  unfold Lib.compareInt
  by_cases h1 : a < b
  · simp [h1]
  · by_cases h2 : b < a <;> simp [h1, h2]
theorem cmpI_zero (a b : Int) : Lib.compareInt a b = 0 ↔ a = b := by
  unfold Lib.compareInt
  by_cases h1 : a < b
  · simp [h1]; omega
  · by_cases h2 : b < a
    · simp [h1, h2]; omega
    · simp [h1, h2]; omega
theorem ltPc (x y : Pl) : ltOf cfP x y = ltP x y := by
  unfold ltOf cfP ltP
  by_cases h : x.1 = y.1
  · rw [if_pos ((cmpI_zero _ _).2 h)]
    have := cmpI_lt x.2 y.2
    rw [Bool.eq_iff_iff]
    simp only [decide_eq_true_eq, Bool.or_eq_true, Bool.and_eq_true]
    omega
  · rw [if_neg (fun q => h ((cmpI_zero _ _).1 q))]
    have := cmpI_lt x.1 y.1
    rw [Bool.eq_iff_iff]
    simp only [decide_eq_true_eq, Bool.or_eq_true, Bool.and_eq_true]
    omega
theorem swoP : SWO (ltOf cfP) where
  irrefl x := by rw [ltPc]; simp [ltP]
  trans x y z h1 h2 := by
    rw [ltPc] at *
    rw [ltP_iff] at *
    omega
  ntrans x y z h1 h2 := by
    rw [ltPc] at *
    rw [← Bool.not_eq_true, ltP_iff] at *
    omega
def srtP (l : List Pl) : List Pl := (pdq (ltOf cfP) l.toArray 0 l.length (Lib.bitLen l.length) true true).toList
theorem srtP_spec (l : List Pl) : (srtP l).length = l.length ∧ (srtP l).Perm l ∧ (srtP l).Pairwise (fun x y => ltP y x = false) := by
  have h := pdq_sorts (ltOf cfP) swoP l.toArray 0 l.length (Lib.bitLen l.length) true true (Nat.zero_le _) (Nat.le_refl _) (Or.inl rfl)
  unfold srtP
  generalize pdq (ltOf cfP) l.toArray 0 l.length (Lib.bitLen l.length) true true = d at h
  obtain ⟨⟨h1, _, h2⟩, h3⟩ := h
  have hs : d.size = l.length := by simpa using h1
  refine ⟨by simpa using h1, ?_, ?_⟩
  · have e1 : (d.extract 0 l.length) = d := by rw [← hs]; simp
    have e2 : (l.toArray.extract 0 l.length) = l.toArray := by simp
    rw [e1, e2] at h2
    exact h2
  · rw [List.pairwise_iff_getElem]
    intro i j hi hj hij
    have := h3 i j (Nat.zero_le _) hij (by simpa [hs] using hj)
    rw [ltPc] at this
    have hi' : i < d.size := by simpa using hi
    have hj' : j < d.size := by simpa using hj
    rw [getElem!_pos d i hi', getElem!_pos d j hj'] at this
    simp only [Array.getElem_toList] at this ⊢
    exact this
theorem srtP_perm {l l' : List Pl} (h : l.Perm l') : srtP l = srtP l' := by
  obtain ⟨_, h2, h3⟩ := srtP_spec l
  obtain ⟨_, k2, k3⟩ := srtP_spec l'
  refine List.Perm.eq_of_pairwise (le := fun x y => ltP y x = false) (fun a b _ _ h4 h5 => ?_) h3 k3 ((h2.trans h).trans k2.symm)
  rw [← Bool.not_eq_true, ltP_iff] at h4 h5
  exact Prod.ext (by omega) (by omega)
theorem srtP_strict {l : List Pl} (h : l.Nodup) : (srtP l).Pairwise fun a b => ltP a b = true := by
  obtain ⟨_, h2, h3⟩ := srtP_spec l
  have hn : (srtP l).Nodup := h2.nodup_iff.2 h
  refine List.Pairwise.imp₂ (fun a b h4 h5 => ?_) h3 hn
  rw [← Bool.not_eq_true, ltP_iff] at h4
  rw [ltP_iff]
  have : ¬(a.1 = b.1 ∧ a.2 = b.2) := fun q => h5 (Prod.ext q.1 q.2)
  omega
theorem cmpLaysP (blk off size : Nat) (w : World) : CmpLays Tryz.prog 161 #[] encPv 2 cfP blk off size w :=
  fun _ _ _ _ x y => before_w x y _
theorem heap_putRow {α : Type} [Inhabited α] (enc : α → Value) (w : World) (blk off : Nat) (d : Array α) (cur : Array Value) (e : TypeId) (f : Nat × Nat) (h : w.heap[blk]? = some (.cells cur e f)) (k : Nat) :
    (putRow enc w blk off d).heap[k]? = (w.setRow blk (putCells enc off d cur)).heap[k]? := by
  by_cases hk : k = blk
  · subst hk
    rw [setRow_heap w k cur _ e f h]
    show (w.heap.modify k _)[k]? = _
    rw [Array.getElem?_modify, if_pos rfl, h]
    rfl
  · rw [setRow_other w blk k _ hk]
    show (w.heap.modify blk _)[k]? = _
    rw [Array.getElem?_modify, if_neg (Ne.symm hk)]
theorem encL_rowP {l : List Pl} {i : Nat} {row : List AV} (h : (encL plRow l)[i]? = some row) : ∃ x, l[i]? = some x ∧ row = plRow x := by
  unfold encL at h
  rw [List.getElem?_map] at h
  cases hk : l[i]? with
  | none => rw [hk] at h; cases h
  | some q => rw [hk] at h; injection h with h; exact ⟨q, rfl, h.symm⟩
theorem plRow_cell {x : Pl} {j : Nat} {a : AV} (h : (plRow x)[j]? = some a) : j < 2 ∧ a = .c (encPv x)[j]! ∧ isAggV (encPv x)[j]! = false := by
  match j, h with
  | 0, h => injection h with h; exact ⟨by omega, h.symm, rfl⟩
  | 1, h => injection h with h; exact ⟨by omega, h.symm, rfl⟩
theorem sortPl_a (H : Heap) (id : Nat) (a : Bool) (l : List Pl) (hl : l.length ≤ 4000000) (hg : H.get id = some (.cells 240 2 (encL plRow l) true a)) :
    ACall Tryz.prog 160 [.own id 0 l.length, .fn (.func 161) [] []] H (fun r H' => r = .tup [] ∧ H' = setB H id (some (.cells 240 2 (encL plRow (srtP l)) true a))) := by
  refine acallR (by kernel_rfl) hg fun E W vs cur hH hvs hcur hsize hcells hlen hsz => ?_
  obtain ⟨v1, v2, rfl⟩ : ∃ v1 v2, vs = [v1, v2] := by
    match vs, hvs.1 with
    | [v1, v2], _ => exact ⟨v1, v2, rfl⟩
  have hv1 := hvs.2 0 _ v1 rfl rfl
  have hv2 := hvs.2 1 _ v2 rfl rfl
  cases hv2 with
  | fn _ _ _ vf vc h1 h2 _ _ =>
  obtain rfl : vf = #[] := by apply Array.eq_empty_of_size_eq_zero; simpa using h1.symm
  obtain rfl : vc = #[] := by apply Array.eq_empty_of_size_eq_zero; simpa using h2.symm
  obtain ⟨s1, s2, s3⟩ := srtP_spec l
  have hLl : (encL plRow l).length = l.length := by simp [encL]
  -- none
  have hnone : l = [] → ∀ (p : Option Addr) (cap : Nat), Calls Tryz.prog 160 #[.slice p 0 cap, .func (.func 161) #[] #[]] W fun e W' => ∃ v, e = .returned v ∧ ∃ r cur' rows',
      cur'.size = cur.size ∧ rows'.length = (encL plRow l).length ∧ (∀ (i : Nat) row, rows'[i]? = some row → row.length = 2) ∧
      (∀ (i j : Nat) row x, rows'[i]? = some row → row[j]? = some x → ∃ v, cur'[i * 2 + j]? = some v ∧ RV E W x v) ∧
      Go.RowKit.Below W.heap.size (W.setRow (E.ι id) cur') W' ∧ RV E W' r v ∧ (r = .tup [] ∧ setB H id (some (.cells 240 2 rows' true a)) = setB H id (some (.cells 240 2 (encL plRow (srtP l)) true a))) := fun he p cap => by
    subst he
    have hs : srtP [] = [] := List.eq_nil_of_length_eq_zero s1
    refine (AnyF.slices_SortFunc_none (P := Tryz.prog) (ρ := Tryz.sortPl_ren) { Tryz.sortPl with } p cap (.func (.func 161) #[] #[]) W).mono ?_
    rintro e W' ⟨rfl, rfl⟩
    refine ⟨_, rfl, .tup [], cur, [], rfl, rfl, (fun i row h => by cases h), (fun i j row x h => by cases h), ⟨rfl, rfl, rfl, by simp, fun k hk => ?_⟩, ?_, rfl, by rw [hs]; rfl⟩
    · by_cases hkk : k = E.ι id
      · subst hkk; rw [setRow_heap W' _ cur cur 240 (0, 0) hcur]; exact hcur
      · rw [setRow_other W' _ k cur hkk]
    · exact .tup [] #[] rfl fun i x v h => by cases h
  generalize hn : l.length = n at hv1
  cases hv1 with
  | own0 _ _ p hU =>
    exact hnone (List.eq_nil_of_length_eq_zero hn) p 0
  | own _ _ _ cap hU hlc hsz2 =>
    subst hn
    by_cases h0 : l = []
    · have h5 : l.length = 0 := by rw [h0]; rfl
      have := hnone h0 (some ⟨E.ι id, 0 * E.sz id, none⟩) cap
      rw [h5]
      exact this
    · have hcell : ∀ t, t < l.length * 2 → cur[t]? = some (encPv l.toArray[t / 2]!)[t % 2]! := fun t ht => by
        have h6 : t / 2 < l.length := by omega
        have h7 : t % 2 < 2 := Nat.mod_lt _ (by omega)
        have h8 : (encL plRow l)[t / 2]? = some (plRow l[t / 2]) := by simp [encL, h6]
        have h9 : (plRow l[t / 2])[t % 2]? = some (.c (encPv l[t / 2])[t % 2]!) := by
          rcases (show t % 2 = 0 ∨ t % 2 = 1 by omega) with h | h <;> rw [h] <;> rfl
        obtain ⟨v, h10, h11⟩ := hcells _ _ _ _ h8 h9
        cases h11
        rw [show t / 2 * 2 + t % 2 = t by omega] at h10
        rw [h10, getElem!_pos l.toArray (t / 2) (by simpa using h6)]
        rfl
      have hcs : l.length * 2 ≤ cur.size := by rw [hLl] at hsize; exact hsize
      have hH2 : HoldsK encPv 2 W (E.ι id) 0 l.toArray := fun t ht => by
        rw [size_flatK] at ht
        have ht' : t < l.length * 2 := by simpa using ht
        rw [get_flatK _ _ _ _ ht]
        refine ⟨?_, ?_⟩
        · rw [Nat.zero_add, cell_of_row W _ t cur 240 (0, 0) hcur]; exact hcell t ht'
        · unfold World.frozen?
          simp [hcur]
      have hU2 := hH.core.inW id hU
      have hcon := AnyQ.slices_SortFunc_eq Tryz.sortPl 2 (fun _ => by kernel_rfl) (fun _ => by kernel_rfl) encPv (fun _ => rfl) (fun x v hv => by simp [encPv] at hv; rcases hv with rfl | rfl <;> rfl) cfP swoP 161 #[] (E.ι id) 0 cap l.toArray W (enters_of Tryz.func161 (by kernel_rfl) rfl) (cmpLaysP _ _ _ W) hH2 hU2 (by simp; omega)
      have e0 : (0 * E.sz id) = 0 := Nat.zero_mul _
      rw [e0]
      change Calls Tryz.prog 160 _ _ _ at hcon
      have el : l.toArray.size = l.length := by simp
      rw [el] at hcon
      refine hcon.mono ?_
      rintro e W' ⟨rfl, n, os, hW⟩
      have hd : pdq (ltOf cfP) l.toArray 0 l.length (Lib.bitLen l.length) true true = (srtP l).toArray := by unfold srtP; simp
      rw [hd] at hW
      refine ⟨_, rfl, .tup [], putCells _root_.id 0 (flatK encPv 2 (srtP l).toArray) cur, encL plRow (srtP l), by simp [putCells], by simp [encL, s1], fun i row h => ?_, fun i j row x h h' => ?_, ⟨?_, ?_, ?_, ?_, fun k hk => ?_⟩, ?_, rfl, rfl⟩
      · obtain ⟨x, _, rfl⟩ := encL_rowP h; rfl
      · obtain ⟨q, hq, rfl⟩ := encL_rowP h
        obtain ⟨hj, rfl, hag⟩ := plRow_cell h'
        refine ⟨_, ?_, .c _ hag⟩
        have hi : i < (srtP l).length := (List.getElem?_eq_some_iff.1 hq).1
        have ht : i * 2 + j < l.length * 2 := by omega
        unfold putCells
        rw [Array.getElem?_mapIdx, Array.getElem?_eq_getElem (by omega : i * 2 + j < cur.size)]
        simp only [Option.map_some, Nat.sub_zero, Nat.zero_le, true_and, Nat.zero_add, size_flatK]
        rw [if_pos (by simp; omega), get_flatK _ _ _ _ (by simp; omega)]
        have h1 : (i * 2 + j) / 2 = i := by omega
        have h2 : (i * 2 + j) % 2 = j := by omega
        rw [h1, h2, getElem!_pos (srtP l).toArray i (by simpa using hi)]
        have h3 : (srtP l)[i] = q := by rw [List.getElem?_eq_getElem hi] at hq; injection hq
        simp [h3]
      · rw [hW]; rfl
      · rw [hW]; rfl
      · rw [hW]; rfl
      · rw [hW]
        simp only [sortWorldK, grow, Array.size_append, putRowK, size_putRow]
        have : (W.setRow (E.ι id) (putCells _root_.id 0 (flatK encPv 2 (srtP l).toArray) cur)).heap.size = W.heap.size := by simp
        rw [this]
        show W.heap.size ≤ W.heap.size + os.size
        omega
      · rw [hW]
        unfold sortWorldK grow
        show (_ ++ os)[k]? = _
        have hks : k < (putRowK encPv 2 (Go.Sort.ahead W n) (E.ι id) 0 (srtP l).toArray).heap.size := by
          unfold putRowK; rw [size_putRow]; exact hk
        rw [Array.getElem?_append_left hks]
        exact heap_putRow _root_.id (Go.Sort.ahead W n) (E.ι id) 0 _ cur 240 (0, 0) hcur k
      · exact .tup [] #[] rfl fun i x v h => by cases h
end Go.Proofs.YtkghiceeegindaaGreatDoor
namespace Go.Proofs.YtkghiceeegindaaGreatDoor
open Go.Proofs Go.AL
set_option maxRecDepth 100000
set_option maxHeartbeats 2000000
set_option linter.unusedVariables false
set_option linter.unusedSimpArgs false
attribute [local irreducible] endA AW aops thenA blockA hold
def zPl : Pl := (0, 0)
theorem gPl (l : List Pl) (k : Nat) (h : k < l.length) : (encL plRow l)[k]? = some (plRow (l.getD k zPl)) := encL_get zPl h
def keyP (p : Pl) : Value := .agg [.int .i64 p.1, .int .i64 p.2].toArray
def encM (m : Ef) : List (Value × AV) := m.map fun p => (keyP p.1, .agg (encSec p.2))
@[go_sem] theorem encM_nil : encM [] = [] := rfl
theorem same_keyP (a b : Pl) : sameK (keyP a) (keyP b) = decide (a = b) := by
  obtain ⟨a1, a2⟩ := a
  obtain ⟨b1, b2⟩ := b
  have e : (IntKind.i64 == IntKind.i64) = true := rfl
  simp only [keyP, sameK, sameI, e, Bool.true_and, Bool.and_true, Prod.mk.injEq, Bool.decide_and]
  rfl
theorem putM_P (v s : Int) (x : Sec) : ∀ m : Ef, putM (.agg [.int .i64 v, .int .i64 s].toArray) (.agg (encSec x)) (encM m) = encM (putP (v, s) x m)
  | [] => rfl
  | (k', y) :: r => by
    have h := putM_P v s x r
    unfold encM at h ⊢
    simp only [List.map_cons, putM]
    have e : sameK (keyP k') (.agg [.int .i64 v, .int .i64 s].toArray) = decide (k' = (v, s)) := same_keyP k' (v, s)
    rw [e]
    unfold putP
    by_cases g : k' = (v, s)
    · rw [if_pos (by simp [g]), if_pos g]; simp
    · rw [if_neg (by simp [g]), if_neg g, h]; simp
theorem lookM_P (v s : Int) : ∀ m : Ef, lookM (.agg [.int .i64 v, .int .i64 s].toArray) (encM m) = (lookP (v, s) m).map fun x => .agg (encSec x)
  | [] => rfl
  | (k', y) :: r => by
    have h := lookM_P v s r
    unfold encM at h ⊢
    simp only [List.map_cons, lookM]
    have e : sameK (keyP k') (.agg [.int .i64 v, .int .i64 s].toArray) = decide (k' = (v, s)) := same_keyP k' (v, s)
    rw [e]
    unfold lookP
    by_cases g : k' = (v, s)
    · rw [if_pos (by simp [g]), if_pos g]; rfl
    · rw [if_neg (by simp [g]), if_neg g, h]
theorem keysB_M (m : Ef) : keysB (.array 2 0) (encM m) = true := by
  simp only [keysB, encM, List.all_map, List.all_eq_true]
  intro p _
  rfl
theorem encM_len (m : Ef) : (encM m).length = m.length := by simp [encM]
theorem encM_get (m : Ef) (i : Nat) : (encM m)[i]? = (m[i]?).map fun p => (keyP p.1, .agg (encSec p.2)) := by simp [encM]
theorem anyKey_M (m : Ef) : ∀ p ∈ encM m, anyKeyB p.1 = true := by
  intro p hp
  simp only [encM, List.mem_map] at hp
  obtain ⟨q, _, rfl⟩ := hp
  rfl
theorem putSecs_nil (m : Ef) (v s : Int) : putSecs m v s [] = m := rfl
attribute [local go_sem] putSecs_nil
attribute [local go_sem] putM_P lookM_P encM_len
theorem behind_p (v s : Int) (h0 : 0 ≤ s) (h1 : s ≤ 1000000) : PC 159 [.agg [zV v, zV s]] (.agg [zV v, zV (s + 1)]) := by
  refine pstart Tryz.func159 Tryz.ntmps159 (by simp only [go_sem]) ?_
  refine zgo2 ?_
  exact zfin
theorem plc_ok {w : Wrt} (h : plcE w = 0) : 0 ≤ w.1 ∧ w.1 < 8 ∧ 0 ≤ w.2.1 ∧ w.2.1 + w.2.2.length ≤ 4096 := by
  unfold plcE at h
  by_cases g1 : w.1 < 0 ∨ 8 ≤ w.1
  · rw [if_pos g1] at h; exact absurd h (by decide)
  rw [if_neg g1] at h
  by_cases g2 : w.2.2.length = 0
  · rw [if_pos g2] at h; exact absurd h (by decide)
  rw [if_neg g2] at h
  by_cases g3 : w.2.1 < 0 ∨ 4096 - (w.2.2.length : Int) < w.2.1
  · rw [if_pos g3] at h; exact absurd h (by decide)
  omega
def keyAt (M : Ef) (i : Nat) : Pl := (M.getD i (zPl, zSec)).1
theorem encM_inv {M : Ef} {i : Nat} {k : Value} {a : AV} (h : (encM M)[i]? = some (k, a)) : ∃ v s x, keyAt M i = (v, s) ∧ k = .agg #[.int .i64 v, .int .i64 s] ∧ a = .agg (encSec x) := by
  rw [encM_get] at h
  cases hm : M[i]? with
  | none => rw [hm] at h; cases h
  | some q =>
    rw [hm] at h
    simp only [Option.map_some, Option.some.injEq, Prod.mk.injEq] at h
    refine ⟨q.1.1, q.1.2, q.2, ?_, h.1.symm, h.2.symm⟩
    unfold keyAt
    rw [List.getD_eq_getElem?_getD, hm]; rfl
theorem pigeon : ∀ (n : Nat) (l : List Nat), l.Nodup → (∀ i ∈ l, i < n) → l.length ≤ n
  | 0, l, _, h => by
    cases l with
    | nil => exact Nat.le_refl _
    | cons a l => exact absurd (h a (by simp)) (Nat.not_lt_zero _)
  | n + 1, l, hn, h => by
    by_cases hm : n ∈ l
    · have h1 := pigeon n (l.erase n) (hn.erase n) fun i hi => by
        have h2 := (List.Nodup.mem_erase_iff hn).1 hi
        have := h i h2.2
        have := h2.1
        omega
      rw [List.length_erase_of_mem hm] at h1
      omega
    · have h1 := pigeon n l hn fun i hi => by
        have := h i hi
        have : i ≠ n := fun e => hm (e ▸ hi)
        omega
      omega
theorem keys_perm {M : Ef} {seen : List Nat} (hn : seen.Nodup) (hl : ∀ i ∈ seen, i < M.length) (ha : ∀ i, i < M.length → i ∈ seen) : (seen.map (keyAt M)).Perm (M.map (·.1)) := by
  have h1 : seen.Perm (List.range M.length) := (List.perm_ext_iff_of_nodup hn List.nodup_range).2 fun x => by
    rw [List.mem_range]
    exact ⟨hl x, ha x⟩
  have h2 : (List.range M.length).map (keyAt M) = M.map (·.1) := by
    refine List.ext_getElem (by simp) fun i a b => ?_
    have hi : i < M.length := by simpa using b
    simp [keyAt, hi]
  rw [← h2]
  exact h1.map _
def HeadR (M : Ef) (mid iid : Nat) (n : Nat) (env : List (Nat × Bool × AV)) (H : Heap) : Prop :=
  ∃ (seen : List Nat) (N q : Nat), n = M.length - seen.length ∧ seen.Nodup ∧ (∀ i ∈ seen, i < M.length) ∧ q ≠ mid ∧ q ≠ iid ∧ q < N ∧ mid < N ∧ iid < N ∧
    env = [(14, true, .ptr iid 0 0), (3, true, .own q 0 seen.length), (0, true, .omap mid)] ∧
    H = ⟨N, tabG [(mid, some (.map (encM M))), (iid, some (.iter mid M.length seen)), (q, some (.cells 240 2 (encL plRow (seen.map (keyAt M))) true true))]⟩
theorem guardPl : Tryz.prog.eqGuardType Tryz.prog.depth 240 = false := by kernel_rfl
theorem eqPl (a b c d : Int) : eqTop Tryz.prog 240 (.agg [zV a, zV b]) (.agg [zV c, zV d]) = some (decide ([a, b] = [c, d])) := by
  unfold eqTop
  rw [guardPl, if_neg (by simp)]
  have hk : keyD Tryz.prog 240 = some (.array 2 0) := by kernel_rfl
  unfold keyD at hk
  split at hk
  · rename_i fs hu
    split at hk
    · cases hk
    · rename_i hp
      obtain ⟨n, hm, he⟩ := map_some0 hk
      simp only [TypeDesc.array.injEq, and_true] at he
      subst he
      have := eqFs_flat (P := Tryz.prog) (d := 9998) fs.toList 0 2 [a, b] [c, d] hm rfl rfl
      simp only [List.drop_zero] at this
      show eqA Tryz.prog (9999 + 1) 240 (.agg (([a, b].map iV).map AV.c)) (.agg (([c, d].map iV).map AV.c)) = _
      rw [eqA_struct hu, if_neg hp]
      exact this
  · cases hk
  · rename_i hns hna
    exact absurd hk (hna _ _)
theorem last_get (D : List (List AV)) (r : List AV) (n : Nat) (h : D.length = n) : (D ++ [r])[n]? = some r := by subst h; simp
theorem last_set (D : List (List AV)) (r r' : List AV) (n : Nat) (h : D.length = n) : (D ++ [r]).set n r' = D ++ [r'] := by subst h; simp
def VPl (p : Pl) : Prop := 0 ≤ p.1 ∧ 0 ≤ p.2 ∧ p.2 ≤ 4096
def foldE (ws : List Wrt) : List Wrt := canP (effG [] ws) (srtP ((effG [] ws).map (·.1)))
theorem fold_p (ws : List Wrt) (hso : ∀ w ∈ ws, ∀ s ∈ w.2.2, SecOK s) (hpl : ∀ w ∈ ws, plcE w = 0) (hl : ws.length ≤ 1000) (hd : ∀ w ∈ ws, w.2.2.length ≤ 1000) : PC 93 [.snap (encL opRow ws)] (.tup [.snap (encL opRow (foldE ws)), zV 0]) := by
  refine pstartD Tryz.func93 Tryz.ntmps93 (by simp only [go_sem]) ?_
  obtain ⟨R, hR⟩ : ∃ R, foldE ws = R := ⟨_, rfl⟩
  rw [hR]
  unfold foldE at hR
  have hR' := Lat.mk hR
  clear hR
  have hgW := gW ws
  have c1 := fun w => placed_p w
  refine zgo2 ?_
  refine zfor1 ws.length 0 [] (fun k => [(9, true, zV k), (8, true, zV ws.length), (7, true, .snap (encL opRow ws)), (0, true, .snap (encL opRow ws))]) zholds (fun k m hk hm => ?_) (fun m hm => ?_)
  · have hgk := hgW k hk
    have hplk := hpl _ (getD_mem' zWr hk)
    have hdk := hd _ (getD_mem' zWr hk)
    clear hgW hpl hd
    have c2 := c1 _ (show (ws.getD k zWr).2.2.length ≤ 1000000 by omega)
    rw [hplk] at c2
    generalize ws.getD k zWr = w at *
    obtain ⟨v, t, d⟩ := w
    have hgk2 : (encL opRow ws)[k]? = some [zV v, zV t, .snap (encL encSec d)] := hgk
    have c3 : PC 131 [.agg [zV v, zV t, .snap (encL encSec d)]] (zV 0) := c2
    clear c1 c2 hgk
    refine zgo2 ?_
    refine ⟨m + 40, by omega, zholds⟩
  · clear c1
    have hpl' := Lat.mk hpl
    have hso' := Lat.mk hso
    clear hpl hso
    refine zgo2 ?_
    refine zin Tryz.func132 Tryz.ntmps132 ?_
    refine zgo2 ?_
    refine zfor (α := Unit) ws.length (fun k _ => [(12, true, zV k), (11, true, zV ws.length), (10, true, .snap (encL opRow ws)), (3, true, .omap m)]) (fun k _ => [(m, some (.map (encM (effG [] (ws.take k)))))]) (fun k m' _ => m + 1 ≤ m') ⟨m + 1, (), Nat.le_refl _, zholds⟩ (fun k m' _ hk hm' => ?_) (fun m' _ hm' => ?_)
    · have hgk := hgW k hk
      have hplk := hpl'.out _ (getD_mem' zWr hk)
      have hdk := hd _ (getD_mem' zWr hk)
      have hE := effG_succ hk
      clear hgW hd
      generalize ws.getD k zWr = w at *
      obtain ⟨v, t, d⟩ := w
      have hgk2 : (encL opRow ws)[k]? = some [zV v, zV t, .snap (encL encSec d)] := hgk
      obtain ⟨p1, p2, p3, p4⟩ := plc_ok hplk
      simp only [] at p1 p2 p3 p4 hdk
      have hE' := Lat.mk hE
      clear hgk hplk hE
      generalize effG [] (ws.take k) = M at *
      have h00 : List.take 0 d = [] := rfl
      refine zgo2 ?_
      refine zfor (α := Int) d.length (fun j _ => [(24, true, zV j), (23, true, zV d.length), (22, true, .snap (encL encSec d)), (12, true, zV k), (11, true, zV ws.length), (10, true, .snap (encL opRow ws)), (6, true, .ptr (m' + 1 + 1) 0 0), (3, true, .omap m)]) (fun j p => [(m, some (.map (encM (putSecs M v t (d.take j))))), (m' + 1 + 1, some (.cells 240 2 [[zV v, zV p]] true false))]) (fun j m2 p => p = t + j ∧ m' + 4 ≤ m2) ⟨m' + 4, t, ⟨by omega, Nat.le_refl _⟩, zholds⟩ (fun j m2 p hj hm2 => ?_) (fun m2 p hm2 => ?_)
      · obtain ⟨hp, hm2⟩ := hm2
        have hgj := gS d j hj
        have cb := behind_p v p (by omega) (by omega)
        have hS := putSecs_succ M v t hj
        rw [← hp] at hS
        have hS' := Lat.mk hS
        have hp' := Lat.mk hp
        clear hS hp
        generalize putSecs M v t (d.take j) = X at *
        have hkb := keysB_M X
        simp only [go_sem] at hkb
        have hkk : (IntKind.i64 == IntKind.i64) = true := rfl
        generalize d.getD j zSec = y at *
        refine zgo2 ?_
        refine ⟨m2 + 40, p + 1, ⟨by have := hp'.out; omega, by omega⟩, ?_⟩
        rw [hS'.out]
        exact zholds
      · obtain ⟨hp, hm2⟩ := hm2
        clear hp
        rw [List.take_length]
        rw [← hE'.out]
        generalize effG [] (ws.take (k + 1)) = M2 at *
        refine zgo2 ?_
        refine ⟨m2 + 40, (), by omega, zholds⟩
    · rw [List.take_length]
      have hML := effG_len ws [] 1000 hd
      simp only [List.length_nil, Nat.zero_add] at hML
      have heff : EfOK VPl (effG [] ws) := EfOK.eff EfOK.nil fun w hw => ⟨fun j hj => by
        obtain ⟨a1, a2, a3, a4⟩ := plc_ok (hpl'.out w hw)
        exact ⟨a1, by show 0 ≤ w.2.1 + (j : Int); omega, by show w.2.1 + (j : Int) ≤ 4096; omega⟩, hso'.out w hw⟩
      rw [show (effG [] ws) = effG [] ws from rfl]
      generalize hM : effG [] ws = M at *
      have hMl : M.length ≤ 1000000 := by omega
      have hMV : ∀ p ∈ M.map (·.1), VPl p := fun p hp => by
        obtain ⟨e, he, rfl⟩ := List.mem_map.1 hp
        exact (heff.ok e he).1
      have hMV' := Lat.mk hMV
      clear hM hMV heff
      refine zgo2 ?_
      refine zin Tryz.func133 Tryz.ntmps133 ?_
      refine zgo2 ?_
      refine w_loop (HeadR M m (m' + 1)) M.length ?_ ?_
      · refine ⟨_, _, ⟨[], m' + 2, m', by simp, List.nodup_nil, fun i h => by simp at h, by omega, by omega, by omega, by omega, by omega, rfl, rfl⟩, ?_⟩
        exact zholds
      · rintro n env H ⟨seen, N, q, rfl, hnd, hlt, hq1, hq2, hqN, hmN, hiN, rfl, rfl⟩
        have hmi : m ≠ m' + 1 := by omega
        have hnd' := Lat.mk hnd
        have hlt' := Lat.mk hlt
        clear hnd hlt
        refine zgo2 ?_
        refine w_next (id := m' + 1) (m := m) (n := M.length) (seen := seen) (es := encM M) rfl rfl ?hx ?hi ?hm ?hn (anyKey_M M) ?h0 ?h1
        case hx => (simp (maxSteps := 2000000) (disch := omega) only [go_sem, *])
        case hi => (simp (maxSteps := 2000000) (disch := omega) only [go_sem, *])
        case hm => (simp (maxSteps := 2000000) (disch := omega) only [go_sem, *])
        case hn => exact encM_len M
        case h1 =>
          intro i k a hi hns hei
          obtain ⟨v, s, x, hka, rfl, rfl⟩ := encM_inv hei
          have hkk : (IntKind.i64 == IntKind.i64) = true := rfl
          have hsl : (seen.map (keyAt M)).length = seen.length := by rw [List.length_map]
          have hsb : seen.length ≤ M.length := pigeon _ _ hnd'.out hlt'.out
          have hsn : Lat (encL plRow ((seen ++ [i]).map (keyAt M)) = encL plRow (seen.map (keyAt M)) ++ [[zV v, zV s]]) := ⟨by
            rw [List.map_append, List.map_cons, List.map_nil, hka]
            exact (encL_snoc (seen.map (keyAt M)) (v, s)).symm⟩
          clear hka
          have hns' := Lat.mk hns
          have hlt2 : ∀ j ∈ seen ++ [i], j < M.length := fun j hj => by
            rcases List.mem_append.1 hj with h | h
            · exact hlt'.out j h
            · simp at h; omega
          have hlt2' := Lat.mk hlt2
          have hsb2 : (seen ++ [i]).length ≤ M.length := pigeon _ _ (List.nodup_append.2 ⟨hnd'.out, by simp, fun a ha b hb e => by simp at hb; subst hb; subst e; exact hns ha⟩) hlt2
          rw [List.length_append, List.length_singleton] at hsb2
          clear hns hlt2
          refine zgo2 ?_
          refine ⟨M.length - (seen ++ [i]).length, by rw [List.length_append, List.length_singleton]; omega, _, _, ⟨seen ++ [i], N + 40, N + 1 + 1 + 1, rfl, List.nodup_append.2 ⟨hnd'.out, by simp, fun a ha b hb e => by simp at hb; subst hb; subst e; exact hns'.out ha⟩, hlt2'.out, by omega, by omega, by omega, by omega, by omega, rfl, rfl⟩, ?_⟩
          rw [hsn.out, List.length_append, List.length_singleton]
          exact zholds
        case h0 =>
          intro hall
          have hsl : (seen.map (keyAt M)).length = seen.length := by rw [List.length_map]
          have hsb : seen.length ≤ M.length := pigeon _ _ hnd'.out hlt'.out
          have hpm := srtP_perm (keys_perm hnd'.out hlt'.out hall)
          have hpm' := Lat.mk hpm
          clear hall hpm hnd' hlt'
          rw [← hsl]
          rw [← hsl] at hsb
          clear hsl
          generalize seen.map (keyAt M) = L at *
          have hsl := (srtP_spec L).1
          refine zgo2 ?_
          refine w_callA (args := [.own q 0 L.length, .fn (.func 161) [] []]) (n := 160) rfl rfl ?hc (sortPl_a _ q true L (by omega) ?ha) ?hrest
          case hc => (simp (maxSteps := 2000000) (disch := omega) only [go_sem, *] <;> rfl)
          case ha => (simp (maxSteps := 2000000) (disch := omega) only [go_sem, *] <;> rfl)
          case hrest =>
            rintro r H' ⟨rfl, rfl⟩
            rw [hpm'.out]
            rw [hpm'.out] at hsl
            have hKM : ∀ p ∈ srtP (M.map (·.1)), p ∈ M.map (·.1) := fun p hp => (srtP_spec _).2.1.mem_iff.1 hp
            generalize srtP (M.map (·.1)) = K at *
            rw [← hsl] at hsb ⊢
            clear hsl
            have hKL : K.length ≤ 1000000 := by omega
            have hK' := Lat.mk hKM
            obtain ⟨CM, hC⟩ : ∃ CM, canP M K = CM := ⟨_, rfl⟩
            have hC' := Lat.mk hC
            clear hsb hKM hC
            refine zgo2 ?_
            refine zfor (α := Pl × AV × List (Nat × Option Blk)) K.length (fun k x => [(28, true, zV k), (27, true, zV K.length), (26, true, .own q 0 K.length), (6, true, .ptr N 0 0), (5, true, x.2.1), (0, true, .omap m)])
              (fun k x => (m, some (.map (encM M))) :: (q, some (.cells 240 2 (encL plRow K) true true)) :: (N, some (.cells 240 2 [[zV x.1.1, zV x.1.2]] true false)) :: x.2.2)
              (fun k mm x => N + 2 ≤ mm ∧ ((k = 0 ∧ x = ((-1, 0), .c (.slice none 0 0), [])) ∨ ∃ j done w id dd, k = j + 1 ∧ N + 1 ≤ id ∧ N + 1 ≤ dd ∧ id ≠ dd ∧ id < mm ∧ dd < mm ∧ done.length ≤ j ∧ w.2.2.length ≤ j + 1 ∧ w.2.2 ≠ [] ∧ canG M (K.drop (j + 1)) done w = CM ∧
                x = ((w.1, w.2.1 + (w.2.2.length : Int)), .own id 0 (done.length + 1), [(id, some (.cells 98 3 (encL opRow done ++ [[zV w.1, zV w.2.1, .own dd 0 w.2.2.length]]) true true)), (dd, some (.cells 96 8 (encL encSec w.2.2) true true))])))
              ⟨N + 2, ((-1, 0), .c (.slice none 0 0), []), ⟨by omega, .inl ⟨rfl, rfl⟩⟩, zholds⟩ (fun k mm x hk hR => ?_) (fun mm x hR => ?_)
            · obtain ⟨hmm, hS⟩ := hR
              have hgk : (encL plRow K)[k]? = some (plRow (K.getD k zPl)) := gPl K k hk
              have hKm := hK'.out _ (getD_mem' zPl hk)
              have hV := hMV'.out _ hKm
              obtain ⟨x0, hx0, _⟩ := look_mem hKm
              have hvx : valP M (K.getD k zPl) = x0 := by unfold valP; rw [hx0]; rfl
              have hdr := drop_at zPl hk
              have hkk : (IntKind.i64 == IntKind.i64) = true := rfl
              have hkb := keysB_M M
              simp only [go_sem] at hkb
              rcases hS with ⟨rfl, rfl⟩ | ⟨j, done, w, id, dd, rfl, i1, i2, i3, i4, i5, i6, i7, i8, i9, rfl⟩
              · have hc0 : canP M K = canG M (K.drop 1) [] ((K.getD 0 zPl).1, (K.getD 0 zPl).2, [x0]) := by
                  rw [← hvx]
                  cases K with
                  | nil => simp at hk
                  | cons a r => rfl
                rw [hC'.out] at hc0
                have hc0' := Lat.mk hc0
                clear hdr hvx hc0 hKm
                generalize K.getD 0 zPl = p at *
                obtain ⟨v, s⟩ := p
                obtain ⟨v1, v2, v3⟩ := hV
                simp only [] at v1 v2 v3
                have cb := behind_p v s v2 (by omega)
                have he := eqPl v s (-1) 0
                rw [decide_eq_false (by simp; omega)] at he
                have hgk2 : (encL plRow K)[0]? = some [zV v, zV s] := hgk
                clear hgk
                refine zgo2 ?_
                refine ⟨mm + 40, ((v, s + 1), .own (mm + 1 + 1 + 1) 0 1, [(mm + 1 + 1 + 1, some (.cells 98 3 [[zV v, zV s, .own (mm + 1 + 1 + 1 + 1 + 9) 0 1]] true true)), (mm + 1 + 1 + 1 + 1 + 9, some (.cells 96 8 [encSec x0] true true))]), ⟨by omega, .inr ⟨0, [], (v, s, [x0]), mm + 1 + 1 + 1, mm + 1 + 1 + 1 + 1 + 9, rfl, by omega, by omega, by omega, by omega, by omega, by simp, by simp, by simp, hc0'.out.symm, rfl⟩⟩, zholds⟩
              · obtain ⟨wv, wt, wd⟩ := w
                simp only [] at i6 i7 i8 i9
                rw [hdr] at i9
                unfold canG at i9
                simp only [] at i9
                have hdr2 : j + 1 + 1 = j + 2 := rfl
                clear hdr
                have hne := isEmpty_f i8
                by_cases g : K.getD (j + 1) zPl = (wv, wt + (wd.length : Int))
                · rw [if_pos g, hvx] at i9
                  have i9' := Lat.mk i9
                  rw [g] at hgk hV hx0
                  clear i9 hvx hKm g
                  obtain ⟨v1, v2, v3⟩ := hV
                  simp only [] at v1 v2 v3
                  generalize hs : wt + (wd.length : Int) = s at *
                  have hs' := Lat.mk hs
                  have cb := behind_p wv s v2 (by omega)
                  have he := eqPl wv s wv s
                  rw [decide_eq_true rfl] at he
                  have hgk2 : (encL plRow K)[j + 1]? = some [zV wv, zV s] := hgk
                  clear hgk hs
                  have hDl : (encL opRow done).length = done.length := by rw [encL_len]
                  have h11 : done.length + 1 - 1 = done.length := by omega
                  have hget := fun r => last_get (encL opRow done) r done.length hDl
                  have hset := fun r r' => last_set (encL opRow done) r r' done.length hDl
                  generalize hDD : encL opRow done = D at *
                  have hD' := Lat.mk hDD
                  clear hDD
                  refine zgo2 ?_
                  refine ⟨mm + 40, ((wv, s + 1), .own id 0 (done.length + 1), [(id, some (.cells 98 3 (D ++ [[zV wv, zV wt, .own (mm + 1 + 1 + 9) 0 (wd.length + 1)]]) true true)), (mm + 1 + 1 + 9, some (.cells 96 8 (encL encSec (wd ++ [x0])) true true))]), ⟨by omega, .inr ⟨j + 1, done, (wv, wt, wd ++ [x0]), id, mm + 1 + 1 + 9, rfl, i1, by omega, by omega, by omega, by omega, by omega, by simp only [List.length_append, List.length_singleton]; omega, by simp, i9'.out, by
                    simp only [List.length_append, List.length_singleton]
                    rw [hD'.out, show s + 1 = wt + ((wd.length + 1 : Nat) : Int) by have := hs'.out; omega]⟩⟩, zholds⟩
                · rw [if_neg g, hvx] at i9
                  have i9' := Lat.mk i9
                  clear i9 hvx hKm
                  generalize K.getD (j + 1) zPl = p at *
                  obtain ⟨v, s⟩ := p
                  obtain ⟨v1, v2, v3⟩ := hV
                  simp only [] at v1 v2 v3
                  have cb := behind_p v s v2 (by omega)
                  have he := eqPl v s wv (wt + (wd.length : Int))
                  rw [decide_eq_false (fun h => g (by simp only [List.cons.injEq, and_true] at h; exact Prod.ext h.1 h.2))] at he
                  have hgk2 : (encL plRow K)[j + 1]? = some [zV v, zV s] := hgk
                  clear hgk g
                  have hsn : encL opRow done ++ [[zV wv, zV wt, .snap (encL encSec wd)]] = encL opRow (done ++ [(wv, wt, wd)]) := encL_snoc done (wv, wt, wd)
                  refine aw_fz dd id (encL opRow (done ++ [(wv, wt, wd)])) zeq zeq i3 (fzlast hsn (by rw [encL_len])) ?_
                  refine aw_less (env := [(28, true, zV ((j + 1 : Nat) : Int)), (27, true, zV K.length), (26, true, .own q 0 K.length), (6, true, .ptr N 0 0), (5, true, .own id 0 (done.length + 1)), (0, true, .omap m)]) (H := ⟨mm, tabG [(m, some (.map (encM M))), (q, some (.cells 240 2 (encL plRow K) true true)), (N, some (.cells 240 2 [[zV wv, zV (wt + (wd.length : Int))]] true false)), (id, some (.cells 98 3 (encL opRow (done ++ [(wv, wt, wd)])) true true))]⟩) zholds ?_
                  clear hsn
                  have hDl : (encL opRow (done ++ [(wv, wt, wd)])).length = done.length + 1 := by rw [encL_len, List.length_append, List.length_singleton]
                  have h11 : done.length + 1 + 1 - 1 = done.length + 1 := by omega
                  have hget := fun r => last_get (encL opRow (done ++ [(wv, wt, wd)])) r (done.length + 1) hDl
                  have hset := fun r r' => last_set (encL opRow (done ++ [(wv, wt, wd)])) r r' (done.length + 1) hDl
                  generalize hDD : encL opRow (done ++ [(wv, wt, wd)]) = D at *
                  have hD' := Lat.mk hDD
                  clear hDD
                  generalize wt + (wd.length : Int) = e at *
                  refine zgo2 ?_
                  refine ⟨mm + 40, ((v, s + 1), .own (mm + 1 + 1 + 1) 0 (done.length + 1 + 1), [(mm + 1 + 1 + 1, some (.cells 98 3 (D ++ [[zV v, zV s, .own (mm + 1 + 1 + 1 + 1 + 9) 0 1]]) true true)), (mm + 1 + 1 + 1 + 1 + 9, some (.cells 96 8 [encSec x0] true true))]), ⟨by omega, .inr ⟨j + 1, done ++ [(wv, wt, wd)], (v, s, [x0]), mm + 1 + 1 + 1, mm + 1 + 1 + 1 + 1 + 9, rfl, by omega, by omega, by omega, by omega, by omega, by rw [List.length_append, List.length_singleton]; omega, by simp, by simp, i9'.out, by
                    rw [hD'.out, List.length_append, List.length_singleton]
                    rfl⟩⟩, zholds⟩
            · obtain ⟨hmm, hS⟩ := hR
              rcases hS with ⟨hz, rfl⟩ | ⟨j, done, w, id, dd, hz, i1, i2, i3, i4, i5, i6, i7, i8, i9, rfl⟩
              · have hKn : K = [] := List.eq_nil_of_length_eq_zero hz
                have hR2 : R = [] := by rw [← hR'.out, hKn]; rfl
                rw [hR2]
                clear hR2 hKn
                refine zgo2 ?_
                exact zfin2
              · obtain ⟨wv, wt, wd⟩ := w
                simp only [] at i6 i7 i8 i9
                rw [show K.drop (j + 1) = [] from List.drop_eq_nil_of_le (by omega)] at i9
                have hR2 : R = done ++ [(wv, wt, wd)] := by rw [← hR'.out, hC'.out, ← i9]; rfl
                rw [hR2]
                have hsn : encL opRow done ++ [[zV wv, zV wt, .snap (encL encSec wd)]] = encL opRow (done ++ [(wv, wt, wd)]) := encL_snoc done (wv, wt, wd)
                refine aw_fz dd id (encL opRow (done ++ [(wv, wt, wd)])) zeq zeq i3 (fzlast hsn (by rw [encL_len])) ?_
                refine aw_less (env := [(28, true, zV (K.length : Int)), (27, true, zV K.length), (26, true, .own q 0 K.length), (5, true, .own id 0 (done.length + 1)), (0, true, .omap m)]) (H := ⟨mm, tabG [(id, some (.cells 98 3 (encL opRow (done ++ [(wv, wt, wd)])) true true))]⟩) zholds ?_
                have hl2 : done.length + 1 = (done ++ [(wv, wt, wd)]).length := by rw [List.length_append, List.length_singleton]
                rw [hl2]
                clear hsn hR2 i9 hz hl2
                generalize done ++ [(wv, wt, wd)] = X at *
                refine zgo2 ?_
                exact zfin2
end Go.Proofs.YtkghiceeegindaaGreatDoor
