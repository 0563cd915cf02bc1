/- Apply: contracts of its functions (Ab). No condition but those named. -/
import Derived.Test.YtkghiceeegindaaGreatDoorAa
import Derived.Test.YtkghiceeegindaaGreatDoorLe
import Derived.KernelRfl
import Derived.Laws.BitsLemmas
namespace Go.Proofs.YtkghiceeegindaaGreatDoor
open Go.Proofs Go.AL
set_option linter.unusedVariables false
set_option linter.unusedSimpArgs false
abbrev PC (n : FuncId) (args : List AV) (r : AV) : Prop := PCall Tryz.prog n args (· = r)
abbrev FC (n : FuncId) (args : List AV) (r : AV) : Prop := FCall Tryz.prog n args r
abbrev Sec := (Int × Int × Int × Int) × (Int × Int × Int × Int)
abbrev uV (x : Int) : AV := .c (.int .u8 x)
def encSec (s : Sec) : List AV := [uV s.1.1, uV s.1.2.1, uV s.1.2.2.1, uV s.1.2.2.2, uV s.2.1, uV s.2.2.1, uV s.2.2.2.1, uV s.2.2.2.2]
def zSec : Sec := ((0, 0, 0, 0), (0, 0, 0, 0))
def encCa (x : Int × Sec) : List AV := zV x.1 :: encSec x.2
theorem sec_noId (s : Sec) : ∀ x ∈ encSec s, NoId x := by
  intro x hx
  simp only [encSec, List.mem_cons, List.not_mem_nil, or_false] at hx
  rcases hx with rfl | rfl | rfl | rfl | rfl | rfl | rfl | rfl <;> exact .c _
@[go_sem] theorem sec_noIdE (s : Sec) : (∀ x, x ∈ encSec s → NoId x) = True := eq_true (sec_noId s)
@[go_sem] theorem sec_len (s : Sec) : (encSec s).length = 8 := rfl
@[go_sem] theorem sec_one (s : Sec) : (encSec s).all AV.one = true := rfl
@[go_sem] theorem sec_take (s : Sec) : (encSec s).take 8 = encSec s := rfl
@[go_sem] theorem sec_drop (s : Sec) : (encSec s).drop 8 = [] := rfl
@[go_sem] theorem sec_expo (G : Nat → Option Blk) (s : Sec) : (encSec s).map (expo1 G) = encSec s := rfl
instance : RowEnc encSec 8 := ⟨sec_len, sec_one, sec_noId⟩
instance : RowEnc encCa 9 := ⟨fun _ => rfl, fun _ => rfl, fun a x hx => by
  simp only [encCa, List.mem_cons] at hx
  rcases hx with rfl | hx
  · exact .c _
  · exact sec_noId _ x hx⟩
def byteRow (x : Int) : List AV := [uV x]
instance : RowEnc byteRow 1 := ⟨fun _ => rfl, fun _ => rfl, fun _ x hx => by simp [byteRow] at hx; subst hx; exact .c _⟩
@[go_sem] theorem zeroT_sec : zeroT Tryz.prog 96 = some (encSec zSec) := by kernel_rfl
@[go_sem] theorem zeroT_sec8 : zeroT Tryz.prog 95 = some (encSec zSec) := by kernel_rfl
@[go_sem] theorem zeroT_ca : zeroT Tryz.prog 193 = some (zV 0 :: encSec zSec) := by kernel_rfl
theorem ca_snocE (a : List (Int × Sec)) (x : Int) (s : Sec) : encL encCa a ++ [zV x :: encSec s] = encL encCa (a ++ [(x, s)]) := encL_snoc a (x, s)
theorem ca_oneE (x : Int) (s : Sec) : [zV x :: encSec s] = encL encCa [(x, s)] := rfl
theorem sec_snocE (a : List Sec) (s : Sec) : encL encSec a ++ [encSec s] = encL encSec (a ++ [s]) := encL_snoc a s
theorem sec_setE (a : List Sec) (i : Nat) (s : Sec) : (encL encSec a).set i (encSec s) = encL encSec (a.set i s) := encL_set a i s
theorem sec_replE (n : Nat) (s : Sec) : List.replicate n (encSec s) = encL encSec (List.replicate n s) := encL_repl n s
theorem by_snocE (a : List Int) (x : Int) : encL byteRow a ++ [[uV x]] = encL byteRow (a ++ [x]) := encL_snoc a x
theorem by_setE (l : List Int) (i : Nat) (x : Int) : (encL byteRow l).set i [uV x] = encL byteRow (l.set i x) := encL_set l i x
theorem by_repl (n : Nat) (x : Int) : List.replicate n [uV x] = encL byteRow (List.replicate n x) := encL_repl (f := byteRow) n x
attribute [go_sem] ca_snocE ca_oneE sec_snocE sec_setE sec_replE by_snocE by_setE by_repl byteRow encCa List.take_length List.length_map List.length_replicate List.take_replicate Nat.min_self Nat.le_refl
attribute [go_sem] dec_ltT dec_ltF dec_leT dec_leF beq_T beq_F bne_T bne_F
structure Rep where
  sizes : List Int
  super : Int
  data : Int
  epoch : Int
  applied : Int
  applying : Int
def encR (r : Rep) : List AV := [.snap (encL intRow r.sizes), zV r.super, zV r.data, zV r.epoch, zV r.applied, zV r.applying]
theorem rep_noId (r : Rep) : NoId (.agg (encR r)) := noId_agg.2 fun x hx => by
  simp only [encR, List.mem_cons, List.not_mem_nil, or_false] at hx
  rcases hx with rfl | rfl | rfl | rfl | rfl | rfl <;> first | exact .c _ | exact encL_noId _
end Go.Proofs.YtkghiceeegindaaGreatDoor
namespace Go.Proofs.YtkghiceeegindaaGreatDoor
open Go.Proofs Go.AL
set_option maxRecDepth 100000
set_option maxHeartbeats 1000000
set_option linter.unusedVariables false
set_option linter.unusedSimpArgs false
attribute [local irreducible] endA AW aops thenA blockA hold
theorem gI (l : List Int) (k : Nat) (h : k < l.length) : (encL intRow l)[k]? = some (intRow (l.getD k 0)) := encL_get 0 h
def timeB (n : Int) : Bool := decide (0 ≤ n) && decide (n ≤ 1073741824)
theorem time_p (n : Int) : PC 50 [zV n] (bV (timeB n)) := by
  refine pstart Tryz.func50 Tryz.ntmps50 (.c _) ?_
  refine zgo ?_
  exact zfin
def sumW (l : List Int) : Int := l.foldl (fun s x => IntKind.i64.wrap (s + x)) 0
theorem sumW_succ {l : List Int} {k : Nat} (h : k < l.length) : sumW (l.take (k + 1)) = IntKind.i64.wrap (sumW (l.take k) + l.getD k 0) := by
  unfold sumW
  rw [List.take_succ_eq_append_getElem h, List.foldl_append]
  simp [h]
theorem total_p (l : List Int) (hl : l.length ≤ 1000000) : PC 53 [.snap (encL intRow l)] (zV (sumW l)) := by
  refine pstart Tryz.func53 Tryz.ntmps53 (.c _) ?_
  refine zgo ?_
  have hg := gI l
  refine zfor1 l.length 0 [] (fun k => [(8, true, zV k), (7, true, zV l.length), (6, true, .snap (encL intRow l)), (3, true, zV (sumW (l.take k)))]) zholds (fun k m hk hm => ?_) (fun m hm => ?_)
  · have h1 := sumW_succ hk
    refine zgo ?_
    exact ⟨m, hm, zholds⟩
  · refine zgo ?_
    exact zfin
def badSz (n : Int) : Bool := decide (n < 1) || decide (4096 < n)
theorem badSz_p (n : Int) : PC 130 [zV n] (bV (badSz n)) := by
  refine pstart Tryz.func130 Tryz.ntmps130 (.c _) ?_
  refine zgo ?_
  exact zfin
theorem index_p (l : List Int) (hl : l.length ≤ 1000000) : PC 158 [.snap (encL intRow l), .fn (.func 130) [] []] (zV (match l.findIdx? badSz with | some i => (i : Int) | none => -1)) := by
  refine pstart Tryz.func158 Tryz.ntmps158 (.c _) ?_
  refine zgo ?_
  have hg := gI l
  have c1 := badSz_p
  refine zfor (α := Unit) l.length (fun k _ => [(8, true, zV k), (7, true, zV l.length), (0, true, .snap (encL intRow l)), (1, true, .fn (.func 130) [] [])]) (fun _ _ => []) (fun k m _ => ∀ i, i < k → badSz (l.getD i 0) = false) ⟨0, (), fun i hi => by omega, zholds⟩ (fun k m _ hk hR => ?_) (fun m _ hR => ?_)
  · refine zgo ?_
    refine zsplit (fun h => ?_) (fun h => ?_)
    · have hf : l.findIdx? badSz = some k := by
        rw [List.findIdx?_eq_some_iff_getElem]
        exact ⟨hk, by simpa [hk] using h, fun j hj => by have := hR j hj; simp [show j < l.length by omega] at this; simpa using this⟩
      refine zgo ?_
      exact zfin
    · refine zgo ?_
      refine ⟨m, (), fun i hi => ?_, zholds⟩
      by_cases hik : i = k
      · subst hik; exact h
      · exact hR i (by omega)
  · have hf : l.findIdx? badSz = none := by
      rw [List.findIdx?_eq_none_iff]
      intro x hx
      obtain ⟨i, hi⟩ := List.mem_iff_getElem?.1 hx
      obtain ⟨h1, h2⟩ := List.getElem?_eq_some_iff.1 hi
      have := hR i h1
      simp [h1, h2] at this
      exact this
    refine zgo ?_
    exact zfin
end Go.Proofs.YtkghiceeegindaaGreatDoor
namespace Go.Proofs.YtkghiceeegindaaGreatDoor
open Go.Proofs Go.AL
set_option maxRecDepth 100000
set_option maxHeartbeats 1000000
set_option linter.unusedVariables false
set_option linter.unusedSimpArgs false
attribute [local irreducible] endA AW aops thenA blockA hold
def idxZ (o : Option Nat) : Int := match o with | some i => (i : Int) | none => -1
theorem idxZ_nonneg (l : List Int) : decide (0 ≤ idxZ (l.findIdx? badSz)) = l.any badSz := by
  cases h : l.findIdx? badSz with
  | none =>
    rw [List.findIdx?_eq_none_iff] at h
    simp only [idxZ]
    symm
    simpa using h
  | some i =>
    rw [List.findIdx?_eq_some_iff_getElem] at h
    obtain ⟨h1, h2, _⟩ := h
    simp only [idxZ]
    have : l.any badSz = true := List.any_eq_true.2 ⟨_, List.getElem_mem h1, h2⟩
    rw [this]
    simp
theorem index2_p (l : List Int) (hl : l.length ≤ 1000000) : PC 158 [.snap (encL intRow l), .fn (.func 130) [] []] (zV (idxZ (l.findIdx? badSz))) := index_p l hl
theorem contains_p (l : List Int) (hl : l.length ≤ 1000000) : PC 129 [.snap (encL intRow l), .fn (.func 130) [] []] (bV (l.any badSz)) := by
  refine pstart Tryz.func129 Tryz.ntmps129 (.c _) ?_
  have c1 := index2_p l hl
  have h1 := idxZ_nonneg l
  refine zgo ?_
  exact zfin
def sizesE (l : List Int) : Int := if l.length < 1 ∨ 8 < l.length then 6 else if l.any badSz then 2 else 0
theorem sizes_p (l : List Int) (hl : l.length ≤ 1000000) : PC 90 [.snap (encL intRow l)] (zV (sizesE l)) := by
  refine pstart Tryz.func90 Tryz.ntmps90 (.c _) ?_
  have c1 := contains_p l hl
  unfold sizesE
  by_cases h1 : l.length < 1
  · refine zgo ?_
    exact zfin
  · by_cases h2 : 8 < l.length
    · refine zgo ?_
      exact zfin
    · cases h3 : l.any badSz
      · refine zgo ?_
        exact zfin
      · refine zgo ?_
        exact zfin
end Go.Proofs.YtkghiceeegindaaGreatDoor
namespace Go.Proofs.YtkghiceeegindaaGreatDoor
open Go.Proofs Go.AL
set_option maxRecDepth 100000
set_option maxHeartbeats 1000000
set_option linter.unusedVariables false
set_option linter.unusedSimpArgs false
attribute [local irreducible] endA AW aops thenA blockA hold
def zeros (n : Int) : List Sec := List.replicate n.toNat zSec
def volRow (v : List Sec) : List AV := [.snap (encL encSec v)]
instance : RowEnc volRow 1 := ⟨fun _ => rfl, fun _ => rfl, fun _ x hx => by simp [volRow] at hx; subst hx; exact encL_noId _⟩
theorem vol_snocE (a : List (List Sec)) (v : List Sec) : encL volRow a ++ [[.snap (encL encSec v)]] = encL volRow (a ++ [v]) := encL_snoc a v
attribute [go_sem] vol_snocE volRow
theorem zeros_p (n : Int) (h0 : 0 ≤ n) (h1 : n ≤ 1000000) : PC 92 [zV n] (.snap (encL encSec (zeros n))) := by
  refine pstart Tryz.func92 Tryz.ntmps92 (encL_noId _) ?_
  refine zgo ?_
  unfold zeros
  exact zfin
theorem map_snoc {α β : Type} (f : α → β) (d : α) {l : List α} {k : Nat} (h : k < l.length) : (l.map f).take (k + 1) = (l.map f).take k ++ [f (l.getD k d)] := by
  rw [List.take_succ_eq_append_getElem (by simpa using h)]
  simp [h]
theorem mapped_p (l : List Int) (hl : l.length ≤ 1000) (h : ∀ x ∈ l, 0 ≤ x ∧ x ≤ 1000000) : PC 91 [.snap (encL intRow l), .fn (.func 92) [] []] (.snap (encL volRow (l.map zeros))) := by
  refine pstart Tryz.func91 Tryz.ntmps91 (encL_noId _) ?_
  have hg := gI l
  have c1 := zeros_p
  refine zgo ?_
  refine zfor (α := Nat) l.length (fun k id => [(13, true, zV k), (12, true, zV l.length), (11, true, .snap (encL intRow l)), (1, true, .fn (.func 92) [] []), (5, true, .own id 0 k)]) (fun k id => [(id, some (.cells 22 1 (encL volRow ((l.map zeros).take k)) true true))]) (fun k m id => id < m) ⟨1, 0, by omega, zholds⟩ (fun k m id hk hR => ?_) (fun m id hR => ?_)
  · have h2 := h _ (getD_mem' 0 hk)
    have h3 := h2.1
    have h4 := h2.2
    have h5 := map_snoc zeros 0 hk
    have h6 : ((l.map zeros).take k).length = k := by simp; omega
    refine zgo ?_
    exact ⟨m + 2, m + 1, by omega, zholds⟩
  · have h6 : (l.map zeros).take l.length = l.map zeros := List.take_of_length_le (by simp)
    refine zgo ?_
    exact zfin
end Go.Proofs.YtkghiceeegindaaGreatDoor
namespace Go.Proofs.YtkghiceeegindaaGreatDoor
open Go.Proofs Go.AL
set_option maxRecDepth 100000
set_option maxHeartbeats 1000000
set_option linter.unusedVariables false
set_option linter.unusedSimpArgs false
attribute [local irreducible] endA AW aops thenA blockA hold
theorem sizes_ok {l : List Int} (h : sizesE l = 0) : 1 ≤ l.length ∧ l.length ≤ 8 ∧ ∀ x ∈ l, 1 ≤ x ∧ x ≤ 4096 := by
  unfold sizesE at h
  split at h
  · cases h
  · rename_i h1
    split at h
    · cases h
    · rename_i h2
      refine ⟨by omega, by omega, fun x hx => ?_⟩
      have h3 : l.any badSz = false := by simpa using h2
      rw [List.any_eq_false] at h3
      have := h3 x hx
      simp [badSz] at this
      omega
def sum (l : List Int) : Int := l.foldl (· + ·) 0
theorem sum_cons (x : Int) (l : List Int) : sum (x :: l) = x + sum l := by
  have key : ∀ (l : List Int) (a : Int), l.foldl (· + ·) a = a + l.foldl (· + ·) 0 := by
    intro l
    induction l with
    | nil => intro a; simp
    | cons y r ih => intro a; rw [List.foldl_cons, List.foldl_cons, ih, ih (0 + y)]; omega
  show (x :: l).foldl (· + ·) 0 = x + l.foldl (· + ·) 0
  rw [List.foldl_cons, key]; omega
theorem sumW_eq {l : List Int} (h : l.length ≤ 1000) (hx : ∀ x ∈ l, 0 ≤ x ∧ x ≤ 1000000) : sumW l = sum l ∧ 0 ≤ sum l ∧ sum l ≤ l.length * 1000000 := by
  have key : ∀ (l : List Int) (a : Int), 0 ≤ a → a + l.length * 1000000 ≤ 6000000000000000000 → (∀ x ∈ l, 0 ≤ x ∧ x ≤ 1000000) → l.foldl (fun s x => IntKind.i64.wrap (s + x)) a = a + sum l ∧ 0 ≤ sum l ∧ sum l ≤ l.length * 1000000 := by
    intro l
    induction l with
    | nil => intro a _ _ _; simp [sum]
    | cons y r ih =>
      intro a h1 h2 h4
      have hy := h4 y (by simp)
      simp only [List.length_cons] at h2 ⊢
      rw [List.foldl_cons, sum_cons, IntWalk.i64_in (a + y) (by omega)]
      obtain ⟨h5, h6, h7⟩ := ih (a + y) (by omega) (by omega) fun x hx => h4 x (by simp [hx])
      rw [h5]
      omega
  have := key l 0 (by omega) (by omega) hx
  unfold sumW
  omega
theorem sum_ok {l : List Int} (h : sizesE l = 0) : sumW l = sum l ∧ 1 ≤ sum l ∧ sum l ≤ 32768 := by
  obtain ⟨h1, h2, h3⟩ := sizes_ok h
  have h4 := sumW_eq (l := l) (by omega) fun x hx => by have := h3 x hx; omega
  refine ⟨h4.1, ?_, ?_⟩
  · cases l with
    | nil => simp at h1
    | cons x r =>
      have h5 := h3 x (by simp)
      have h6 := sumW_eq (l := r) (by simp at h2; omega) fun x hx => by have := h3 x (by simp [hx]); omega
      rw [sum_cons]; omega
  · have key : ∀ l : List Int, (∀ x ∈ l, 1 ≤ x ∧ x ≤ 4096) → sum l ≤ l.length * 4096 := by
      intro l
      induction l with
      | nil => intro _; simp [sum]
      | cons y r ih =>
        intro h
        have h5 := h y (by simp)
        have h6 := ih fun x hx => h x (by simp [hx])
        rw [sum_cons, List.length_cons]; omega
    have := key l h3
    omega
def newIm (l : List Int) : List (List Sec) := if sizesE l = 0 then l.map zeros else []
theorem new_p (l : List Int) (hl : l.length ≤ 1000000) : PC 36 [.snap (encL intRow l)] (.tup [.snap (encL volRow (newIm l)), zV (sizesE l)]) := by
  refine pstart Tryz.func36 Tryz.ntmps36 (by simp only [go_sem]) ?_
  have c1 := sizes_p l hl
  unfold newIm
  by_cases h : sizesE l = 0
  · obtain ⟨h1, h2, h3⟩ := sizes_ok h
    have c2 := mapped_p l (by omega) fun x hx => by have := h3 x hx; omega
    refine zgo ?_
    exact zfin
  · refine zgo ?_
    simp only [encL_nil]
    exact zfin
theorem cloneI_o (l : List Int) (h : l ≠ []) (hl : l.length ≤ 1000000) : OCall Tryz.prog 98 [.snap (encL intRow l)] 3 1 (encL intRow l) := by
  refine ostart Tryz.func98 Tryz.ntmps98 (by simp only [go_sem]) (encL_ids l) ?_
  have h1 := isEmpty_f h
  refine zgo ?_
  exact ⟨1, by simp only [go_sem], by simp only [go_sem]⟩
theorem cloneI_e (a : Option Addr) (cap : Nat) : PC 98 [.c (.slice a 0 cap)] (.snap (encL intRow [])) := by
  refine pstart Tryz.func98 Tryz.ntmps98 (encL_noId _) ?_
  cases a with
  | none =>
    refine zgo ?_
    simp only [encL_nil]
    exact zfin
  | some a =>
    refine zgo ?_
    simp only [encL_nil]
    exact zfin
theorem cloneI_p (l : List Int) (hl : l.length ≤ 1000000) : PC 98 [.snap (encL intRow l)] (.snap (encL intRow l)) := by
  by_cases h : l = []
  · subst h
    exact PCall.nil (pre := []) (post := []) cloneI_e
  · refine pstart Tryz.func98 Tryz.ntmps98 (encL_noId l) ?_
    have h1 := isEmpty_f h
    refine zgo ?_
    exact zfin
def layE (l : List Int) (s d : Int) : Int :=
  if sizesE l = 0 then (if s < 0 ∨ 4080 < s ∨ d < 0 ∨ 4096 - sum l < d then 2 else if s < d + sum l ∧ d < s + 16 then 1 else 0) else sizesE l
theorem end_p (r : Rep) (hl : r.sizes.length ≤ 1000000) : FC 61 [.sptr [encR r] 0 0] (zV (IntKind.i64.wrap (r.data + sumW r.sizes))) := by
  refine FCall.ofK ?_ rfl
  refine pstart Tryz.func61 Tryz.ntmps61 (.c _) ?_
  have c1 := total_p r.sizes hl
  unfold encR
  refine zgo ?_
  exact zfin
end Go.Proofs.YtkghiceeegindaaGreatDoor
namespace Go.Proofs.YtkghiceeegindaaGreatDoor
open Go.Proofs Go.AL
set_option maxRecDepth 100000
set_option maxHeartbeats 1000000
set_option linter.unusedVariables false
set_option linter.unusedSimpArgs false
attribute [local irreducible] endA AW aops thenA blockA hold
theorem layout_p (r : Rep) (hl : r.sizes.length ≤ 1000000) : FC 48 [.sptr [encR r] 0 0] (zV (layE r.sizes r.super r.data)) := by
  refine FCall.ofK ?_ rfl
  refine pstart Tryz.func48 Tryz.ntmps48 (.c _) ?_
  have c1 := new_p r.sizes hl
  have c2 := total_p r.sizes hl
  have c3 := (end_p r hl).toP
  unfold encR at c3 ⊢
  unfold layE
  by_cases h : sizesE r.sizes = 0
  · obtain ⟨h1, h2, h3⟩ := sum_ok h
    have h5 : IntKind.i64.wrap (4096 - sum r.sizes) = 4096 - sum r.sizes := IntWalk.i64_in _ (by omega)
    by_cases g1 : r.super < 0
    · refine zgo ?_
      exact zfin
    by_cases g2 : 4080 < r.super
    · refine zgo ?_
      exact zfin
    by_cases g3 : r.data < 0
    · refine zgo ?_
      exact zfin
    by_cases g4 : 4096 - sum r.sizes < r.data
    · refine zgo ?_
      exact zfin
    have h6 : IntKind.i64.wrap (r.data + sum r.sizes) = r.data + sum r.sizes := IntWalk.i64_in _ (by omega)
    have h7 : IntKind.i64.wrap (r.super + 16) = r.super + 16 := IntWalk.i64_in _ (by omega)
    by_cases g5 : r.super < r.data + sum r.sizes
    · by_cases g6 : r.data < r.super + 16
      · refine zgo ?_
        exact zfin
      · refine zgo ?_
        exact zfin
    · refine zgo ?_
      exact zfin
  · refine zgo ?_
    exact zfin
end Go.Proofs.YtkghiceeegindaaGreatDoor
namespace Go.Proofs.YtkghiceeegindaaGreatDoor
open Go.Proofs Go.AL
set_option maxRecDepth 100000
set_option maxHeartbeats 1000000
set_option linter.unusedVariables false
set_option linter.unusedSimpArgs false
attribute [local irreducible] endA AW aops thenA blockA hold
def repE (r : Rep) : Int :=
  if layE r.sizes r.super r.data = 0 then (if timeB r.epoch = true ∧ timeB r.applied = true ∧ timeB r.applying = true then (if r.applying ≠ 0 ∧ r.applying ≤ r.applied then 12 else 0) else 2) else layE r.sizes r.super r.data
theorem check_p (r : Rep) (hl : r.sizes.length ≤ 1000000) : FC 68 [.sptr [encR r] 0 0] (zV (repE r)) := by
  refine FCall.ofK ?_ rfl
  refine pstart Tryz.func68 Tryz.ntmps68 (.c _) ?_
  have c1 := (layout_p r hl).toP
  have c2 := time_p
  unfold encR at c1 ⊢
  unfold repE
  by_cases h : layE r.sizes r.super r.data = 0
  · cases g1 : timeB r.epoch
    · refine zgo ?_
      exact zfin
    cases g2 : timeB r.applied
    · refine zgo ?_
      exact zfin
    cases g3 : timeB r.applying
    · refine zgo ?_
      exact zfin
    by_cases g4 : r.applying = 0
    · rw [g4] at c1 g3
      refine zgo ?_
      exact zfin
    by_cases g5 : r.applying ≤ r.applied
    · refine zgo ?_
      exact zfin
    · refine zgo ?_
      exact zfin
  · refine zgo ?_
    exact zfin
end Go.Proofs.YtkghiceeegindaaGreatDoor
namespace Go.Proofs.YtkghiceeegindaaGreatDoor
open Go.Proofs Go.AL
set_option maxRecDepth 100000
set_option maxHeartbeats 1000000
set_option linter.unusedVariables false
set_option linter.unusedSimpArgs false
attribute [local irreducible] endA AW aops thenA blockA hold
theorem gB (l : List Int) (k : Nat) (h : k < l.length) : (encL byteRow l)[k]? = some (byteRow (l.getD k 0)) := encL_get 0 h
theorem byteK (l : List Int) : ∀ row ∈ encL byteRow l, ∀ x ∈ row, ∃ v, x = .c v := by
  intro row hr x hx
  simp only [encL, List.mem_map] at hr
  obtain ⟨a, _, rfl⟩ := hr
  simp [byteRow] at hx
  exact ⟨_, hx⟩
theorem expoB (G : Nat → Option Blk) (k : Nat) (l : List Int) : (encL byteRow l).map (fun row => row.map (expoD G k)) = encL byteRow l := encL_expoD (fun a x hx => by simp [byteRow] at hx; exact ⟨_, hx⟩) G k l
theorem idsB (G : Nat → Option Blk) (k : Nat) (l : List Int) : (encL byteRow l).flatMap (fun row => row.flatMap (idsD G k)) = [] := encL_idsD (fun a x hx => by simp [byteRow] at hx; exact ⟨_, hx⟩) G k l
attribute [go_sem] expoB idsB
def vg (n : Nat) : List Int := if h : n < 128 then [(n : Int)] else ((n % 128 + 128 : Nat) : Int) :: vg (n / 128)
termination_by n
decreasing_by omega
theorem vg_lt {n : Nat} (h : n < 128) : vg n = [(n : Int)] := by rw [vg]; simp [h]
theorem vg_ge {n : Nat} (h : ¬ n < 128) : vg n = ((n % 128 + 128 : Nat) : Int) :: vg (n / 128) := by rw [vg]; simp [h]
theorem vg_len : ∀ (f n : Nat), n < 128 ^ (f + 1) → (vg n).length ≤ f + 1
  | 0, n, h => by rw [vg_lt (by simpa using h)]; simp
  | f + 1, n, h => by
    by_cases hn : n < 128
    · rw [vg_lt hn]; simp
    · rw [vg_ge hn, List.length_cons]
      have := vg_len f (n / 128) (by rw [Nat.pow_succ] at h; omega)
      omega
def clampN (n : Int) : Nat := if n < 0 ∨ 9007199254740991 < n then 0 else n.toNat
def vint (n : Int) : List Int := vg (clampN n)
theorem or128 {x : Int} (h0 : 0 ≤ x) (h1 : x < 128) : bits .or .u8 x 128 = x + 128 := by
  have key : ∀ i : Fin 128, bits .or .u8 ((i.val : Nat) : Int) 128 = ((i.val : Nat) : Int) + 128 := by decide
  have := key ⟨x.toNat, by omega⟩
  simp only at this
  rwa [show ((x.toNat : Nat) : Int) = x by omega] at this
theorem cloneB_o (l : List Int) (h : l ≠ []) (hl : l.length ≤ 1000000) : OCall Tryz.prog 106 [.snap (encL byteRow l)] 5 1 (encL byteRow l) := by
  refine ostart Tryz.func106 Tryz.ntmps106 (by simp only [go_sem]) (encL_ids l) ?_
  have h1 := isEmpty_f h
  refine zgo ?_
  exact ⟨1, by simp only [go_sem], by simp only [go_sem]⟩
structure Out where
  n : Nat
  out : List Int
  o : AV
  t : List (Nat × Option Blk)
def OutOK (b : List Int) (n0 : Nat) (m : Nat) (a : Out) : Prop :=
  a.n ≤ 9007199254740991 ∧ a.out ++ vg a.n = b ++ vg n0 ∧ ((a.o = .c (.slice none 0 0) ∧ a.t = [] ∧ a.out = []) ∨ ∃ id, id < m ∧ a.o = .own id 0 a.out.length ∧ a.t = [(id, some (.cells 5 1 (encL byteRow a.out) true true))])
def ownB (r : AV) (H : Heap) (l : List Int) : Prop := ∃ i, r = .own i 0 l.length ∧ H.get i = some (.cells 5 1 (encL byteRow l) true true)
theorem putInt_a (b : List Int) (n : Int) (hb : b.length ≤ 100000) (o : AV) (t : List (Nat × Option Blk)) (N : Nat) (h : OutOK b (clampN n) N ⟨clampN n, b, o, t⟩) : ACall Tryz.prog 139 [o, zV n] ⟨N, tabG t⟩ fun r H => ownB r H (b ++ vint n) := by
  refine astart Tryz.func139 Tryz.ntmps139 ?_
  have hcl : clampN n ≤ 9007199254740991 := by unfold clampN; split <;> omega
  refine zgo ?_
  refine zmerge [(0, true, o), (1, true, zV (clampN n))] N t ?_ ?_
  · by_cases h1 : n < 0
    · have h2 : clampN n = 0 := by unfold clampN; rw [if_pos (.inl h1)]
      refine zgo ?_
      exact ⟨rfl, zholds⟩
    by_cases h3 : 9007199254740991 < n
    · have h2 : clampN n = 0 := by unfold clampN; rw [if_pos (.inr h3)]
      refine zgo ?_
      exact ⟨rfl, zholds⟩
    · have h2 : (clampN n : Int) = n := by unfold clampN; rw [if_neg (by omega)]; omega
      refine zgo ?_
      exact ⟨rfl, zholds⟩
  refine zgo ?_
  refine zwhile (α := Out) (fun a => [(0, true, a.o), (1, true, zV (a.n : Int))]) (fun a => a.t) (OutOK b (clampN n)) (fun a => a.n) ⟨clampN n, b, o, t⟩ ⟨N, h, zholds⟩ ?_
  rintro m ⟨k, out, o, t⟩ ⟨hk, hinv, ho⟩
  simp only [] at hk hinv ho ⊢
  have hl : out.length ≤ 100008 := by
    have h1 := congrArg List.length hinv
    have h2 := vg_len 7 (clampN n) (by omega)
    simp only [List.length_append] at h1
    omega
  by_cases h4 : k < 128
  · have h5 : ¬ (128 : Int) ≤ k := by omega
    rw [vg_lt h4] at hinv
    have h6 : b ++ vint n = out ++ [(k : Int)] := hinv.symm
    clear hinv h
    rw [h6]
    rcases ho with ⟨rfl, rfl, rfl⟩ | ⟨id, hid, rfl, rfl⟩
    · refine zgo ?_
      exact ⟨m + 1, rfl, zeq⟩
    · refine zgo ?_
      exact ⟨m + 1, zeq, zeq⟩
  · have h5 : (128 : Int) ≤ k := by omega
    rw [vg_ge h4] at hinv
    have h6 := or128 (x := (k : Int) % 128) (by omega) (by omega)
    have h7 : ((k : Int)).tdiv 128 = ((k / 128 : Nat) : Int) := rfl
    have h8 : (k : Int) % 128 + 128 = ((k % 128 + 128 : Nat) : Int) := by omega
    have hs : OutOK b (clampN n) (m + 2) ⟨k / 128, out ++ [((k % 128 + 128 : Nat) : Int)], .own (m + 1) 0 (out ++ [((k % 128 + 128 : Nat) : Int)]).length, [(m + 1, some (.cells 5 1 (encL byteRow (out ++ [((k % 128 + 128 : Nat) : Int)])) true true))]⟩ :=
      ⟨by simp only []; omega, by simp only []; rw [List.append_assoc]; exact hinv, .inr ⟨m + 1, by omega, rfl, rfl⟩⟩
    clear hinv h
    rcases ho with ⟨rfl, rfl, rfl⟩ | ⟨id, hid, rfl, rfl⟩
    · refine zgo ?_
      exact ⟨m + 2, _, by simp only []; omega, hs, zholds⟩
    · refine zgo ?_
      exact ⟨m + 2, _, by simp only []; omega, hs, zholds⟩
end Go.Proofs.YtkghiceeegindaaGreatDoor
namespace Go.Proofs.YtkghiceeegindaaGreatDoor
open Go.Proofs Go.AL
set_option maxRecDepth 100000
set_option maxHeartbeats 1000000
set_option linter.unusedVariables false
set_option linter.unusedSimpArgs false
attribute [local irreducible] endA AW aops thenA blockA hold
@[go_sem] theorem take_snoc {α : Type} (l : List α) (x : α) : (l ++ [x]).take (l.length + 1) = l ++ [x] := List.take_of_length_le (by simp)
@[go_sem] theorem take_two {α : Type} (a b : List α) : (a ++ b).take (a.length + b.length) = a ++ b := List.take_of_length_le (by simp)
theorem clampN_le (n : Int) : clampN n ≤ 9007199254740991 := by unfold clampN; split <;> omega
theorem putInt_e (n : Int) (a : Option Addr) (cap : Nat) : FOCall Tryz.prog 100 [.c (.slice a 0 cap), zV n] (.own 0 0 (encL byteRow ([] ++ vint n)).length) 5 1 (encL byteRow ([] ++ vint n)) true := by
  refine fostart Tryz.func100 Tryz.ntmps100 (byteK _) ?_
  refine zgo ?_
  refine zin Tryz.func106 Tryz.ntmps106 ?_
  cases a with
  | none =>
    refine zgo ?_
    refine zact (putInt_a [] n (by simp) _ [] 0 ⟨clampN_le n, rfl, .inl ⟨rfl, rfl, rfl⟩⟩) ?_
    rintro r H ⟨i, rfl, hH⟩
    refine zgo ?_
    exact ⟨i, zeq, hH⟩
  | some a =>
    refine zgo ?_
    refine zact (putInt_a [] n (by simp) (.own 1 0 0) [(1, some (.cells 5 1 (encL byteRow []) true true))] 2 ⟨clampN_le n, rfl, .inr ⟨1, by omega, rfl, rfl⟩⟩) ?_
    rintro r H ⟨i, rfl, hH⟩
    refine zgo ?_
    exact ⟨i, zeq, hH⟩
theorem putInt_fo (b : List Int) (n : Int) (hb : b.length ≤ 100000) : FOCall Tryz.prog 100 [.snap (encL byteRow b), zV n] (.own 0 0 (encL byteRow (b ++ vint n)).length) 5 1 (encL byteRow (b ++ vint n)) true := by
  by_cases hne : b = []
  · subst hne
    exact FOCall.nil (pre := []) (post := [zV n]) (putInt_e n)
  · refine fostart Tryz.func100 Tryz.ntmps100 (byteK _) ?_
    have c1 := cloneB_o b hne (by omega)
    refine zgo ?_
    refine zact (putInt_a b n hb _ _ 1 ⟨clampN_le n, rfl, .inr ⟨0, by omega, rfl, rfl⟩⟩) ?_
    rintro r H ⟨i, rfl, hH⟩
    refine zgo ?_
    exact ⟨i, zeq, hH⟩
def repV (r : Rep) : List Int := vint r.epoch ++ vint r.applied ++ vint r.applying
theorem vint_len (n : Int) : (vint n).length ≤ 8 := vg_len 7 _ (by have := clampN_le n; omega)
theorem value_fo (r : Rep) : FOCall Tryz.prog 52 [.sptr [encR r] 0 0] (.own 0 0 (encL byteRow (repV r)).length) 5 1 (encL byteRow (repV r)) true := by
  refine fostart Tryz.func52 Tryz.ntmps52 (byteK _) ?_
  unfold encR repV
  have h1 := vint_len r.epoch
  have h2 := vint_len r.applied
  have h3 := vint_len r.applying
  have c0 := putInt_e r.epoch
  have c1 := putInt_fo (vint r.epoch) r.applied (by omega)
  have c2 := putInt_fo (vint r.epoch ++ vint r.applied) r.applying (by simp; omega)
  simp only [List.nil_append] at c0
  refine zgo ?_
  refine w_rounds 4 ?_
  refine w_round ?_
  refine zgo ?_
  exact ⟨20, zeq, zeq⟩
end Go.Proofs.YtkghiceeegindaaGreatDoor
namespace Go.Proofs.YtkghiceeegindaaGreatDoor
open Go.Proofs Go.AL
set_option maxRecDepth 100000
set_option maxHeartbeats 1000000
set_option linter.unusedVariables false
set_option linter.unusedSimpArgs false
attribute [local irreducible] endA AW aops thenA blockA hold
def dat (p : List Int) : List Int := (p.length : Int) :: (p ++ List.replicate (31 - p.length) 0)
theorem dat_len {p : List Int} (hp : p.length ≤ 31) : (dat p).length = 32 := by unfold dat; simp; omega
theorem split32 {l : List Int} (h : l.length = 32) : ∃ d0 d1 d2 d3 d4 d5 d6 d7 d8 d9 d10 d11 d12 d13 d14 d15 d16 d17 d18 d19 d20 d21 d22 d23 d24 d25 d26 d27 d28 d29 d30 d31, l = [d0, d1, d2, d3, d4, d5, d6, d7, d8, d9, d10, d11, d12, d13, d14, d15, d16, d17, d18, d19, d20, d21, d22, d23, d24, d25, d26, d27, d28, d29, d30, d31] := by
  match l, h with | [d0, d1, d2, d3, d4, d5, d6, d7, d8, d9, d10, d11, d12, d13, d14, d15, d16, d17, d18, d19, d20, d21, d22, d23, d24, d25, d26, d27, d28, d29, d30, d31], _ => exact ⟨d0, d1, d2, d3, d4, d5, d6, d7, d8, d9, d10, d11, d12, d13, d14, d15, d16, d17, d18, d19, d20, d21, d22, d23, d24, d25, d26, d27, d28, d29, d30, d31, rfl⟩
theorem dat_rows {p : List Int} (hp : p.length ≤ 31) : [uV (p.length : Int)] :: (encL byteRow (p.take (p.length.min 31)) ++ (encL byteRow ((p.length : Int) :: List.replicate 31 0)).drop (1 + p.length.min 31)) = encL byteRow (dat p) := by
  have h1 : p.length.min 31 = p.length := Nat.min_eq_left hp
  rw [h1, List.take_length, Nat.add_comm, encL_drop, List.drop_succ_cons, List.drop_replicate]
  simp only [dat, encL, List.map_cons, List.map_append, byteRow]
def gb (n : Int) (i : Nat) : Int := IntKind.u8.wrap (n.fdiv (2 ^ min (8 * i) 64))
def secOf (n : Int) (D : List Int) (k : Nat) : Sec := ((gb n 0, gb n 1, gb n 2, gb n 3), (D.getD (4 * k) 0, D.getD (4 * k + 1) 0, D.getD (4 * k + 2) 0, D.getD (4 * k + 3) 0))
def putS (n : Int) (p : List Int) : List Sec := [secOf n (dat p) 0, secOf n (dat p) 1, secOf n (dat p) 2, secOf n (dat p) 3, secOf n (dat p) 4, secOf n (dat p) 5, secOf n (dat p) 6, secOf n (dat p) 7]
theorem put_p (n : Int) (p : List Int) (hp : p.length ≤ 31) : PC 99 [zV n, .snap (encL byteRow p)] (.agg [zV n, .snap (encL byteRow p), .snap (encL encSec (putS n p))]) := by
  refine pstart Tryz.func99 Tryz.ntmps99 (by simp only [go_sem]) ?_
  have hd := dat_rows hp
  have hz : encSec zSec = [uV 0, uV 0, uV 0, uV 0, uV 0, uV 0, uV 0, uV 0] := by rfl
  refine zgo ?_
  refine zin Tryz.func138 Tryz.ntmps138 ?_
  refine zgo ?_
  obtain ⟨d0, d1, d2, d3, d4, d5, d6, d7, d8, d9, d10, d11, d12, d13, d14, d15, d16, d17, d18, d19, d20, d21, d22, d23, d24, d25, d26, d27, d28, d29, d30, d31, hD⟩ := split32 (dat_len hp)
  rw [hD] at hd
  refine aw_less (env := [(25, true, .fn (.func 167) [] [.ptr 7 0 0, .ptr 8 0 0]), (6, true, .ptr 5 0 0), (4, true, .ptr 1 0 0), (2, true, .ptr 0 0 0)]) (H := ⟨9, tabG [(0, some (.cells 3 1 [[zV n]] true false)), (1, some (.cells 162 3 [[.c (.int .i64 0), .c (.slice none 0 0), .c (.slice none 0 0)]] true false)), (2, some (.cells 5 1 [[uV d0], [uV d1], [uV d2], [uV d3], [uV d4], [uV d5], [uV d6], [uV d7], [uV d8], [uV d9], [uV d10], [uV d11], [uV d12], [uV d13], [uV d14], [uV d15], [uV d16], [uV d17], [uV d18], [uV d19], [uV d20], [uV d21], [uV d22], [uV d23], [uV d24], [uV d25], [uV d26], [uV d27], [uV d28], [uV d29], [uV d30], [uV d31]] true true)), (5, some (.cells 162 3 [[zV n, .snap (encL byteRow p), .c (.slice none 0 0)]] true false)), (7, some (.cells 107 1 [[.own 2 0 32]] true false)), (8, some (.cells 3 1 [[.c (.int .i64 4)]] true false))]⟩) ?_ ?_
  · refine holds_cons (by rfl) (holds_cons (by rfl) (holds_cons (by rfl) (holds_cons (by rfl) (holds_nil (Nat.le_refl 9) (sub_cons (by rfl) (sub_cons (by rfl) (sub_cons ?_ (sub_cons (by rfl) (sub_cons (by rfl) (sub_cons (by rfl) sub_nil)))))))))) 
    simp only [tabG_at, lookT]
    exact congrArg (fun r => some (Blk.cells 5 1 r true true)) hd
  have hP : encL encSec (putS n p) = [[.c (.int .u8 (IntKind.u8.wrap (n.fdiv (2 ^ min 0 64)))), .c (.int .u8 (IntKind.u8.wrap (n.fdiv (2 ^ min 8 64)))), .c (.int .u8 (IntKind.u8.wrap (n.fdiv (2 ^ min 16 64)))), .c (.int .u8 (IntKind.u8.wrap (n.fdiv (2 ^ min 24 64)))), uV d0, uV d1, uV d2, uV d3], [.c (.int .u8 (IntKind.u8.wrap (n.fdiv (2 ^ min 0 64)))), .c (.int .u8 (IntKind.u8.wrap (n.fdiv (2 ^ min 8 64)))), .c (.int .u8 (IntKind.u8.wrap (n.fdiv (2 ^ min 16 64)))), .c (.int .u8 (IntKind.u8.wrap (n.fdiv (2 ^ min 24 64)))), uV d4, uV d5, uV d6, uV d7], [.c (.int .u8 (IntKind.u8.wrap (n.fdiv (2 ^ min 0 64)))), .c (.int .u8 (IntKind.u8.wrap (n.fdiv (2 ^ min 8 64)))), .c (.int .u8 (IntKind.u8.wrap (n.fdiv (2 ^ min 16 64)))), .c (.int .u8 (IntKind.u8.wrap (n.fdiv (2 ^ min 24 64)))), uV d8, uV d9, uV d10, uV d11], [.c (.int .u8 (IntKind.u8.wrap (n.fdiv (2 ^ min 0 64)))), .c (.int .u8 (IntKind.u8.wrap (n.fdiv (2 ^ min 8 64)))), .c (.int .u8 (IntKind.u8.wrap (n.fdiv (2 ^ min 16 64)))), .c (.int .u8 (IntKind.u8.wrap (n.fdiv (2 ^ min 24 64)))), uV d12, uV d13, uV d14, uV d15], [.c (.int .u8 (IntKind.u8.wrap (n.fdiv (2 ^ min 0 64)))), .c (.int .u8 (IntKind.u8.wrap (n.fdiv (2 ^ min 8 64)))), .c (.int .u8 (IntKind.u8.wrap (n.fdiv (2 ^ min 16 64)))), .c (.int .u8 (IntKind.u8.wrap (n.fdiv (2 ^ min 24 64)))), uV d16, uV d17, uV d18, uV d19], [.c (.int .u8 (IntKind.u8.wrap (n.fdiv (2 ^ min 0 64)))), .c (.int .u8 (IntKind.u8.wrap (n.fdiv (2 ^ min 8 64)))), .c (.int .u8 (IntKind.u8.wrap (n.fdiv (2 ^ min 16 64)))), .c (.int .u8 (IntKind.u8.wrap (n.fdiv (2 ^ min 24 64)))), uV d20, uV d21, uV d22, uV d23], [.c (.int .u8 (IntKind.u8.wrap (n.fdiv (2 ^ min 0 64)))), .c (.int .u8 (IntKind.u8.wrap (n.fdiv (2 ^ min 8 64)))), .c (.int .u8 (IntKind.u8.wrap (n.fdiv (2 ^ min 16 64)))), .c (.int .u8 (IntKind.u8.wrap (n.fdiv (2 ^ min 24 64)))), uV d24, uV d25, uV d26, uV d27], [.c (.int .u8 (IntKind.u8.wrap (n.fdiv (2 ^ min 0 64)))), .c (.int .u8 (IntKind.u8.wrap (n.fdiv (2 ^ min 8 64)))), .c (.int .u8 (IntKind.u8.wrap (n.fdiv (2 ^ min 16 64)))), .c (.int .u8 (IntKind.u8.wrap (n.fdiv (2 ^ min 24 64)))), uV d28, uV d29, uV d30, uV d31]] := by
    unfold putS secOf gb
    rw [hD]
    rfl
  clear hd hD
  refine zrange Tryz.func167 Tryz.ntmps167 (fun R A B hR hA hB => ?_)
  refine zgo ?_
  refine w_rounds 9 ?_
  refine w_round ?_
  refine zgo ?_
  refine w_rounds 5 ?_
  refine w_round ?_
  refine zgo ?_
  refine w_rounds 5 ?_
  refine w_round ?_
  refine zgo ?_
  refine w_rounds 5 ?_
  refine w_round ?_
  refine zgo ?_
  refine w_rounds 5 ?_
  refine w_round ?_
  refine zgo ?_
  refine w_rounds 5 ?_
  refine w_round ?_
  refine zgo ?_
  refine w_rounds 5 ?_
  refine w_round ?_
  refine zgo ?_
  refine w_rounds 5 ?_
  refine w_round ?_
  refine zgo ?_
  refine w_rounds 5 ?_
  refine w_round ?_
  refine zgo ?_
  exact zfin
end Go.Proofs.YtkghiceeegindaaGreatDoor
namespace Go.Proofs.YtkghiceeegindaaGreatDoor
open Go.Proofs Go.AL
set_option maxRecDepth 100000
set_option maxHeartbeats 1000000
set_option linter.unusedVariables false
set_option linter.unusedSimpArgs false
attribute [local irreducible] endA AW aops thenA blockA hold
def ByteOK (x : Int) : Prop := 0 ≤ x ∧ x < 256
def GenOK (s : Sec) : Prop := ByteOK s.1.1 ∧ ByteOK s.1.2.1 ∧ ByteOK s.1.2.2.1 ∧ ByteOK s.1.2.2.2
def genS (s : Sec) : Int := s.1.1 + 256 * s.1.2.1 + 65536 * s.1.2.2.1 + 16777216 * s.1.2.2.2
theorem bits64 {i : Nat} {x y : Int} (h0 : 0 ≤ x) (hx : x % 2 ^ i = 0) (h1 : x < 4294967296) (h2 : 0 ≤ y) (h3 : y < 2 ^ i) (h4 : y < 4294967296) : bits .or .i64 x y = x + y :=
  bits_join .i64 32 (by decide) (fun n a b => IntWalk.i64_in _ (by have : (2 : Int) ^ 32 = 4294967296 := by decide
                                                                   omega)) i x y h0 hx (by have : (2 : Int) ^ 32 = 4294967296 := by decide
                                                                                           omega) h2 h3 (by have : (2 : Int) ^ 32 = 4294967296 := by decide
                                                                                                            omega)
theorem generation_p (s : Sec) (h : GenOK s) : PC 155 [.agg (encSec s)] (zV (genS s)) := by
  refine pstart Tryz.func155 Tryz.ntmps155 (.c _) ?_
  obtain ⟨⟨a, b, c, d⟩, x1, x2, x3, x4⟩ := s
  have hs : encSec ((a, b, c, d), x1, x2, x3, x4) = [uV a, uV b, uV c, uV d, uV x1, uV x2, uV x3, uV x4] := rfl
  obtain ⟨⟨a0, a1⟩, ⟨b0, b1⟩, ⟨c0, c1⟩, ⟨d0, d1⟩⟩ := h
  simp only [] at a0 a1 b0 b1 c0 c1 d0 d1
  have p8 : (2 : Int) ^ 8 = 256 := by decide
  have pm : (2 : Int) ^ min 8 64 = 256 := by decide
  have e1 : bits .or .i64 (0 * 2 ^ min 8 64) d = d := by
    rw [bits64 (i := 8) (by omega) (by omega) (by omega) d0 (by omega) (by omega)]; omega
  have e2 : IntKind.i64.wrap (d * 2 ^ min 8 64) = d * 256 := by rw [pm]; exact IntWalk.i64_in _ (by omega)
  have e3 : bits .or .i64 (d * 256) c = d * 256 + c := bits64 (i := 8) (by omega) (by omega) (by omega) c0 (by omega) (by omega)
  have e4 : IntKind.i64.wrap ((d * 256 + c) * 2 ^ min 8 64) = (d * 256 + c) * 256 := by rw [pm]; exact IntWalk.i64_in _ (by omega)
  have e5 : bits .or .i64 ((d * 256 + c) * 256) b = (d * 256 + c) * 256 + b := bits64 (i := 8) (by omega) (by omega) (by omega) b0 (by omega) (by omega)
  have e6 : IntKind.i64.wrap (((d * 256 + c) * 256 + b) * 2 ^ min 8 64) = ((d * 256 + c) * 256 + b) * 256 := by rw [pm]; exact IntWalk.i64_in _ (by omega)
  have e7 : bits .or .i64 (((d * 256 + c) * 256 + b) * 256) a = genS ((a, b, c, d), x1, x2, x3, x4) := by
    rw [bits64 (i := 8) (by omega) (by omega) (by omega) a0 (by omega) (by omega)]
    simp only [genS]; omega
  clear p8 pm
  refine zgo ?_
  refine w_rounds 5 ?_
  refine w_round ?_
  refine zgo ?_
  exact zfin
end Go.Proofs.YtkghiceeegindaaGreatDoor
namespace Go.Proofs.YtkghiceeegindaaGreatDoor
open Go.Proofs Go.AL
set_option maxRecDepth 100000
set_option maxHeartbeats 1000000
set_option linter.unusedVariables false
set_option linter.unusedSimpArgs false
attribute [local irreducible] endA AW aops thenA blockA hold
def cp (p : List Int) (k : Nat) : List Int := (p.length : Int) :: (p.take k ++ List.replicate (31 - k) 0)
def outT : Nat → Nat → List (List AV) → List (Nat × Option Blk)
  | 0, _, _ => []
  | k + 1, id, l => [(id, some (.cells 96 8 (l.take (k + 1)) true true))]
end Go.Proofs.YtkghiceeegindaaGreatDoor
namespace Go.Proofs.YtkghiceeegindaaGreatDoor
open Go.Proofs Go.AL
set_option maxRecDepth 100000
set_option maxHeartbeats 1000000
set_option linter.unusedVariables false
set_option linter.unusedSimpArgs false
attribute [local irreducible] endA AW aops thenA blockA hold
theorem gS (l : List Sec) (k : Nat) (h : k < l.length) : (encL encSec l)[k]? = some (encSec (l.getD k zSec)) := encL_get zSec h
def d4 (s : Sec) : List Int := [s.2.1, s.2.2.1, s.2.2.2.1, s.2.2.2.2]
def dataS (l : List Sec) : List Int := l.flatMap d4
def SecOK (s : Sec) : Prop := GenOK s ∧ ∀ x ∈ d4 s, ByteOK x
@[go_sem] theorem sec_tail (s : Sec) : List.map (fun x => [x]) (List.take 4 (List.drop 4 (encSec s))) = encL byteRow (d4 s) := rfl
@[go_sem] theorem d4_len (s : Sec) : (d4 s).length = 4 := rfl
@[go_sem] theorem d4_ne (s : Sec) : (d4 s).isEmpty = false := rfl
theorem dataS_succ {l : List Sec} {k : Nat} (h : k < l.length) : encL byteRow (dataS (l.take k)) ++ encL byteRow (d4 (l.getD k zSec)) = encL byteRow (dataS (l.take (k + 1))) := by
  rw [List.take_succ_eq_append_getElem h]
  simp only [dataS, List.flatMap_append, List.flatMap_cons, List.flatMap_nil, List.append_nil, encL, List.map_append, List.getD_eq_getElem?_getD, List.getElem?_eq_getElem h, Option.getD_some]
theorem dataS_len : ∀ (l : List Sec), (dataS l).length = 4 * l.length
  | [] => rfl
  | s :: l => by
    have := dataS_len l
    simp only [dataS, List.flatMap_cons, List.length_append, List.length_cons] at this ⊢
    rw [this]; simp [d4]; omega
def oV : Nat → Nat → AV
  | 0, _ => .c (.slice none 0 0)
  | k + 1, id => .own id 0 (4 * (k + 1))
def oT : Nat → Nat → List Int → List (Nat × Option Blk)
  | 0, _, _ => []
  | k + 1, id, D => [(id, some (.cells 5 1 (encL byteRow D) true true))]
def sameG (l : List Sec) : Bool := l.all fun s => genS s == genS (l.getD 0 zSec)
def parseS (l : List Sec) : List Int × Int :=
  if sameG l = true then
    if 31 < (dataS l).getD 0 0 then ([], 0)
    else if ((dataS l).drop (((dataS l).getD 0 0).toNat + 1)).all (fun x => x == 0) = true then (((dataS l).drop 1).take ((dataS l).getD 0 0).toNat, genS (l.getD 0 zSec)) else ([], 0)
  else ([], 0)
end Go.Proofs.YtkghiceeegindaaGreatDoor
namespace Go.Proofs.YtkghiceeegindaaGreatDoor
open Go.Proofs Go.AL
set_option maxRecDepth 100000
set_option maxHeartbeats 1000000
set_option linter.unusedVariables false
set_option linter.unusedSimpArgs false
attribute [local irreducible] endA AW aops thenA blockA hold
def trimR (c : Int) (l : List Int) : List Int := (l.reverse.dropWhile fun x => x == c).reverse
theorem trimR_eq {c : Int} {b : List Int} : trimR c (b ++ [c]) = trimR c b := by simp [trimR, List.dropWhile_cons]
theorem trimR_ne {c x : Int} {b : List Int} (h : ¬ x = c) : trimR c (b ++ [x]) = b ++ [x] := by simp [trimR, List.dropWhile_cons, h]
theorem trimB_p (l : List Int) (c : Int) (hl : l.length ≤ 100000) : PC 175 [.snap (encL byteRow l), uV c] (.snap (encL byteRow (trimR c l))) := by
  refine pstart Tryz.func175 Tryz.ntmps175 (encL_noId _) ?_
  refine zgo ?_
  refine zwhile (α := List Int) (fun a => [(0, true, .snap (encL byteRow a)), (1, true, uV c)]) (fun _ => []) (fun m a => a.length ≤ 100000 ∧ trimR c a = trimR c l) List.length l ⟨0, ⟨hl, rfl⟩, zholds⟩ (fun m a hR => ?_)
  obtain ⟨hR1, hR2⟩ := hR
  rcases List.eq_nil_or_concat a with rfl | ⟨b, x, rfl⟩
  · have h5 : trimR c l = [] := by rw [← hR2]; rfl
    rw [h5]
    clear hR2 h5
    refine zgo ?_
    exact zfin
  · simp only [List.concat_eq_append] at hR1 hR2 ⊢
    have h1 : (b ++ [x]).length = b.length + 1 := by simp
    have h2 : (encL byteRow (b ++ [x]))[b.length]? = some (byteRow x) := by
      rw [encL_get 0 (by simp)]; simp
    have h3 : (encL byteRow (b ++ [x])).take b.length = encL byteRow b := by rw [encL_take]; simp
    have h4 : (b ++ [x]).isEmpty = false := by cases b <;> rfl
    have e1 : ((b.length + 1 : Nat) : Int) - 1 = (b.length : Int) := by omega
    generalize hA : b ++ [x] = A at *
    by_cases g : x = c
    · subst g
      have h5 : trimR x b = trimR x l := by rw [← hR2, ← hA, trimR_eq]
      clear hR2
      refine zgo ?_
      exact ⟨m, b, by omega, ⟨by omega, h5⟩, zholds⟩
    · have h5 : trimR c l = A := by rw [← hR2, ← hA, trimR_ne g]
      rw [h5]
      clear hR2 h5
      refine zgo ?_
      exact zfin
theorem str1 : ((⟨#[0]⟩ : ByteArray).toList == (⟨#[]⟩ : ByteArray).toList) = false := by
  simp [ByteArray.toList, ByteArray.toList.loop, ByteArray.size, ByteArray.get!]
theorem str2 : (⟨#[0]⟩ : ByteArray).size = 1 := rfl
theorem str3 : (⟨#[0]⟩ : ByteArray)[0]? = some (0 : UInt8) := by rfl
theorem trim_p (l : List Int) (hl : l.length ≤ 100000) : PC 168 [.snap (encL byteRow l), .c (.string ⟨#[0]⟩)] (.snap (encL byteRow (trimR 0 l))) := by
  refine pstart Tryz.func168 Tryz.ntmps168 (encL_noId _) ?_
  have c1 := trimB_p l 0 hl
  by_cases h : l = []
  · subst h
    have h5 : trimR 0 [] = [] := rfl
    refine zgo ?_
    exact zfin
  · have h1 := isEmpty_f h
    have s1 := str1
    have s2 := str2
    have s3 := str3
    have s4 : ((UInt8.toNat 0 : Nat) : Int) = 0 := rfl
    have h2 : ¬ l.length = 0 := by rw [List.length_eq_zero_iff]; exact h
    refine zgo ?_
    exact zfin
end Go.Proofs.YtkghiceeegindaaGreatDoor
