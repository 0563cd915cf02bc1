/- Apply: contracts of its functions (Ac). No condition but those named. -/
import Derived.Test.YtkghiceeegindaaGreatDoorAb
namespace Go.Proofs.YtkghiceeegindaaGreatDoor
open Go.Proofs Go.AL
set_option maxRecDepth 100000
set_option maxHeartbeats 1000000
set_option linter.unusedVariables false
set_option linter.unusedSimpArgs false
attribute [local irreducible] endA AW aops thenA blockA hold
theorem trim_all {l : List Int} : (trimR 0 l = []) ↔ (l.all fun x => x == 0) = true := by
  unfold trimR
  rw [List.reverse_eq_nil_iff]
  have h : ∀ m : List Int, m.dropWhile (fun x => x == 0) = [] ↔ ∀ x ∈ m, x = 0 := by
    intro m
    induction m with
    | nil => simp
    | cons a m ih =>
      by_cases ha : a = 0
      · simp [List.dropWhile_cons, ha, ih]
      · simp [List.dropWhile_cons, ha]
  rw [h]
  simp
def copyV (g : Int) (p : List Int) (l : List Sec) : AV := .agg [zV g, .snap (encL byteRow p), .snap (encL encSec l)]
theorem get_p (l : List Sec) (hl : l.length = 8) (h : ∀ s ∈ l, SecOK s) : PC 140 [.snap (encL encSec l)] (copyV (parseS l).2 (parseS l).1 l) := by
  unfold copyV
  refine pstart Tryz.func140 Tryz.ntmps140 (by simp only [go_sem]) ?_
  have hg := gS l
  have c1 := generation_p (l.getD 0 zSec) (h _ (getD_mem' zSec (by omega))).1
  refine zgo ?_
  refine w_rounds 2 ?_
  refine w_round ?_
  refine zgo ?_
  refine zfor (α := Nat) 8 (fun k id => [(12, true, zV k), (11, true, zV (8 : Nat)), (10, true, .snap (encL encSec l)), (4, true, oV k id), (3, true, .ptr 1 0 0), (2, true, .ptr 0 0 0), (0, true, .snap (encL encSec l))]) (fun k id => (0, some (.cells 162 3 [[.c (.int .i64 0), .c (.slice none 0 0), .c (.slice none 0 0)]] true false)) :: (1, some (.cells 162 3 [[.c (.int .i64 0), .c (.slice none 0 0), .snap (encL encSec l)]] true false)) :: oT k id (dataS (l.take k))) (fun k m id => (3 ≤ m ∧ (k = 0 ∨ (1 < id ∧ id < m))) ∧ ∀ i, i < k → genS (l.getD i zSec) = genS (l.getD 0 zSec)) ⟨3, 0, ⟨⟨by omega, .inl rfl⟩, fun i hi => by omega⟩, ?_⟩ (fun k m id hk hm => ?_) (fun m id hm => ?_)
  · simp only [oV, oT]
    exact zholds
  · have c2 := generation_p (l.getD k zSec) (h _ (getD_mem' zSec (by omega))).1
    obtain ⟨⟨hm0, hm1⟩, hm2⟩ := hm
    have h5 := dataS_succ (l := l) (k := k) (by omega)
    by_cases g : genS (l.getD k zSec) = genS (l.getD 0 zSec)
    · have h6 : ∀ i, i < k + 1 → genS (l.getD i zSec) = genS (l.getD 0 zSec) := fun i hi => by
        by_cases hik : i = k
        · subst hik; exact g
        · exact hm2 i (by omega)
      clear hm2
      cases k with
      | zero =>
        simp only [oV, oT, List.take_zero] at h5 ⊢
        have h9 : encL byteRow (d4 (l.getD 0 zSec)) = encL byteRow (dataS (List.take (0 + 1) l)) := h5
        have h8 : (dataS (List.take 1 l)).length = 4 := by rw [dataS_len, List.length_take]; omega
        have h10 : (dataS (List.take 1 l)).isEmpty = false := by
          cases hx : dataS (List.take 1 l) with
          | nil => rw [hx] at h8; simp at h8
          | cons a b => rfl
        clear h5
        refine zgo ?_
        refine ⟨m + 10, m + 9, ⟨⟨by omega, by omega⟩, h6⟩, ?_⟩
        simp only [oV, oT]
        exact zholds
      | succ k =>
        simp only [oV, oT] at h5 ⊢
        have hm3 : 1 < id ∧ id < m := by omega
        obtain ⟨hm4, hm5⟩ := hm3
        have h8 : (dataS (List.take (k + 1) l)).length = 4 * (k + 1) := by rw [dataS_len, List.length_take]; omega
        refine zgo ?_
        refine ⟨m + 10, m + 9, ⟨⟨by omega, by omega⟩, h6⟩, ?_⟩
        simp only [oV, oT]
        exact zholds
    · have h7 : sameG l = false := by
        unfold sameG
        rw [List.all_eq_false]
        exact ⟨_, getD_mem' zSec (by omega : k < l.length), by simpa using g⟩
      have h11 : parseS l = ([], 0) := by unfold parseS; rw [h7]; rfl
      rw [h11]
      clear hm2
      cases k with
      | zero => exact absurd rfl g
      | succ k =>
        simp only [oV, oT]
        have hm3 : 1 < id ∧ id < m := by omega
        obtain ⟨hm4, hm5⟩ := hm3
        refine zgo ?_
        exact zfin
  · simp only [oV, oT]
    rw [List.take_of_length_le (by omega : l.length ≤ 8)]
    obtain ⟨⟨hm0, hm1⟩, hm2⟩ := hm
    have hm3 : 1 < id := by omega
    have hm4 : id < m := by omega
    have h6 : sameG l = true := by
      unfold sameG
      rw [List.all_eq_true]
      intro x hx
      obtain ⟨i, hi, rfl⟩ := List.mem_iff_getElem.1 hx
      have := hm2 i (by omega)
      rw [List.getD_eq_getElem?_getD, List.getElem?_eq_getElem hi] at this
      simpa using this
    have h7 : (dataS l).length = 32 := by rw [dataS_len, hl]
    have h8 : ∀ x ∈ dataS l, ByteOK x := fun x hx => by
      obtain ⟨s, hs, hx⟩ := List.mem_flatMap.1 hx
      exact (h s hs).2 x hx
    unfold parseS
    generalize hD : dataS l = D at *
    clear hm2
    have h9 := h8 _ (getD_mem' 0 (by omega : 0 < D.length))
    obtain ⟨n, hn⟩ := Int.eq_ofNat_of_zero_le h9.1
    have h10 : n < 256 := by have := h9.2; omega
    have hgD := gB D
    have hw : IntKind.i64.wrap (n : Int) = n := IntWalk.i64_in _ (by omega)
    clear h9 h8 h hD hm1
    by_cases g1 : 31 < n
    · have g2 : (31 : Int) < (n : Int) := by omega
      refine zgo ?_
      exact zfin
    · have g2 : ¬ (31 : Int) < (n : Int) := by omega
      have c3 := trim_p (D.drop (n + 1)) (by rw [List.length_drop]; omega)
      have h12 : (encL byteRow (D.drop (n + 1))).length = 32 - (n + 1) := by rw [encL_len, List.length_drop]; omega
      have h13 : List.take (32 - (n + 1)) (D.drop (n + 1)) = D.drop (n + 1) := List.take_of_length_le (by rw [List.length_drop]; omega)
      have h14 : List.take (32 - (n + 1)) (encL byteRow (D.drop (n + 1))) = encL byteRow (D.drop (n + 1)) := List.take_of_length_le (by omega)
      by_cases g3 : trimR 0 (D.drop (n + 1)) = []
      · have g4 := trim_all.1 g3
        refine zgo ?_
        have e1 : n + 1 - 1 = n := by omega
        exact zfin
      · have g4 : ((D.drop (n + 1)).all fun x => x == 0) = false := by
          cases hb : ((D.drop (n + 1)).all fun x => x == 0) with
          | false => rfl
          | true => exact absurd (trim_all.2 hb) g3
        have g5 : 0 < (trimR 0 (D.drop (n + 1))).length := List.length_pos_iff.2 g3
        refine zgo ?_
        exact zfin
end Go.Proofs.YtkghiceeegindaaGreatDoor
namespace Go.Proofs.YtkghiceeegindaaGreatDoor
open Go.Proofs Go.AL
set_option maxRecDepth 100000
set_option maxHeartbeats 1000000
set_option linter.unusedVariables false
set_option linter.unusedSimpArgs false
attribute [local irreducible] endA AW aops thenA blockA hold
def opRow (o : Int × Int × List Sec) : List AV := [zV o.1, zV o.2.1, .snap (encL encSec o.2.2)]
@[go_sem] theorem sec_expoD (G : Nat → Option Blk) (k : Nat) (s : Sec) : (encSec s).map (expoD G k) = encSec s := by
  cases k <;> simp [encSec, expoD]
theorem op_noId (o : Int × Int × List Sec) : ∀ x ∈ opRow o, NoId x := by
  intro x hx
  simp only [opRow, List.mem_cons, List.not_mem_nil, or_false] at hx
  rcases hx with rfl | rfl | rfl
  · exact .c _
  · exact .c _
  · exact encL_noId _
instance : RowEnc opRow 3 := ⟨fun _ => rfl, fun _ => rfl, op_noId⟩
def zs16 : List Sec := List.replicate 16 zSec
def sbFmt (a : Int) (p : List Int) : List (Int × Int × List Sec) × Int :=
  if a < 0 ∨ 4080 < a then ([], 2)
  else if 31 < p.length then ([], 5)
  else ([(0, a, zs16), (1, 0, []), (0, a, putS 1 p), (1, 0, [])], 0)
theorem sbFormat_p (a : Int) (p : List Int) (hp : p.length ≤ 100000) : PC 51 [zV a, .snap (encL byteRow p)] (.tup [.snap (encL opRow (sbFmt a p).1), zV (sbFmt a p).2]) := by
  refine pstartD Tryz.func51 Tryz.ntmps51 (by simp only [go_sem]) ?_
  unfold sbFmt
  by_cases g1 : a < 0
  · refine zgo ?_
    exact zfin
  by_cases g2 : 4080 < a
  · refine zgo ?_
    exact zfin
  have g3 : ¬ (a < 0 ∨ 4080 < a) := by omega
  rw [if_neg g3]
  clear g3
  by_cases g4 : 31 < p.length
  · have g5 : (31 : Int) < p.length := by omega
    refine zgo ?_
    exact zfin
  have g5 : ¬ (31 : Int) < p.length := by omega
  have c1 := put_p 1 p (by omega)
  rw [if_neg g4]
  unfold zs16
  refine zgo ?_
  exact zfin
end Go.Proofs.YtkghiceeegindaaGreatDoor
namespace Go.Proofs.YtkghiceeegindaaGreatDoor
open Go.Proofs Go.AL
set_option maxRecDepth 100000
set_option maxHeartbeats 1000000
set_option linter.unusedVariables false
set_option linter.unusedSimpArgs false
attribute [local irreducible] endA AW aops thenA blockA hold
theorem wkr_refl (xs : List (List AV)) : Wkr xs xs := ⟨rfl, fun k a b h1 h2 => by rw [h1] at h2; injection h2 with h2; subst h2; exact wks_refl a⟩
theorem zfin2 {A : Prop} (w : A := by (simp (maxSteps := 2000000) (disch := omega) only [go_sem, noId_c, noId_agg, noId_tup, noId_snap, false_implies, implies_true, *]; (repeat (first | exact .refl _ | exact .nil | exact wks_nil | refine wks_cons ?_ ?_ | refine wk_tup ?_ | refine wk_agg ?_ | refine wk_snap ?_ | exact wkr_nil | exact wkr_refl _ | refine wkr_cons ?_ ?_)))) : A := w
@[go_sem] theorem op_expoD (G : Nat → Option Blk) (k : Nat) (F : List (Int × Int × List Sec)) : (encL opRow F).map (fun row => row.map (expoD G k)) = encL opRow F := by
  unfold encL
  rw [List.map_map]
  refine List.map_congr_left fun o _ => ?_
  cases k <;> simp [opRow, expoD]
@[go_sem] theorem secs_expoD (G : Nat → Option Blk) (k : Nat) (F : List Sec) : (encL encSec F).map (fun row => row.map (expoD G k)) = encL encSec F := by
  unfold encL
  rw [List.map_map]
  exact List.map_congr_left fun o _ => sec_expoD G k o
def rep0 : Rep := ⟨[], 0, 0, 0, 0, 0⟩
def fmtE (l : List Int) (s d n : Int) : Rep × List (Int × Int × List Sec) × Int :=
  if layE l s d = 0 then
    if timeB n = true then
      if (sbFmt s (repV ⟨l, s, d, n, 0, 0⟩)).2 = 0 then (⟨l, s, d, n, 0, 0⟩, [(0, d, zeros (sum l)), (1, 0, [])] ++ (sbFmt s (repV ⟨l, s, d, n, 0, 0⟩)).1, 0)
      else (rep0, [], (sbFmt s (repV ⟨l, s, d, n, 0, 0⟩)).2)
    else (rep0, [], 2)
  else (rep0, [], layE l s d)
theorem failed_p (e : Int) : PC 49 [zV e] (.tup [.agg (encR rep0), .snap (encL opRow []), zV e]) := by
  refine pstart Tryz.func49 Tryz.ntmps49 (by simp only [go_sem, encR, rep0]) ?_
  unfold encR rep0
  refine zgo ?_
  exact zfin
theorem sbFmt_len (a : Int) (p : List Int) : (sbFmt a p).1.length ≤ 4 := by
  unfold sbFmt
  split
  · simp
  · split
    · simp
    · simp
theorem repV_len (r : Rep) : (repV r).length ≤ 100000 := by
  have h1 := vint_len r.epoch
  have h2 := vint_len r.applied
  have h3 := vint_len r.applying
  unfold repV
  simp only [List.length_append, List.length_nil]
  omega
end Go.Proofs.YtkghiceeegindaaGreatDoor
namespace Go.Proofs.YtkghiceeegindaaGreatDoor
open Go.Proofs Go.AL
set_option maxRecDepth 100000
set_option maxHeartbeats 1000000
set_option linter.unusedVariables false
set_option linter.unusedSimpArgs false
attribute [local irreducible] endA AW aops thenA blockA hold
theorem format_n (l : List Int) (s d n : Int) (hne : l ≠ []) (hl : l.length ≤ 1000000) : PC 12 [.snap (encL intRow l), zV s, zV d, zV n] (.tup [.agg (encR (fmtE l s d n).1), .snap (encL opRow (fmtE l s d n).2.1), zV (fmtE l s d n).2.2]) := by
  refine pstartD Tryz.func12 Tryz.ntmps12 (by simp only [go_sem, encR]) ?_
  have c1 := layout_p ⟨l, s, d, 0, 0, 0⟩ hl
  have c2 := time_p n
  have c3 := total_p l hl
  have c4 := cloneI_o l hne hl
  have c5 := value_fo ⟨l, s, d, n, 0, 0⟩
  have c7 := failed_p
  refine zgo ?_
  refine zin Tryz.func47 Tryz.ntmps47 ?_
  refine zgo ?_
  unfold fmtE
  unfold encR at c1 c5 c7 ⊢
  simp only [] at c1 c5 c7
  unfold rep0 at c7 ⊢
  by_cases g1 : layE l s d = 0
  · have g0 : sizesE l = 0 := by
      unfold layE at g1
      by_cases h : sizesE l = 0
      · exact h
      · rw [if_neg h] at g1; exact absurd g1 h
    obtain ⟨h1, h2, h3⟩ := sum_ok g0
    rw [h1] at c3
    rw [g1] at c1
    cases g2 : timeB n with
    | false =>
      rw [g2] at c2
      clear h1
      refine zgo ?_
      exact zfin
    | true =>
      rw [g2] at c2
      have c6 := sbFormat_p s (repV ⟨l, s, d, n, 0, 0⟩) (repV_len _)
      have hF := sbFmt_len s (repV ⟨l, s, d, n, 0, 0⟩)
      generalize sbFmt s (repV ⟨l, s, d, n, 0, 0⟩) = F at *
      generalize repV ⟨l, s, d, n, 0, 0⟩ = V at *
      obtain ⟨F1, F2⟩ := F
      simp only [] at c6 hF
      clear h1 g2
      by_cases g3 : F2 = 0
      · have hT : ∀ a b : List AV, List.take (2 + F1.length) (a :: b :: encL opRow F1) = a :: b :: encL opRow F1 := fun a b => List.take_of_length_le (by simp only [List.length_cons, encL_len]; omega)
        refine zgo ?_
        exact zfin2
      · refine zgo ?_
        exact zfin2
  · refine zgo ?_
    exact zfin
theorem format_e (s d n : Int) (a : Option Addr) (cap : Nat) : PC 12 [.c (.slice a 0 cap), zV s, zV d, zV n] (.tup [.agg (encR (fmtE [] s d n).1), .snap (encL opRow (fmtE [] s d n).2.1), zV (fmtE [] s d n).2.2]) := by
  refine pstartD Tryz.func12 Tryz.ntmps12 (by simp only [go_sem, encR]) ?_
  have c1 := layout_p ⟨[], s, d, 0, 0, 0⟩ (Nat.zero_le _)
  have c4 := cloneI_e a cap
  have c7 := failed_p
  have g1 : layE [] s d = 6 := rfl
  have g2 : fmtE [] s d n = (rep0, [], 6) := by unfold fmtE; rw [g1]; rfl
  rw [g2]
  refine zgo ?_
  refine zin Tryz.func47 Tryz.ntmps47 ?_
  refine zgo ?_
  unfold encR at c1 c7 ⊢
  simp only [] at c1 c7
  unfold rep0 at c7 ⊢
  refine zgo ?_
  exact zfin
theorem format_p (l : List Int) (s d n : Int) (hl : l.length ≤ 1000000) : PC 12 [.snap (encL intRow l), zV s, zV d, zV n] (.tup [.agg (encR (fmtE l s d n).1), .snap (encL opRow (fmtE l s d n).2.1), zV (fmtE l s d n).2.2]) := by
  by_cases h : l = []
  · subst h
    exact PCall.nil (pre := []) (post := [zV s, zV d, zV n]) (format_e s d n)
  · exact format_n l s d n h hl
end Go.Proofs.YtkghiceeegindaaGreatDoor
namespace Go.Proofs.YtkghiceeegindaaGreatDoor
open Go.Proofs Go.AL
set_option maxRecDepth 100000
set_option maxHeartbeats 1000000
set_option linter.unusedVariables false
set_option linter.unusedSimpArgs false
attribute [local irreducible] endA AW aops thenA blockA hold
def placeE (r : Rep) (v : Nat) : Int := IntKind.i64.wrap (r.data + sumW (r.sizes.take v))
theorem place_p (r : Rep) (v : Nat) (hv : v ≤ r.sizes.length) (hl : r.sizes.length ≤ 1000000) : FC 70 [.sptr [encR r] 0 0, zV v] (zV (placeE r v)) := by
  refine FCall.ofK ?_ rfl
  refine pstart Tryz.func70 Tryz.ntmps70 (.c _) ?_
  have c1 := total_p (r.sizes.take v) (by rw [List.length_take]; omega)
  unfold encR placeE
  refine zgo ?_
  exact zfin
end Go.Proofs.YtkghiceeegindaaGreatDoor
namespace Go.Proofs.YtkghiceeegindaaGreatDoor
open Go.Proofs Go.AL
set_option maxRecDepth 100000
set_option maxHeartbeats 1000000
set_option linter.unusedVariables false
set_option linter.unusedSimpArgs false
attribute [local irreducible] endA AW aops thenA blockA hold
structure Dsk where
  st : List Sec
  ca : List (Int × Sec)
def encD (d : Dsk) : List AV := [.snap (encL encSec d.st), .snap (encL encCa d.ca)]
theorem gC (l : List (Int × Sec)) (k : Nat) (h : k < l.length) : (encL encCa l)[k]? = some (encCa (l.getD k (0, zSec))) := encL_get (0, zSec) h
def badC (n : Nat) (c : Int × Sec) : Bool := decide (c.1 < 0) || decide ((n : Int) ≤ c.1)
def dskE (d : Dsk) : Int := if 4096 < d.st.length then 2 else if d.ca.any (badC d.st.length) = true then 2 else 0
end Go.Proofs.YtkghiceeegindaaGreatDoor
namespace Go.Proofs.YtkghiceeegindaaGreatDoor
open Go.Proofs Go.AL
set_option maxRecDepth 100000
set_option maxHeartbeats 1000000
set_option linter.unusedVariables false
set_option linter.unusedSimpArgs false
attribute [local irreducible] endA AW aops thenA blockA hold
@[go_sem] theorem cas_expoD (G : Nat → Option Blk) (k : Nat) (F : List (Int × Sec)) : (encL encCa F).map (fun row => row.map (expoD G k)) = encL encCa F := by
  unfold encL
  rw [List.map_map]
  refine List.map_congr_left fun o _ => ?_
  cases k <;> simp [encCa, encSec, expoD]
def newL (st : List Sec) (ca : List (Int × Sec)) : List Sec := ca.foldl (fun l c => l.set c.1.toNat c.2) st
theorem newL_len : ∀ (ca : List (Int × Sec)) (st : List Sec), (newL st ca).length = st.length
  | [], st => rfl
  | c :: ca, st => by
    have := newL_len ca (st.set c.1.toNat c.2)
    simpa [newL] using this
theorem newL_succ {st : List Sec} {ca : List (Int × Sec)} {k n : Nat} (h : k < ca.length) (hn : (ca.getD k (0, zSec)).1 = (n : Int)) : (newL st (ca.take k)).set n (ca.getD k (0, zSec)).2 = newL st (ca.take (k + 1)) := by
  rw [List.take_succ_eq_append_getElem h]
  have e : ca.getD k (0, zSec) = ca[k] := by rw [List.getD_eq_getElem?_getD, List.getElem?_eq_getElem h]; rfl
  rw [e] at hn ⊢
  simp only [newL, List.foldl_append, List.foldl_cons, List.foldl_nil, hn]
  rfl
theorem dskE_ok {d : Dsk} (h : dskE d = 0) : d.st.length ≤ 4096 ∧ ∀ c ∈ d.ca, 0 ≤ c.1 ∧ c.1 < (d.st.length : Int) := by
  unfold dskE at h
  split at h
  · exact absurd h (by decide)
  · rename_i h1
    split at h
    · exact absurd h (by decide)
    · rename_i h2
      refine ⟨by omega, fun c hc => ?_⟩
      rw [Bool.not_eq_true, List.any_eq_false] at h2
      have := h2 c hc
      simp only [badC, Bool.or_eq_true, decide_eq_true_eq, not_or] at this
      omega
end Go.Proofs.YtkghiceeegindaaGreatDoor
namespace Go.Proofs.YtkghiceeegindaaGreatDoor
open Go.Proofs Go.AL
set_option maxRecDepth 100000
set_option maxHeartbeats 1000000
set_option linter.unusedVariables false
set_option linter.unusedSimpArgs false
attribute [local irreducible] endA AW aops thenA blockA hold
def readE (d : Dsk) (s n : Int) : List Sec × Int :=
  if dskE d = 0 then
    if s < 0 ∨ n < 0 ∨ (d.st.length : Int) < n ∨ (d.st.length : Int) - n < s then ([], 2)
    else (((newL d.st d.ca).drop s.toNat).take n.toNat, 0)
  else ([], dskE d)
end Go.Proofs.YtkghiceeegindaaGreatDoor
namespace Go.Proofs.YtkghiceeegindaaGreatDoor
open Go.Proofs Go.AL
set_option maxRecDepth 100000
set_option maxHeartbeats 1000000
set_option linter.unusedVariables false
set_option linter.unusedSimpArgs false
attribute [local irreducible] endA AW aops thenA blockA hold
def sbL (d : Dsk) (a : Int) : List Sec := ((newL d.st d.ca).drop a.toNat).take 16
def findE (d : Dsk) (a : Int) : List Sec × Int × List Int × Int × Int :=
  if dskE d = 0 then
    if a < 0 ∨ (d.st.length : Int) - 16 < a then ([], 0, [], 0, 2)
    else if (parseS ((sbL d a).take 8)).2 = 0 ∧ (parseS ((sbL d a).drop 8)).2 = 0 then ([], 0, [], 0, 9)
    else if (parseS ((sbL d a).take 8)).2 < (parseS ((sbL d a).drop 8)).2 then (sbL d a, 1, (parseS ((sbL d a).drop 8)).1, (parseS ((sbL d a).drop 8)).2, 0)
    else (sbL d a, 0, (parseS ((sbL d a).take 8)).1, (parseS ((sbL d a).take 8)).2, 0)
  else ([], 0, [], 0, dskE d)
end Go.Proofs.YtkghiceeegindaaGreatDoor
namespace Go.Proofs.YtkghiceeegindaaGreatDoor
open Go.Proofs Go.AL
set_option maxRecDepth 100000
set_option maxHeartbeats 1000000
set_option linter.unusedVariables false
set_option linter.unusedSimpArgs false
attribute [local irreducible] endA AW aops thenA blockA hold
theorem parseS_gen {l : List Sec} (h : ∀ s ∈ l, SecOK s) : 0 ≤ (parseS l).2 ∧ (parseS l).2 < 4294967296 := by
  unfold parseS
  split
  · split
    · exact ⟨by simp, by simp⟩
    · split
      · cases l with
        | nil => exact ⟨by decide, by decide⟩
        | cons s l =>
          obtain ⟨⟨a0, a1⟩, ⟨b0, b1⟩, ⟨c0, c1⟩, ⟨d0, d1⟩⟩ := (h s (by simp)).1
          show 0 ≤ genS s ∧ genS s < 4294967296
          unfold genS
          omega
      · exact ⟨by simp, by simp⟩
  · exact ⟨by simp, by simp⟩
end Go.Proofs.YtkghiceeegindaaGreatDoor
namespace Go.Proofs.YtkghiceeegindaaGreatDoor
open Go.Proofs Go.AL
set_option maxRecDepth 100000
set_option maxHeartbeats 1000000
set_option linter.unusedVariables false
set_option linter.unusedSimpArgs false
attribute [local irreducible] endA AW aops thenA blockA hold
def topS (l : List Sec) : Int := l.foldl (fun m s => max m (genS s)) 0
theorem topS_succ {l : List Sec} {k : Nat} (h : k < l.length) : max (topS (l.take k)) (genS (l.getD k zSec)) = topS (l.take (k + 1)) := by
  rw [List.take_succ_eq_append_getElem h]
  have e : l.getD k zSec = l[k] := by rw [List.getD_eq_getElem?_getD, List.getElem?_eq_getElem h]; rfl
  rw [e]
  simp only [topS, List.foldl_append, List.foldl_cons, List.foldl_nil]
theorem topS_in : ∀ (l : List Sec), (∀ s ∈ l, SecOK s) → 0 ≤ topS l ∧ topS l < 4294967296 := by
  have key : ∀ (l : List Sec) (m : Int), 0 ≤ m → m < 4294967296 → (∀ s ∈ l, SecOK s) → 0 ≤ l.foldl (fun m s => max m (genS s)) m ∧ l.foldl (fun m s => max m (genS s)) m < 4294967296 := by
    intro l
    induction l with
    | nil => intro m h1 h2 _; exact ⟨h1, h2⟩
    | cons s l ih =>
      intro m h1 h2 h
      obtain ⟨⟨a0, a1⟩, ⟨b0, b1⟩, ⟨c0, c1⟩, ⟨d0, d1⟩⟩ := (h s (by simp)).1
      have h3 : 0 ≤ genS s ∧ genS s < 4294967296 := by unfold genS; omega
      have h5 : 0 ≤ max m (genS s) ∧ max m (genS s) < 4294967296 := by omega
      exact ih _ h5.1 h5.2 fun x hx => h x (by simp [hx])
  exact fun l h => key l 0 (by omega) (by omega) h
def storeE (d : Dsk) (a : Int) (p : List Int) : List (Int × Int × List Sec) × Int :=
  if (findE d a).2.2.2.2 = 0 then
    if 31 < p.length then ([], 5)
    else if topS (sbL d a) = 4294967295 then ([], 11)
    else ([(0, a + 8 - 8 * (findE d a).2.1, putS (topS (sbL d a) + 1) p), (1, 0, [])], 0)
  else ([], (findE d a).2.2.2.2)
end Go.Proofs.YtkghiceeegindaaGreatDoor
namespace Go.Proofs.YtkghiceeegindaaGreatDoor
open Go.Proofs Go.AL
set_option maxRecDepth 100000
set_option maxHeartbeats 1000000
set_option linter.unusedVariables false
set_option linter.unusedSimpArgs false
attribute [local irreducible] endA AW aops thenA blockA hold
def insB (d : Dsk) (s n : Int) : Bool := decide (0 ≤ s) && decide (0 ≤ n) && decide (n ≤ (d.st.length : Int)) && decide (s ≤ (d.st.length : Int) - n)
theorem inside_p (d : Dsk) (s n : Int) (hs : d.st.length ≤ 1000000) : PC 122 [.agg (encD d), zV s, zV n] (bV (insB d s n)) := by
  refine pstart Tryz.func122 Tryz.ntmps122 (.c _) ?_
  obtain ⟨st, ca⟩ := d
  unfold encD
  simp only [] at hs ⊢
  by_cases g1 : 0 ≤ s
  · by_cases g2 : 0 ≤ n
    · by_cases g3 : n ≤ (st.length : Int)
      · have w1 : IntKind.i64.wrap ((st.length : Int) - n) = (st.length : Int) - n := IntWalk.i64_in _ (by omega)
        by_cases g4 : s ≤ (st.length : Int) - n
        · have e : insB ⟨st, ca⟩ s n = true := by unfold insB; rw [dec_leT g1, dec_leT g2, dec_leT g3, dec_leT g4]; rfl
          rw [e]
          refine zgo ?_
          exact zfin
        · have e : insB ⟨st, ca⟩ s n = false := by unfold insB; rw [dec_leT g1, dec_leT g2, dec_leT g3, dec_leF g4]; rfl
          rw [e]
          refine zgo ?_
          exact zfin
      · have e : insB ⟨st, ca⟩ s n = false := by unfold insB; rw [dec_leF g3]; simp
        rw [e]
        refine zgo ?_
        exact zfin
    · have e : insB ⟨st, ca⟩ s n = false := by unfold insB; rw [dec_leF g2]; simp
      rw [e]
      refine zgo ?_
      exact zfin
  · have e : insB ⟨st, ca⟩ s n = false := by unfold insB; rw [dec_leF g1]; simp
    rw [e]
    refine zgo ?_
    exact zfin
theorem dbad_p (d : Dsk) (c : Int × Sec) (hs : d.st.length ≤ 1000000) : PC 121 [.agg (encCa c), .sptr [encD d] 0 0] (bV (badC d.st.length c)) := by
  refine pstart Tryz.func121 Tryz.ntmps121 (.c _) ?_
  obtain ⟨st, ca⟩ := d
  obtain ⟨x, s⟩ := c
  have hx : (encL encCa [(x, s)])[0]? = some (zV x :: encSec s) := rfl
  unfold encD
  simp only [] at hs ⊢
  by_cases g1 : x < 0
  · have e : badC st.length (x, s) = true := by unfold badC; rw [dec_ltT g1]; rfl
    rw [e]
    refine zgo ?_
    exact zfin
  · by_cases g2 : (st.length : Int) ≤ x
    · have e : badC st.length (x, s) = true := by unfold badC; rw [dec_leT g2]; simp
      rw [e]
      refine zgo ?_
      exact zfin
    · have e : badC st.length (x, s) = false := by unfold badC; rw [dec_ltF g1, dec_leF g2]; rfl
      rw [e]
      refine zgo ?_
      exact zfin
end Go.Proofs.YtkghiceeegindaaGreatDoor
namespace Go.Proofs.YtkghiceeegindaaGreatDoor
open Go.Proofs Go.AL
set_option maxRecDepth 100000
set_option maxHeartbeats 1000000
set_option linter.unusedVariables false
set_option linter.unusedSimpArgs false
attribute [local irreducible] endA AW aops thenA blockA hold
theorem cloneS_o (l : List Sec) (h : l ≠ []) (hl : l.length ≤ 1000000) : OCall Tryz.prog 71 [.snap (encL encSec l)] 96 8 (encL encSec l) := by
  refine ostart Tryz.func71 Tryz.ntmps71 (by simp only [go_sem]) (encL_ids l) ?_
  have h1 := isEmpty_f h
  refine zgo ?_
  exact ⟨1, by simp only [go_sem], by simp only [go_sem]⟩
theorem cloneS_e (a : Option Addr) (cap : Nat) : PC 71 [.c (.slice a 0 cap)] (.snap (encL encSec [])) := by
  refine pstart Tryz.func71 Tryz.ntmps71 (encL_noId _) ?_
  cases a with
  | none =>
    refine zgo ?_
    simp only [encL_nil]
    exact zfin
  | some a =>
    refine zgo ?_
    simp only [encL_nil]
    exact zfin
theorem cloneS_p (l : List Sec) (hl : l.length ≤ 1000000) : PC 71 [.snap (encL encSec l)] (.snap (encL encSec l)) := by
  by_cases h : l = []
  · subst h
    exact PCall.nil (pre := []) (post := []) cloneS_e
  · refine pstart Tryz.func71 Tryz.ntmps71 (encL_noId l) ?_
    have h1 := isEmpty_f h
    refine zgo ?_
    exact zfin
theorem newest_p (d : Dsk) (h2 : d.ca.length ≤ 1000000) (h : dskE d = 0) : PC 123 [.agg (encD d)] (.snap (encL encSec (newL d.st d.ca))) := by
  refine pstart Tryz.func123 Tryz.ntmps123 (encL_noId _) ?_
  obtain ⟨h0, h3⟩ := dskE_ok h
  obtain ⟨st, ca⟩ := d
  unfold encD
  simp only [] at h0 h2 h3 ⊢
  clear h
  by_cases g : st = []
  · have g2 : ca = [] := by
      cases ca with
      | nil => rfl
      | cons c ca => have := h3 c (by simp); subst g; simp at this; omega
    subst g g2
    clear h3
    have g3 : newL [] [] = [] := rfl
    have c1 := cloneS_p [] (Nat.zero_le _)
    rw [g3]
    clear g3
    refine zgo ?_
    refine w_rounds 2 ?_
    refine w_round ?_
    refine zgo ?_
    exact zfin
  · have hg := gC ca
    have hx : ∀ (x : Int) (s : Sec), (encL encCa [(x, s)])[0]? = some (zV x :: encSec s) := fun _ _ => rfl
    have hy : ∀ (x : Int) (s : Sec) (r : List AV), (encL encCa [(x, s)]).set 0 r = [r] := fun _ _ _ => rfl
    have c1 := cloneS_o st g (by omega)
    refine zgo ?_
    refine zfor (α := Unit) ca.length (fun k _ => [(12, true, zV k), (11, true, zV ca.length), (10, true, .snap (encL encCa ca)), (3, true, .own 1 0 st.length), (1, true, .ptr 0 0 0)]) (fun k _ => [(0, some (.cells 25 2 [[.snap (encL encSec st), .snap (encL encCa ca)]] true false)), (1, some (.cells 96 8 (encL encSec (newL st (ca.take k))) true true))]) (fun k m _ => 2 ≤ m) ⟨2, (), Nat.le_refl _, ?_⟩ (fun k m _ hk hR => ?_) (fun m _ hR => ?_)
    · have e0 : newL st (ca.take 0) = st := rfl
      rw [e0]
      exact zholds
    · obtain ⟨h5, h6⟩ := h3 _ (getD_mem' (0, zSec) hk)
      obtain ⟨n, hn⟩ := Int.eq_ofNat_of_zero_le h5
      have hz : (ca.getD k (0, zSec)) = ((n : Int), (ca.getD k (0, zSec)).2) := by rw [← hn]
      have h7 := newL_succ (st := st) hk hn
      have h8 : n < st.length := by omega
      have h9 := newL_len (ca.take k) st
      have h10 := gS (newL st (ca.take k))
      clear h3 h5 h6 hz
      refine zgo ?_
      exact ⟨m + 1 + 1 + 1, (), by omega, zholds⟩
    · have e0 : newL st (ca.take ca.length) = newL st ca := by rw [List.take_length]
      have e1 := newL_len ca st
      have e2 : (newL st ca).take st.length = newL st ca := List.take_of_length_le (by omega)
      rw [e0]
      clear h3
      refine zgo ?_
      exact zfin
end Go.Proofs.YtkghiceeegindaaGreatDoor
namespace Go.Proofs.YtkghiceeegindaaGreatDoor
open Go.Proofs Go.AL
set_option maxRecDepth 100000
set_option maxHeartbeats 1000000
set_option linter.unusedVariables false
set_option linter.unusedSimpArgs false
attribute [local irreducible] endA AW aops thenA blockA hold
abbrev badF (d : Dsk) : AV := .fn (.func 121) [] [.sptr [encD d] 0 0]
theorem dindex_p (d : Dsk) (hs : d.st.length ≤ 1000000) (hl : d.ca.length ≤ 1000000) : PC 154 [.snap (encL encCa d.ca), badF d] (zV (idxZ (d.ca.findIdx? (badC d.st.length)))) := by
  refine pstart Tryz.func154 Tryz.ntmps154 (.c _) ?_
  unfold idxZ badF encD
  have hg := gC d.ca
  refine zgo ?_
  refine zfor (α := Unit) d.ca.length (fun k _ => [(8, true, zV k), (7, true, zV d.ca.length), (0, true, .snap (encL encCa d.ca)), (1, true, .fn (.func 121) [] [.sptr [[.snap (encL encSec d.st), .snap (encL encCa d.ca)]] 0 0])]) (fun _ _ => []) (fun k m _ => ∀ i, i < k → badC d.st.length (d.ca.getD i (0, zSec)) = false) ⟨0, (), fun i hi => by omega, zholds⟩ (fun k m _ hk hR => ?_) (fun m _ hR => ?_)
  · have c1 := dbad_p d (d.ca.getD k (0, zSec)) hs
    unfold encCa encD at c1
    cases h : badC d.st.length (d.ca.getD k (0, zSec)) with
    | true =>
      have hf : d.ca.findIdx? (badC d.st.length) = some k := by
        rw [List.findIdx?_eq_some_iff_getElem]
        exact ⟨hk, by simpa [hk] using h, fun j hj => by have := hR j hj; simp [show j < d.ca.length by omega] at this; simpa using this⟩
      rw [h] at c1
      clear hR
      refine zgo ?_
      exact zfin
    | false =>
      rw [h] at c1
      have hR2 : ∀ i, i < k + 1 → badC d.st.length (d.ca.getD i (0, zSec)) = false := fun i hi => by
        by_cases hik : i = k
        · subst hik; exact h
        · exact hR i (by omega)
      clear hR
      refine zgo ?_
      exact ⟨m, (), hR2, zholds⟩
  · have hf : d.ca.findIdx? (badC d.st.length) = none := by
      rw [List.findIdx?_eq_none_iff]
      intro x hx
      obtain ⟨i, hi⟩ := List.mem_iff_getElem?.1 hx
      obtain ⟨h1, h2⟩ := List.getElem?_eq_some_iff.1 hi
      have := hR i h1
      simp [h1, h2] at this
      exact this
    clear hR
    refine zgo ?_
    exact zfin
theorem didx (d : Dsk) : decide (0 ≤ idxZ (d.ca.findIdx? (badC d.st.length))) = d.ca.any (badC d.st.length) := by
  cases h : d.ca.findIdx? (badC d.st.length) with
  | none =>
    rw [List.findIdx?_eq_none_iff] at h
    simp only [idxZ]
    symm
    simpa using h
  | some i =>
    rw [List.findIdx?_eq_some_iff_getElem] at h
    obtain ⟨h1, h2, _⟩ := h
    simp only [idxZ]
    have : d.ca.any (badC d.st.length) = true := List.any_eq_true.2 ⟨_, List.getElem_mem h1, h2⟩
    rw [this]
    simp
theorem dcontains_p (d : Dsk) (hs : d.st.length ≤ 1000000) (hl : d.ca.length ≤ 1000000) : PC 120 [.snap (encL encCa d.ca), badF d] (bV (d.ca.any (badC d.st.length))) := by
  refine pstart Tryz.func120 Tryz.ntmps120 (.c _) ?_
  have c1 := dindex_p d hs hl
  have h1 := didx d
  unfold badF encD at c1 ⊢
  refine zgo ?_
  exact zfin
end Go.Proofs.YtkghiceeegindaaGreatDoor
namespace Go.Proofs.YtkghiceeegindaaGreatDoor
open Go.Proofs Go.AL
set_option maxRecDepth 100000
set_option maxHeartbeats 1000000
set_option linter.unusedVariables false
set_option linter.unusedSimpArgs false
attribute [local irreducible] endA AW aops thenA blockA hold
theorem dcheck_p (d : Dsk) (h1 : d.st.length ≤ 1000000) (h2 : d.ca.length ≤ 1000000) : PC 77 [.agg (encD d)] (zV (dskE d)) := by
  refine pstart Tryz.func77 Tryz.ntmps77 (.c _) ?_
  have c1 := dcontains_p d h1 h2
  unfold dskE
  unfold badF encD at c1
  unfold encD
  by_cases g1 : 4096 < d.st.length
  · have g2 : (4096 : Int) < (d.st.length : Int) := by omega
    clear c1
    refine zgo ?_
    exact zfin
  have g2 : ¬ (4096 : Int) < (d.st.length : Int) := by omega
  rw [if_neg g1]
  cases h : d.ca.any (badC d.st.length) with
  | true =>
    rw [h] at c1
    refine zgo ?_
    exact zfin
  | false =>
    rw [h] at c1
    refine zgo ?_
    exact zfin
end Go.Proofs.YtkghiceeegindaaGreatDoor
namespace Go.Proofs.YtkghiceeegindaaGreatDoor
open Go.Proofs Go.AL
set_option maxRecDepth 100000
set_option maxHeartbeats 1000000
set_option linter.unusedVariables false
set_option linter.unusedSimpArgs false
attribute [local irreducible] endA AW aops thenA blockA hold
theorem dread_p (d : Dsk) (s n : Int) (hs : d.st.length ≤ 1000000) (h2 : d.ca.length ≤ 1000000) : PC 78 [.agg (encD d), .agg [zV s, zV n]] (.tup [.snap (encL encSec (readE d s n).1), zV (readE d s n).2]) := by
  refine pstart Tryz.func78 Tryz.ntmps78 (by simp only [go_sem]) ?_
  have c1 := dcheck_p d hs h2
  have c3 := inside_p d s n hs
  unfold readE
  by_cases g : dskE d = 0
  · have c2 := newest_p d h2 g
    rw [if_pos g]
    have e0 := newL_len d.ca d.st
    rw [g] at c1
    clear g
    by_cases g1 : s < 0 ∨ n < 0 ∨ (d.st.length : Int) < n ∨ (d.st.length : Int) - n < s
    · have e : insB d s n = false := by
        cases h : insB d s n with
        | false => rfl
        | true =>
          simp only [insB, Bool.and_eq_true, decide_eq_true_eq] at h
          omega
      rw [if_pos g1]
      rw [e] at c3
      unfold encD at c1 c2 c3 ⊢
      clear g1
      refine zgo ?_
      exact zfin
    · have e : insB d s n = true := by
        simp only [insB, Bool.and_eq_true, decide_eq_true_eq]
        omega
      rw [if_neg g1]
      rw [e] at c3
      unfold encD at c1 c2 c3 ⊢
      obtain ⟨S, rfl⟩ := Int.eq_ofNat_of_zero_le (by omega : 0 ≤ s)
      obtain ⟨N, rfl⟩ := Int.eq_ofNat_of_zero_le (by omega : 0 ≤ n)
      have e1 : ((S : Int) + (N : Int) - (S : Int)).toNat = N := by omega
      have g2 : S + N ≤ d.st.length := by omega
      have g3 : d.st.length ≤ 1000000 := hs
      clear g1
      refine zgo ?_
      exact zfin
  · rw [if_neg g]
    unfold encD at c1 ⊢
    refine zgo ?_
    exact zfin
end Go.Proofs.YtkghiceeegindaaGreatDoor
namespace Go.Proofs.YtkghiceeegindaaGreatDoor
open Go.Proofs Go.AL
set_option maxRecDepth 100000
set_option maxHeartbeats 1000000
set_option linter.unusedVariables false
set_option linter.unusedSimpArgs false
attribute [local irreducible] endA AW aops thenA blockA hold
def bothV (A B : List Int × Int) (l m : List Sec) : List AV := [zV A.2, .snap (encL byteRow A.1), .snap (encL encSec l), zV B.2, .snap (encL byteRow B.1), .snap (encL encSec m)]
def newE (A B : List Int × Int) : Int × Int := if A.2 < B.2 then (if B.2 = 0 then (0, 9) else (1, 0)) else if A.2 = 0 then (0, 9) else (0, 0)
theorem find_ok (d : Dsk) (a : Int) (hs : d.st.length ≤ 1000000) (h2 : d.ca.length ≤ 1000000) (hk : ∀ s ∈ newL d.st d.ca, SecOK s) (h0 : dskE d = 0) (h3 : 0 ≤ a) (h4 : a ≤ (d.st.length : Int) - 16) : PC 105 [.agg (encD d), zV a] (.tup [.agg (bothV (parseS ((sbL d a).take 8)) (parseS ((sbL d a).drop 8)) ((sbL d a).take 8) ((sbL d a).drop 8)), zV (newE (parseS ((sbL d a).take 8)) (parseS ((sbL d a).drop 8))).1, zV (newE (parseS ((sbL d a).take 8)) (parseS ((sbL d a).drop 8))).2]) := by
  refine pstart Tryz.func105 Tryz.ntmps105 (by simp only [go_sem, bothV]) ?_
  have c2 := dread_p d a 16 hs h2
  unfold readE at c2
  rw [if_pos h0, if_neg (by omega)] at c2
  have e0 := newL_len d.ca d.st
  have e1 : (sbL d a).length = 16 := by unfold sbL; rw [List.length_take, List.length_drop]; omega
  have c2' : PC 78 [.agg (encD d), .agg [zV a, zV 16]] (.tup [.snap (encL encSec (sbL d a)), zV 0]) := c2
  have hk2 : ∀ s ∈ sbL d a, SecOK s := fun s hs => hk s (List.mem_of_mem_drop (List.mem_of_mem_take hs))
  clear c2 hk h0
  unfold encD at c2' ⊢
  generalize sbL d a = L at *
  have c3 := get_p (L.take 8) (by rw [List.length_take]; omega) fun s hs => hk2 s (List.mem_of_mem_take hs)
  have c4 := get_p (L.drop 8) (by rw [List.length_drop]; omega) fun s hs => hk2 s (List.mem_of_mem_drop hs)
  have e2 : (L.drop 8).take 8 = L.drop 8 := List.take_of_length_le (by rw [List.length_drop]; omega)
  clear hk2
  generalize parseS (L.take 8) = A at *
  generalize parseS (L.drop 8) = B at *
  obtain ⟨pa, ga⟩ := A
  obtain ⟨pb, gb⟩ := B
  unfold copyV at c3 c4
  unfold bothV newE
  simp only [] at c3 c4 ⊢
  by_cases g5 : ga < gb
  · rw [if_pos g5]
    by_cases g6 : gb = 0
    · rw [if_pos g6]
      refine zgo ?_
      exact zfin
    · rw [if_neg g6]
      refine zgo ?_
      exact zfin
  · rw [if_neg g5]
    by_cases g6 : ga = 0
    · rw [if_pos g6]
      refine zgo ?_
      exact zfin
    · rw [if_neg g6]
      refine zgo ?_
      exact zfin
end Go.Proofs.YtkghiceeegindaaGreatDoor
namespace Go.Proofs.YtkghiceeegindaaGreatDoor
open Go.Proofs Go.AL
set_option maxRecDepth 100000
set_option maxHeartbeats 1000000
set_option linter.unusedVariables false
set_option linter.unusedSimpArgs false
attribute [local irreducible] endA AW aops thenA blockA hold
theorem cloneB_e (a : Option Addr) (cap : Nat) : PC 106 [.c (.slice a 0 cap)] (.snap (encL byteRow [])) := by
  refine pstart Tryz.func106 Tryz.ntmps106 (encL_noId _) ?_
  cases a with
  | none =>
    refine zgo ?_
    simp only [encL_nil]
    exact zfin
  | some a =>
    refine zgo ?_
    simp only [encL_nil]
    exact zfin
theorem cloneB_p (l : List Int) (hl : l.length ≤ 1000000) : PC 106 [.snap (encL byteRow l)] (.snap (encL byteRow l)) := by
  by_cases h : l = []
  · subst h
    exact PCall.nil (pre := []) (post := []) cloneB_e
  · refine pstart Tryz.func106 Tryz.ntmps106 (encL_noId l) ?_
    have h1 := isEmpty_f h
    refine zgo ?_
    exact zfin
end Go.Proofs.YtkghiceeegindaaGreatDoor
namespace Go.Proofs.YtkghiceeegindaaGreatDoor
open Go.Proofs Go.AL
set_option maxRecDepth 100000
set_option maxHeartbeats 1000000
set_option linter.unusedVariables false
set_option linter.unusedSimpArgs false
attribute [local irreducible] endA AW aops thenA blockA hold
theorem parseS_len (l : List Sec) : (parseS l).1.length ≤ 31 := by
  unfold parseS
  split
  · split
    · simp
    · split
      · rw [List.length_take]; omega
      · simp
  · simp
theorem load_ok (d : Dsk) (a : Int) (A B : List Int × Int) (l m : List Sec) (hA : A.1.length ≤ 31) (hB : B.1.length ≤ 31) (hc : PC 105 [.agg (encD d), zV a] (.tup [.agg (bothV A B l m), zV (newE A B).1, zV (newE A B).2])) :
    PC 60 [.agg (encD d), zV a] (.tup (if (newE A B).2 = 0 then (if (newE A B).1 = 1 then [.snap (encL byteRow B.1), zV B.2, zV 0] else [.snap (encL byteRow A.1), zV A.2, zV 0]) else [.snap (encL byteRow []), zV 0, zV 9])) := by
  have c3 := cloneB_p A.1 (by omega)
  have c4 := cloneB_p B.1 (by omega)
  obtain ⟨pa, ga⟩ := A
  obtain ⟨pb, gb⟩ := B
  unfold newE bothV at *
  simp only [] at *
  unfold encD at hc ⊢
  by_cases g5 : ga < gb
  · rw [if_pos g5] at hc ⊢
    by_cases g6 : gb = 0
    · rw [if_pos g6] at hc ⊢
      rw [if_neg (by decide)]
      refine pstart Tryz.func60 Tryz.ntmps60 (by simp only [go_sem]) ?_
      refine zgo ?_
      exact zfin
    · rw [if_neg g6] at hc ⊢
      rw [if_pos rfl, if_pos rfl]
      refine pstart Tryz.func60 Tryz.ntmps60 (by simp only [go_sem]) ?_
      refine zgo ?_
      exact zfin
  · rw [if_neg g5] at hc ⊢
    by_cases g6 : ga = 0
    · rw [if_pos g6] at hc ⊢
      rw [if_neg (by decide)]
      refine pstart Tryz.func60 Tryz.ntmps60 (by simp only [go_sem]) ?_
      refine zgo ?_
      exact zfin
    · rw [if_neg g6] at hc ⊢
      rw [if_pos rfl, if_neg (by decide)]
      refine pstart Tryz.func60 Tryz.ntmps60 (by simp only [go_sem]) ?_
      refine zgo ?_
      exact zfin
end Go.Proofs.YtkghiceeegindaaGreatDoor
namespace Go.Proofs.YtkghiceeegindaaGreatDoor
open Go.Proofs Go.AL
set_option maxRecDepth 100000
set_option maxHeartbeats 1000000
set_option linter.unusedVariables false
set_option linter.unusedSimpArgs false
attribute [local irreducible] endA AW aops thenA blockA hold
theorem find_err (d : Dsk) (a : Int) (hs : d.st.length ≤ 1000000) (h2 : d.ca.length ≤ 1000000) (he : (readE d a 16).2 ≠ 0) : PC 105 [.agg (encD d), zV a] (.tup [.agg (bothV ([], 0) ([], 0) [] []), zV 0, zV (readE d a 16).2]) := by
  refine pstart Tryz.func105 Tryz.ntmps105 (by simp only [go_sem, bothV]) ?_
  have c2 := dread_p d a 16 hs h2
  generalize readE d a 16 = F at *
  obtain ⟨L, e⟩ := F
  simp only [] at c2 he
  unfold encD at c2 ⊢
  unfold bothV
  refine zgo ?_
  exact zfin
theorem load_err (d : Dsk) (a e : Int) (he : e ≠ 0) (hc : PC 105 [.agg (encD d), zV a] (.tup [.agg (bothV ([], 0) ([], 0) [] []), zV 0, zV e])) : PC 60 [.agg (encD d), zV a] (.tup [.snap (encL byteRow []), zV 0, zV e]) := by
  refine pstart Tryz.func60 Tryz.ntmps60 (by simp only [go_sem]) ?_
  unfold encD bothV at *
  simp only [] at hc
  refine zgo ?_
  exact zfin
end Go.Proofs.YtkghiceeegindaaGreatDoor
namespace Go.Proofs.YtkghiceeegindaaGreatDoor
open Go.Proofs Go.AL
set_option maxRecDepth 100000
set_option maxHeartbeats 1000000
set_option linter.unusedVariables false
set_option linter.unusedSimpArgs false
attribute [local irreducible] endA AW aops thenA blockA hold
theorem readE_ok {d : Dsk} {a : Int} (g : (readE d a 16).2 = 0) : dskE d = 0 ∧ 0 ≤ a ∧ a ≤ (d.st.length : Int) - 16 := by
  unfold readE at g
  by_cases h0 : dskE d = 0
  · rw [if_pos h0] at g
    split at g
    · exact absurd g (by decide)
    · exact ⟨h0, by omega, by omega⟩
  · rw [if_neg h0] at g
    exact absurd g h0
theorem findE_err {d : Dsk} {a : Int} (hs : d.st.length ≤ 1000000) (g : (readE d a 16).2 ≠ 0) : findE d a = ([], 0, [], 0, (readE d a 16).2) := by
  unfold readE at g ⊢
  unfold findE
  by_cases h0 : dskE d = 0
  · rw [if_pos h0] at g ⊢
    split at g
    · rename_i h1
      rw [if_pos h0, if_pos h1, if_pos (by omega)]
    · exact absurd rfl g
  · rw [if_neg h0] at g ⊢
    rw [if_neg h0]
theorem find_new {d : Dsk} {a : Int} (h0 : dskE d = 0) (h3 : 0 ≤ a) (h4 : a ≤ (d.st.length : Int) - 16) (hA : 0 ≤ (parseS ((sbL d a).take 8)).2) (hB : 0 ≤ (parseS ((sbL d a).drop 8)).2) :
    findE d a = if (newE (parseS ((sbL d a).take 8)) (parseS ((sbL d a).drop 8))).2 = 0 then (if (newE (parseS ((sbL d a).take 8)) (parseS ((sbL d a).drop 8))).1 = 1 then (sbL d a, 1, (parseS ((sbL d a).drop 8)).1, (parseS ((sbL d a).drop 8)).2, 0) else (sbL d a, 0, (parseS ((sbL d a).take 8)).1, (parseS ((sbL d a).take 8)).2, 0)) else ([], 0, [], 0, 9) := by
  unfold findE newE
  rw [if_pos h0, if_neg (by omega)]
  generalize parseS ((sbL d a).take 8) = A at *
  generalize parseS ((sbL d a).drop 8) = B at *
  by_cases g1 : A.2 < B.2
  · rw [if_pos g1, if_pos g1, if_neg (by omega : ¬ B.2 = 0), if_neg (by omega : ¬ (A.2 = 0 ∧ B.2 = 0)), if_pos rfl, if_pos rfl]
  · rw [if_neg g1, if_neg g1]
    by_cases g2 : A.2 = 0
    · rw [if_pos g2, if_pos (by omega : A.2 = 0 ∧ B.2 = 0), if_neg (by decide)]
    · rw [if_neg g2, if_neg (by omega : ¬ (A.2 = 0 ∧ B.2 = 0)), if_pos rfl, if_neg (by decide)]
theorem load_p (d : Dsk) (a : Int) (hs : d.st.length ≤ 1000000) (h2 : d.ca.length ≤ 1000000) (hk : ∀ s ∈ newL d.st d.ca, SecOK s) : PC 60 [.agg (encD d), zV a] (.tup [.snap (encL byteRow (findE d a).2.2.1), zV (findE d a).2.2.2.1, zV (findE d a).2.2.2.2]) := by
  by_cases g : (readE d a 16).2 = 0
  · obtain ⟨h0, h3, h4⟩ := readE_ok g
    have hk2 : ∀ s ∈ sbL d a, SecOK s := fun s hs => hk s (List.mem_of_mem_drop (List.mem_of_mem_take hs))
    have gA := parseS_gen (l := (sbL d a).take 8) fun s hs => hk2 s (List.mem_of_mem_take hs)
    have gB := parseS_gen (l := (sbL d a).drop 8) fun s hs => hk2 s (List.mem_of_mem_drop hs)
    have c := load_ok d a _ _ _ _ (parseS_len _) (parseS_len _) (find_ok d a hs h2 hk h0 h3 h4)
    rw [find_new h0 h3 h4 gA.1 gB.1]
    split at c
    · rename_i e1
      rw [if_pos e1]
      split at c
      · rename_i e2
        rw [if_pos e2]
        exact c
      · rename_i e2
        rw [if_neg e2]
        exact c
    · rename_i e1
      rw [if_neg e1]
      exact c
  · rw [findE_err hs g]
    exact load_err d a _ g (find_err d a hs h2 g)
end Go.Proofs.YtkghiceeegindaaGreatDoor
