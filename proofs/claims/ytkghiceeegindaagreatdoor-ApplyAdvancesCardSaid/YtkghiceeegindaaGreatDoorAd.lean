/- Apply: contracts of its functions (Ad). No condition but those named. -/
import Derived.Test.YtkghiceeegindaaGreatDoorAc
import Derived.Test.YtkghiceeegindaaGreatDoorLe
namespace Go.Proofs.YtkghiceeegindaaGreatDoor
open Go.Proofs Go.AL
set_option maxRecDepth 100000
set_option maxHeartbeats 1000000
set_option linter.unusedVariables false
set_option linter.unusedSimpArgs false
attribute [local irreducible] endA AW aops thenA blockA hold
theorem and127 {x : Int} (h0 : 0 ≤ x) (h1 : x < 256) : bits .and .u8 x 127 = x % 128 := bits_mask .u8 8 (by decide) wraps_u8 7 (by decide) x h0 h1
theorem and128 {x : Int} (h0 : 0 ≤ x) (h1 : x < 256) : bits .and .u8 x 128 = (if 128 ≤ x then 128 else 0) := by
  have key : ∀ i : Fin 256, bits .and .u8 ((i.val : Nat) : Int) 128 = (if 128 ≤ i.val then 128 else 0) := by decide
  have := key ⟨x.toNat, by omega⟩
  simp only at this
  rw [show ((x.toNat : Nat) : Int) = x by omega] at this
  rw [this]
  by_cases h : 128 ≤ x
  · rw [if_pos h, if_pos (by omega)]
  · rw [if_neg h, if_neg (by omega)]
def numG : Nat → List Int → Nat → Int → Int × Nat × Int
  | 0, _, _, _ => (0, 0, 3)
  | f + 1, src, i, n =>
    if i < src.length then
      if 128 ≤ src.getD i 0 then numG f src (i + 1) (n + src.getD i 0 % 128 * 2 ^ (7 * i))
      else if (src.getD i 0 = 0 ∧ 0 < i) ∨ 9007199254740991 < n + src.getD i 0 % 128 * 2 ^ (7 * i) then (0, 0, 3)
      else (n + src.getD i 0 % 128 * 2 ^ (7 * i), i + 1, 0)
    else (0, 0, 10)
theorem numG_succ (f : Nat) (src : List Int) (i : Nat) (n : Int) : numG (f + 1) src i n = if i < src.length then if 128 ≤ src.getD i 0 then numG f src (i + 1) (n + src.getD i 0 % 128 * 2 ^ (7 * i)) else if (src.getD i 0 = 0 ∧ 0 < i) ∨ 9007199254740991 < n + src.getD i 0 % 128 * 2 ^ (7 * i) then (0, 0, 3) else (n + src.getD i 0 % 128 * 2 ^ (7 * i), i + 1, 0) else (0, 0, 10) := rfl
theorem numG_zero (src : List Int) (i : Nat) (n : Int) : numG 0 src i n = (0, 0, 3) := rfl
theorem pow7 (k : Nat) : (2 : Int) ^ (7 * (k + 1)) = 128 * 2 ^ (7 * k) := by
  rw [Nat.mul_add, Int.pow_add]; omega
theorem pow7_pos (k : Nat) : (0 : Int) < 2 ^ (7 * k) := Int.pow_pos (by decide)
theorem pow7_le {k : Nat} (h : k ≤ 8) : (2 : Int) ^ (7 * k) ≤ 2 ^ 56 := by
  obtain ⟨j, hj⟩ := Nat.exists_eq_add_of_le h
  have e : (2 : Int) ^ 56 = 2 ^ (7 * k) * 2 ^ (7 * j) := by rw [← Int.pow_add]; congr 1; omega
  rw [e]
  have h1 := pow7_pos j
  have h2 := pow7_pos k
  have := Int.mul_le_mul_of_nonneg_left (show (1 : Int) ≤ 2 ^ (7 * j) by omega) (show (0 : Int) ≤ 2 ^ (7 * k) by omega)
  omega
theorem step7 {k : Nat} {n b : Int} (hk : k < 8) (h0 : 0 ≤ n) (h1 : n < 2 ^ (7 * k)) :
    IntKind.i64.wrap (b % 128 * 2 ^ (7 * k)) = b % 128 * 2 ^ (7 * k) ∧ bits .or .i64 n (b % 128 * 2 ^ (7 * k)) = n + b % 128 * 2 ^ (7 * k) ∧ 0 ≤ n + b % 128 * 2 ^ (7 * k) ∧ n + b % 128 * 2 ^ (7 * k) < 2 ^ (7 * (k + 1)) := by
  have e56 : (2 : Int) ^ 56 = 72057594037927936 := by decide
  have h2 := pow7_pos k
  have h3 := pow7 k
  have h4 := pow7_le (k := k + 1) (by omega)
  generalize hm : b % 128 = m at *
  have hm0 : 0 ≤ m := by omega
  have hm1 : m ≤ 127 := by omega
  have h5 : m * 2 ^ (7 * k) ≤ 127 * 2 ^ (7 * k) := Int.mul_le_mul_of_nonneg_right hm1 (by omega)
  have h6 : 0 ≤ m * 2 ^ (7 * k) := Int.mul_nonneg hm0 (by omega)
  refine ⟨IntWalk.i64_in _ (by omega), ?_, by omega, by omega⟩
  have e := bits_join .i64 56 (by decide) (fun n a b => IntWalk.i64_in _ (by omega)) (7 * k) (m * 2 ^ (7 * k)) n h6 (by simp) (by omega) h0 h1 (by omega)
  simp only [bits, BitVec.or_comm] at e ⊢
  rw [e]; omega
def intE (src : List Int) : Int × List Int × Int :=
  if (numG 8 src 0 0).2.2 = 0 then ((numG 8 src 0 0).1, src.drop (numG 8 src 0 0).2.1, 0) else (0, [], (numG 8 src 0 0).2.2)
attribute [local irreducible] numG
theorem int_p (src : List Int) (hb : ∀ x ∈ src, ByteOK x) (hl : src.length ≤ 100000) : PC 107 [.snap (encL byteRow src)] (.tup [zV (intE src).1, .snap (encL byteRow (intE src).2.1), zV (intE src).2.2]) := by
  refine pstart Tryz.func107 Tryz.ntmps107 (by simp only [go_sem]) ?_
  refine zgo ?_
  refine zin Tryz.func141 Tryz.ntmps141 ?_
  refine zgo ?_
  refine zin Tryz.func142 Tryz.ntmps142 ?_
  refine zgo ?_
  have hg := gB src
  unfold intE
  generalize hF : numG 8 src 0 0 = F
  refine zfor (α := Int) 8 (fun k n => [(7, true, zV k), (4, true, zV n), (0, true, .ptr 0 0 0)]) (fun _ _ => [(0, some (.cells 252 1 [[.snap (encL byteRow src)]] true false))]) (fun k m n => 1 ≤ m ∧ numG (8 - k) src k n = F ∧ 0 ≤ n ∧ n < 2 ^ (7 * k)) ⟨1, 0, ⟨Nat.le_refl _, hF, by decide, by decide⟩, zholds⟩ (fun k m n hk hR => ?_) (fun m n hR => ?_)
  · obtain ⟨h1, h2, h3, h4⟩ := hR
    have w0 : IntKind.i64.wrap (7 * (k : Int)) = ((7 * k : Nat) : Int) := by rw [IntWalk.i64_in _ (by omega)]; omega
    by_cases g1 : k < src.length
    · have hx := hb _ (getD_mem' 0 g1)
      obtain ⟨w1, w2, w3, w4⟩ := step7 (b := src.getD k 0) hk h3 h4
      have a1 := and127 hx.1 hx.2
      have a2 := and128 hx.1 hx.2
      obtain ⟨f, hf⟩ : ∃ f, 8 - k = f + 1 := ⟨7 - k, by omega⟩
      have hf2 : 8 - (k + 1) = f := by omega
      rw [hf] at h2
      have wm : min (7 * k) 64 = 7 * k := by omega
      have hgk := hg k g1
      clear hb hg hF
      generalize hv : src.getD k 0 = b at *
      rw [numG_succ, if_pos g1, hv] at h2
      generalize hp0 : (2 : Int) ^ (7 * k) = p at *
      have hp : (2 : Int) ^ min (7 * k) 64 = p := by rw [wm, hp0]
      clear wm h4
      generalize hq : b % 128 * p = q at *
      have w5 : Lat (n + q < 2 ^ (7 * (k + 1))) := ⟨w4⟩
      clear w4
      by_cases g2 : 128 ≤ b
      · rw [if_pos g2] at a2
        have h5 : Lat (numG (8 - (k + 1)) src (k + 1) (n + q) = F) := ⟨by rw [hf2, ← h2, if_pos g2]⟩
        clear h2 hf2 hf
        refine zgo ?_
        exact ⟨m, _, ⟨h1, h5.out, w3, w5.out⟩, zholds⟩
      · rw [if_neg g2] at a2
        have h5 : F = if (b = 0 ∧ 0 < k) ∨ 9007199254740991 < n + q then (0, 0, 3) else (n + q, k + 1, 0) := by
          rw [← h2, if_neg g2]
        clear h2 hf2 hf
        by_cases g3 : b = 0 ∧ 0 < k
        · have h6 : F = (0, 0, 3) := by rw [h5, if_pos (.inl g3)]
          obtain ⟨g4, g5⟩ := g3
          have g6 : (0 : Int) < k := by omega
          rw [h6]
          clear h5 h6
          have hb0 : (b == (0 : Int)) = true := by rw [g4]; rfl
          clear g4
          refine zgo ?_
          exact zfin
        · by_cases g4 : 9007199254740991 < n + q
          · have h6 : F = (0, 0, 3) := by rw [h5, if_pos (.inr g4)]
            rw [h6]
            clear h5 h6
            by_cases g5 : b = 0
            · have g6 : ¬ (0 : Int) < k := by omega
              clear g3
              have hb0 : (b == (0 : Int)) = true := by rw [g5]; rfl
              clear g5
              refine zgo ?_
              exact zfin
            · clear g3
              refine zgo ?_
              exact zfin
          · have h6 : F = (n + q, k + 1, 0) := by rw [h5, if_neg (by omega)]
            rw [h6]
            clear h5 h6
            have c3 := cloneB_p (src.drop (k + 1)) (by rw [List.length_drop]; omega)
            have e3 : (src.drop (k + 1)).take (src.length - (k + 1)) = src.drop (k + 1) := List.take_of_length_le (by rw [List.length_drop]; omega)
            by_cases g5 : b = 0
            · have g6 : ¬ (0 : Int) < k := by omega
              clear g3
              have hb0 : (b == (0 : Int)) = true := by rw [g5]; rfl
              clear g5
              refine zgo ?_
              exact zfin
            · clear g3
              refine zgo ?_
              exact zfin
    · refine zgo ?_
      have h9 : F = (0, 0, 10) := by rw [← h2, show 8 - k = (7 - k) + 1 by omega]; rw [numG_succ, if_neg g1]
      rw [h9]
      exact zfin
  · have h9 : F = (0, 0, 3) := by rw [← hR.2.1, Nat.sub_self, numG_zero]
    refine zgo ?_
    rw [h9]
    exact zfin
end Go.Proofs.YtkghiceeegindaaGreatDoor
namespace Go.Proofs.YtkghiceeegindaaGreatDoor
open Go.Proofs Go.AL
set_option maxRecDepth 100000
set_option maxHeartbeats 1000000
set_option linter.unusedVariables false
set_option linter.unusedSimpArgs false
attribute [local irreducible] endA AW aops thenA blockA hold
attribute [local irreducible] numG
theorem intE_ok {src : List Int} (hb : ∀ x ∈ src, ByteOK x) : (∀ x ∈ (intE src).2.1, ByteOK x) ∧ (intE src).2.1.length ≤ src.length := by
  unfold intE
  split
  · exact ⟨fun x hx => hb x (List.mem_of_mem_drop hx), by simp⟩
  · exact ⟨fun x hx => by simp at hx, by simp⟩
def numsE (b : List Int) : (Int × Int × Int) × Int :=
  if (intE b).2.2 = 0 then
    if (intE (intE b).2.1).2.2 = 0 then
      if (intE (intE (intE b).2.1).2.1).2.2 = 0 then
        if 0 < (intE (intE (intE b).2.1).2.1).2.1.length then ((0, 0, 0), 3) else (((intE b).1, (intE (intE b).2.1).1, (intE (intE (intE b).2.1).2.1).1), 0)
      else ((0, 0, 0), (intE (intE (intE b).2.1).2.1).2.2)
    else ((0, 0, 0), (intE (intE b).2.1).2.2)
  else ((0, 0, 0), (intE b).2.2)
end Go.Proofs.YtkghiceeegindaaGreatDoor
namespace Go.Proofs.YtkghiceeegindaaGreatDoor
open Go.Proofs Go.AL
set_option maxRecDepth 100000
set_option maxHeartbeats 1000000
set_option linter.unusedVariables false
set_option linter.unusedSimpArgs false
attribute [local irreducible] endA AW aops thenA blockA hold
def loadE (d : Dsk) (l : List Int) (s a : Int) : Rep × Int :=
  if layE l s a = 0 then
    if (findE d s).2.2.2.2 = 0 then
      if (d.st.length : Int) < a + sum l then (rep0, 2)
      else if (numsE (findE d s).2.2.1).2 = 0 then
        if repE ⟨l, s, a, (numsE (findE d s).2.2.1).1.1, (numsE (findE d s).2.2.1).1.2.1, (numsE (findE d s).2.2.1).1.2.2⟩ = 0 then (⟨l, s, a, (numsE (findE d s).2.2.1).1.1, (numsE (findE d s).2.2.1).1.2.1, (numsE (findE d s).2.2.1).1.2.2⟩, 0)
        else (rep0, repE ⟨l, s, a, (numsE (findE d s).2.2.1).1.1, (numsE (findE d s).2.2.1).1.2.1, (numsE (findE d s).2.2.1).1.2.2⟩)
      else (rep0, (numsE (findE d s).2.2.1).2)
    else (rep0, (findE d s).2.2.2.2)
  else (rep0, layE l s a)
theorem parseS_byte {l : List Sec} (h : ∀ s ∈ l, SecOK s) : ∀ x ∈ (parseS l).1, ByteOK x := by
  have hd : ∀ x ∈ dataS l, ByteOK x := fun x hx => by
    obtain ⟨s, hs, hx⟩ := List.mem_flatMap.1 hx
    exact (h s hs).2 x hx
  unfold parseS
  split
  · split
    · intro x hx; simp at hx
    · split
      · exact fun x hx => hd x (List.mem_of_mem_drop (List.mem_of_mem_take hx))
      · intro x hx; simp at hx
  · intro x hx; simp at hx
theorem findE_pay {d : Dsk} {a : Int} (hk : ∀ s ∈ newL d.st d.ca, SecOK s) : (∀ x ∈ (findE d a).2.2.1, ByteOK x) ∧ (findE d a).2.2.1.length ≤ 31 := by
  have hk2 : ∀ s ∈ sbL d a, SecOK s := fun s hs => hk s (List.mem_of_mem_drop (List.mem_of_mem_take hs))
  have h1 := parseS_byte (l := (sbL d a).take 8) fun s hs => hk2 s (List.mem_of_mem_take hs)
  have h2 := parseS_byte (l := (sbL d a).drop 8) fun s hs => hk2 s (List.mem_of_mem_drop hs)
  have h3 := parseS_len ((sbL d a).take 8)
  have h4 := parseS_len ((sbL d a).drop 8)
  unfold findE
  split
  · split
    · exact ⟨fun x hx => by simp at hx, by simp⟩
    · split
      · exact ⟨fun x hx => by simp at hx, by simp⟩
      · split
        · exact ⟨h2, h4⟩
        · exact ⟨h1, h3⟩
  · exact ⟨fun x hx => by simp at hx, by simp⟩
theorem layE_ok {l : List Int} {s a : Int} (g : layE l s a = 0) : sizesE l = 0 ∧ 0 ≤ s ∧ s ≤ 4080 ∧ 0 ≤ a ∧ a ≤ 4096 - sum l ∧ ¬ (s < a + sum l ∧ a < s + 16) := by
  unfold layE at g
  by_cases h : sizesE l = 0
  · rw [if_pos h] at g
    split at g
    · exact absurd g (by decide)
    · split at g
      · exact absurd g (by decide)
      · exact ⟨h, by omega, by omega, by omega, by omega, by assumption⟩
  · rw [if_neg h] at g; exact absurd g h
end Go.Proofs.YtkghiceeegindaaGreatDoor
namespace Go.Proofs.YtkghiceeegindaaGreatDoor
open Go.Proofs Go.AL
set_option maxRecDepth 100000
set_option maxHeartbeats 1000000
set_option linter.unusedVariables false
set_option linter.unusedSimpArgs false
attribute [local irreducible] endA AW aops thenA blockA hold
theorem load_n (d : Dsk) (l : List Int) (s a : Int) (hne : l ≠ []) (hl : l.length ≤ 1000000) (hs : d.st.length ≤ 1000000) (h2 : d.ca.length ≤ 1000000) (hk : ∀ s ∈ newL d.st d.ca, SecOK s) : PC 14 [.agg (encD d), .snap (encL intRow l), zV s, zV a] (.tup [.agg (encR (loadE d l s a).1), zV (loadE d l s a).2]) := by
  refine pstart Tryz.func14 Tryz.ntmps14 (by simp only [go_sem, encR]) ?_
  have c1 := layout_p ⟨l, s, a, 0, 0, 0⟩ hl
  have c2 := load_p d s hs h2 hk
  have c3 := end_p ⟨l, s, a, 0, 0, 0⟩ hl
  have c7 := cloneI_o l hne hl
  obtain ⟨p1, p2⟩ := findE_pay (a := s) hk
  obtain ⟨M, hM⟩ : ∃ M, loadE d l s a = M := ⟨_, rfl⟩
  rw [hM]
  unfold loadE numsE at hM
  unfold encD at c2 ⊢
  generalize findE d s = F at *
  obtain ⟨F1, F2, P, F4, fe⟩ := F
  simp only [] at *
  clear hk
  have c4 := int_p P p1 (by omega)
  obtain ⟨o1, o2⟩ := intE_ok p1
  have c5 := int_p _ o1 (by omega)
  obtain ⟨o3, o4⟩ := intE_ok o1
  have c6 := int_p _ o3 (by omega)
  have o5 := (intE_ok o3).2
  generalize intE (intE (intE P).2.1).2.1 = Z at *
  generalize intE (intE P).2.1 = Y at *
  generalize intE P = X at *
  obtain ⟨x, xr, xe⟩ := X
  obtain ⟨y, yr, ye⟩ := Y
  obtain ⟨z, zr, ze⟩ := Z
  simp only [] at *
  clear o1 o3 p1
  unfold rep0 at hM
  unfold encR at c1 c3 ⊢
  simp only [] at *
  refine zgo ?_
  refine zin Tryz.func47 Tryz.ntmps47 ?_
  refine zgo ?_
  by_cases g1 : layE l s a = 0
  · obtain ⟨y1, y2, y3, y4, y5, y6⟩ := layE_ok g1
    obtain ⟨h1, h3, h4⟩ := sum_ok y1
    rw [h1] at c3
    rw [g1] at c1
    clear y6 y1 h1
    rw [if_pos g1] at hM
    have w1 : IntKind.i64.wrap (a + sum l) = a + sum l := IntWalk.i64_in _ (by omega)
    by_cases g2 : fe = 0
    · subst g2
      rw [if_pos rfl] at hM
      by_cases g3 : (d.st.length : Int) < a + sum l
      · rw [if_pos g3] at hM
        subst hM
        refine zgo ?_
        exact zfin
      · rw [if_neg g3] at hM
        by_cases e1 : xe = 0
        · subst e1
          by_cases e2 : ye = 0
          · subst e2
            by_cases e3 : ze = 0
            · subst e3
              by_cases e4 : 0 < zr.length
              · have e5 : (0 : Int) < zr.length := by omega
                simp only [if_true, if_pos e4] at hM
                rw [if_neg (by decide)] at hM
                subst hM
                refine zgo ?_
                refine zin Tryz.func62 Tryz.ntmps62 ?_
                refine zgo ?_
                refine w_rounds 4 ?_
                refine w_round ?_
                refine zgo ?_
                exact zfin
              · have e5 : ¬ (0 : Int) < zr.length := by omega
                have c8 := check_p ⟨l, s, a, x, y, z⟩ hl
                unfold encR at c8
                simp only [if_true, if_neg e4] at hM c8
                generalize repE ⟨l, s, a, x, y, z⟩ = re at *
                by_cases g5 : re = 0
                · subst g5
                  simp only [if_true] at hM
                  subst hM
                  refine zgo ?_
                  refine zin Tryz.func62 Tryz.ntmps62 ?_
                  refine zgo ?_
                  refine w_rounds 4 ?_
                  refine w_round ?_
                  refine zgo ?_
                  exact zfin
                · rw [if_neg g5] at hM
                  subst hM
                  refine zgo ?_
                  refine zin Tryz.func62 Tryz.ntmps62 ?_
                  refine zgo ?_
                  refine w_rounds 4 ?_
                  refine w_round ?_
                  refine zgo ?_
                  exact zfin
            · simp only [if_true, if_neg e3] at hM
              subst hM
              refine zgo ?_
              refine zin Tryz.func62 Tryz.ntmps62 ?_
              refine zgo ?_
              refine w_rounds 4 ?_
              refine w_round ?_
              refine zgo ?_
              exact zfin
          · simp only [if_true, if_neg e2] at hM
            subst hM
            refine zgo ?_
            refine zin Tryz.func62 Tryz.ntmps62 ?_
            refine zgo ?_
            refine w_rounds 4 ?_
            refine w_round ?_
            refine zgo ?_
            exact zfin
        · simp only [if_true, if_neg e1] at hM
          subst hM
          refine zgo ?_
          refine zin Tryz.func62 Tryz.ntmps62 ?_
          refine zgo ?_
          refine w_rounds 4 ?_
          refine w_round ?_
          refine zgo ?_
          exact zfin
    · rw [if_neg g2] at hM
      subst hM
      refine zgo ?_
      exact zfin
  · rw [if_neg g1] at hM
    subst hM
    refine zgo ?_
    exact zfin
theorem load_e (d : Dsk) (s a : Int) (b : Option Addr) (cap : Nat) : PC 14 [.agg (encD d), .c (.slice b 0 cap), zV s, zV a] (.tup [.agg (encR (loadE d [] s a).1), zV (loadE d [] s a).2]) := by
  refine pstart Tryz.func14 Tryz.ntmps14 (by simp only [go_sem, encR]) ?_
  have c1 := layout_p ⟨[], s, a, 0, 0, 0⟩ (Nat.zero_le _)
  have c4 := cloneI_e b cap
  have g1 : layE [] s a = 6 := rfl
  have g2 : loadE d [] s a = (rep0, 6) := by unfold loadE; rw [g1]; rfl
  rw [g2]
  unfold encD
  refine zgo ?_
  refine zin Tryz.func47 Tryz.ntmps47 ?_
  refine zgo ?_
  unfold encR at c1 ⊢
  simp only [] at c1
  unfold rep0
  refine zgo ?_
  exact zfin
theorem aload_p (d : Dsk) (l : List Int) (s a : Int) (hl : l.length ≤ 1000000) (hs : d.st.length ≤ 1000000) (h2 : d.ca.length ≤ 1000000) (hk : ∀ s ∈ newL d.st d.ca, SecOK s) : PC 14 [.agg (encD d), .snap (encL intRow l), zV s, zV a] (.tup [.agg (encR (loadE d l s a).1), zV (loadE d l s a).2]) := by
  by_cases h : l = []
  · subst h
    exact PCall.nil (pre := [.agg (encD d)]) (post := [zV s, zV a]) (load_e d s a)
  · exact load_n d l s a h hl hs h2 hk
end Go.Proofs.YtkghiceeegindaaGreatDoor
namespace Go.Proofs.YtkghiceeegindaaGreatDoor
open Go.Proofs Go.AL
set_option maxRecDepth 100000
set_option maxHeartbeats 1000000
set_option linter.unusedVariables false
set_option linter.unusedSimpArgs false
attribute [local irreducible] endA AW aops thenA blockA hold
def putC : Int → List Sec → List (Int × Sec)
  | _, [] => []
  | a, s :: l => (a, s) :: putC (a + 1) l
theorem putC_len : ∀ (a : Int) (l : List Sec), (putC a l).length = l.length
  | _, [] => rfl
  | a, s :: l => by simp [putC, putC_len (a + 1) l]
theorem putC_snoc : ∀ (a : Int) (l : List Sec) (s : Sec), putC a (l ++ [s]) = putC a l ++ [(a + l.length, s)]
  | a, [], s => by simp [putC]
  | a, x :: l, s => by
    simp only [List.cons_append, putC, putC_snoc (a + 1) l s, List.length_cons]
    rw [show a + 1 + (l.length : Int) = a + ((l.length + 1 : Nat) : Int) by omega]
theorem putC_succ {a : Int} {l : List Sec} {k : Nat} (h : k < l.length) : putC a (l.take k) ++ [(a + k, l.getD k zSec)] = putC a (l.take (k + 1)) := by
  rw [List.take_succ_eq_append_getElem h, putC_snoc, List.length_take, Nat.min_eq_left (by omega), List.getD_eq_getElem?_getD, List.getElem?_eq_getElem h]
  rfl
theorem putC_in : ∀ (a : Int) (l : List Sec) (n : Nat), 0 ≤ a → a + l.length ≤ n → ∀ c ∈ putC a l, badC n c = false
  | _, [], _, _, _, c, hc => by simp [putC] at hc
  | a, s :: l, n, h0, h1, c, hc => by
    simp only [putC, List.mem_cons, List.length_cons] at hc h1
    rcases hc with rfl | hc
    · unfold badC; rw [dec_ltF (by simp only []; omega), dec_leF (by simp only []; omega)]; rfl
    · exact putC_in (a + 1) l n (by omega) (by omega) c hc
def dsk0 : Dsk := ⟨[], []⟩
def writeE (d : Dsk) (a : Int) (l : List Sec) : Dsk × Int :=
  if dskE d = 0 then (if insB d a l.length = true then (⟨d.st, d.ca ++ putC a l⟩, 0) else (dsk0, 2)) else (dsk0, dskE d)
theorem insB_ok {d : Dsk} {a : Int} {n : Nat} (h : insB d a n = true) : 0 ≤ a ∧ a + n ≤ d.st.length := by
  simp only [insB, Bool.and_eq_true, decide_eq_true_eq] at h
  omega
theorem dskE_put {d : Dsk} {a : Int} {l : List Sec} (h : dskE d = 0) (hi : insB d a l.length = true) : dskE ⟨d.st, d.ca ++ putC a l⟩ = 0 := by
  obtain ⟨h1, h2⟩ := dskE_ok h
  obtain ⟨h3, h4⟩ := insB_ok hi
  unfold dskE
  rw [if_neg (by simp only []; omega), if_neg]
  simp only [List.any_append, Bool.or_eq_true, not_or, Bool.not_eq_true, List.any_eq_false]
  refine ⟨fun c hc => ?_, fun c hc => by rw [putC_in a l _ h3 h4 c hc]⟩
  have := h2 c hc
  unfold badC; rw [dec_ltF (by omega), dec_leF (by omega)]; rfl
@[go_sem] theorem ca_flat (x : Int) (s : Sec) : (encL encCa [(x, s)]).flatten = zV x :: encSec s := by simp [encL, encCa]
@[go_sem] theorem ca_take (v : Value) (s : Sec) : List.take 9 (AV.c v :: (encSec s ++ [])) = AV.c v :: encSec s := rfl
@[go_sem] theorem ca_take2 (v : Value) (s : Sec) : List.take 9 (AV.c v :: encSec s) = AV.c v :: encSec s := rfl
@[go_sem] theorem ca_drop (v : Value) (s : Sec) : List.drop 9 (AV.c v :: encSec s) = [] := rfl
def SlOK (e : TypeId) (k : Nat) (rows : List (List AV)) (lo no m : Nat) (v : AV) (T : List (Nat × Option Blk)) : Prop :=
  (v = .c (.slice none 0 0) ∧ T = [] ∧ rows = []) ∨ ∃ id, lo ≤ id ∧ id ≠ no ∧ id < m ∧ v = .own id 0 rows.length ∧ T = [(id, some (.cells e k rows true true))]
end Go.Proofs.YtkghiceeegindaaGreatDoor
namespace Go.Proofs.YtkghiceeegindaaGreatDoor
open Go.Proofs Go.AL
set_option maxRecDepth 100000
set_option maxHeartbeats 1000000
set_option linter.unusedVariables false
set_option linter.unusedSimpArgs false
attribute [local irreducible] endA AW aops thenA blockA hold
theorem dskE_len {st : List Sec} {st2 : List Sec} (h : st.length ≤ 4096) (h2 : st2.length = st.length) : dskE ⟨st2, []⟩ = 0 := by
  unfold dskE
  rw [if_neg (by simp only []; omega)]
  rfl
abbrev Opr := Int × Int × List Sec
def zOp : Opr := (0, 0, [])
theorem gO (l : List Opr) (k : Nat) (h : k < l.length) : (encL opRow l)[k]? = some (opRow (l.getD k zOp)) := encL_get zOp h
def runG : List Opr → Dsk → Nat → Dsk × Int × Int
  | [], d, i => (d, i, 0)
  | o :: r, d, i =>
    if o.1 = 0 then (if (writeE d o.2.1 o.2.2).2 = 0 then runG r (writeE d o.2.1 o.2.2).1 (i + 1) else (dsk0, i, (writeE d o.2.1 o.2.2).2))
    else if o.1 = 1 then runG r ⟨newL d.st d.ca, []⟩ (i + 1)
    else (dsk0, i, 1)
def runE (d : Dsk) (ops : List Opr) : Dsk × Int × Int := if dskE d = 0 then runG ops d 0 else (dsk0, 0, dskE d)
theorem drop_at {α : Type} {l : List α} {k : Nat} (z : α) (h : k < l.length) : l.drop k = l.getD k z :: l.drop (k + 1) := by
  rw [List.drop_eq_getElem_cons h, List.getD_eq_getElem?_getD, List.getElem?_eq_getElem h]
  rfl
def RunI (d : Dsk) (ops : List Opr) (k : Nat) (x : Dsk) : Prop :=
  dskE x = 0 ∧ x.st.length = d.st.length ∧ x.ca.length ≤ d.ca.length + k * 4096 ∧ runG (ops.drop k) x k = runG ops d 0
theorem RunI.write {d : Dsk} {ops : List Opr} {k : Nat} {x : Dsk} (h : RunI d ops k x) (hk : k < ops.length) (h0 : (ops.getD k zOp).1 = 0) (hi : insB x (ops.getD k zOp).2.1 (ops.getD k zOp).2.2.length = true) : RunI d ops (k + 1) ⟨x.st, x.ca ++ putC (ops.getD k zOp).2.1 (ops.getD k zOp).2.2⟩ := by
  obtain ⟨h1, h2, h3, h4⟩ := h
  obtain ⟨q1, q2⟩ := dskE_ok h1
  obtain ⟨q3, q4⟩ := insB_ok hi
  refine ⟨dskE_put h1 hi, h2, ?_, ?_⟩
  · simp only [List.length_append, putC_len]; omega
  · rw [← h4, drop_at zOp hk]
    simp only [runG]
    rw [if_pos h0]
    unfold writeE
    rw [if_pos h1, if_pos hi, if_pos rfl]
theorem RunI.sync {d : Dsk} {ops : List Opr} {k : Nat} {x : Dsk} (h : RunI d ops k x) (hk : k < ops.length) (h0 : (ops.getD k zOp).1 = 1) : RunI d ops (k + 1) ⟨newL x.st x.ca, []⟩ := by
  obtain ⟨h1, h2, h3, h4⟩ := h
  obtain ⟨q1, q2⟩ := dskE_ok h1
  refine ⟨dskE_len q1 (newL_len _ _), by rw [newL_len]; exact h2, by simp, ?_⟩
  · rw [← h4, drop_at zOp hk]
    simp only [runG]
    rw [if_neg (by rw [h0]; decide), if_pos h0]
theorem RunI.bad {d : Dsk} {ops : List Opr} {k : Nat} {x : Dsk} (h : RunI d ops k x) (hk : k < ops.length) (h0 : (ops.getD k zOp).1 ≠ 0) (h5 : (ops.getD k zOp).1 ≠ 1) : runG ops d 0 = (dsk0, (k : Int), 1) := by
  obtain ⟨h1, h2, h3, h4⟩ := h
  rw [← h4, drop_at zOp hk]
  simp only [runG]
  rw [if_neg h0, if_neg h5]
theorem RunI.out {d : Dsk} {ops : List Opr} {k : Nat} {x : Dsk} (h : RunI d ops k x) (hk : k < ops.length) (h0 : (ops.getD k zOp).1 = 0) (hi : insB x (ops.getD k zOp).2.1 (ops.getD k zOp).2.2.length = false) : runG ops d 0 = (dsk0, (k : Int), 2) := by
  obtain ⟨h1, h2, h3, h4⟩ := h
  rw [← h4, drop_at zOp hk]
  simp only [runG]
  rw [if_pos h0]
  unfold writeE
  rw [if_pos h1, hi]
  rfl
theorem RunI.fin {d : Dsk} {ops : List Opr} {x : Dsk} (h : RunI d ops ops.length x) : runG ops d 0 = (x, (ops.length : Int), 0) := by
  obtain ⟨h1, h2, h3, h4⟩ := h
  rw [← h4, List.drop_length]
  rfl
end Go.Proofs.YtkghiceeegindaaGreatDoor
namespace Go.Proofs.YtkghiceeegindaaGreatDoor
open Go.Proofs Go.AL
set_option maxRecDepth 100000
set_option maxHeartbeats 1000000
set_option linter.unusedVariables false
set_option linter.unusedSimpArgs false
attribute [local irreducible] endA AW aops thenA blockA hold
theorem cloneC_o (l : List (Int × Sec)) (h : l ≠ []) (hl : l.length ≤ 1000000) : OCall Tryz.prog 151 [.snap (encL encCa l)] 193 9 (encL encCa l) := by
  refine ostart Tryz.func151 Tryz.ntmps151 (by simp only [go_sem]) (encL_ids l) ?_
  have h1 := isEmpty_f h
  refine zgo ?_
  exact ⟨1, by simp only [go_sem], by simp only [go_sem]⟩
theorem cloneC_n (cap : Nat) : PC 151 [.c (.slice none 0 cap)] (.c (.slice none 0 0)) := by
  refine pstart Tryz.func151 Tryz.ntmps151 (.c _) ?_
  refine zgo ?_
  exact zfin
theorem cloneC_s (a : Addr) (cap : Nat) : OCall Tryz.prog 151 [.c (.slice (some a) 0 cap)] 193 9 [] := by
  refine ostart Tryz.func151 Tryz.ntmps151 (by simp only [go_sem]) (fun _ h => by simp at h) ?_
  refine zgo ?_
  exact ⟨1, by simp only [go_sem, List.length_nil], by simp only [go_sem]⟩
def CaV (p : Nat → Prop) (ca : List (Int × Sec)) (m : Nat) (v : AV) (T : List (Nat × Option Blk)) : Prop :=
  (v = .c (.slice none 0 0) ∧ T = [] ∧ ca = []) ∨ ∃ id, p id ∧ id < m ∧ v = .own id 0 ca.length ∧ T = [(id, some (.cells 193 9 (encL encCa ca) true true))]
theorem write_a (X K m0 : Nat) (d : Dsk) (cav : AV) (T : List (Nat × Option Blk)) (a : Int) (l : List Sec) (hX : 2 ≤ X) (hK : 2 ≤ K) (hXK : X ≠ K) (hXm : X < m0) (hKm : K < m0) (hc : CaV (fun id => 2 ≤ id ∧ id ≠ X ∧ id ≠ K) d.ca m0 cav T) (h1 : d.st.length ≤ 4096) (h2 : d.ca.length ≤ 900000) :
    ACall Tryz.prog 152 [.ptr X 0 0, .agg (opRow (0, a, l))] ⟨m0, tabG ((X, some (.cells 186 2 [[.snap (encL encSec d.st), cav]] true false)) :: (1, some (.cells 25 2 [[.c (.slice none 0 0), .c (.slice none 0 0)]] true false)) :: (K, some (.cells 233 2 [[.fn (.func 152) [.ptr X 0 0] [], .fn (.func 153) [.ptr X 0 0] []]] true false)) :: T)⟩
      (fun r H' => ∃ m', m0 ≤ m' ∧ ((insB d a l.length = true ∧ ∃ cav' T', r = zV 0 ∧ H' = ⟨m', tabG ((X, some (.cells 186 2 [[.snap (encL encSec d.st), cav']] true false)) :: (1, some (.cells 25 2 [[.c (.slice none 0 0), .c (.slice none 0 0)]] true false)) :: (K, some (.cells 233 2 [[.fn (.func 152) [.ptr X 0 0] [], .fn (.func 153) [.ptr X 0 0] []]] true false)) :: T')⟩ ∧ CaV (fun id => 2 ≤ id ∧ id ≠ X ∧ id ≠ K) (d.ca ++ putC a l) m' cav' T') ∨ (insB d a l.length = false ∧ r = zV 2 ∧ H' = ⟨m', tabG ((X, some (.cells 186 2 [[.snap (encL encSec d.st), cav]] true false)) :: (1, some (.cells 25 2 [[.c (.slice none 0 0), .c (.slice none 0 0)]] true false)) :: (K, some (.cells 233 2 [[.fn (.func 152) [.ptr X 0 0] [], .fn (.func 153) [.ptr X 0 0] []]] true false)) :: T)⟩))) := by
  refine astartW Tryz.func152 Tryz.ntmps152 ?_
  have hg := gS l
  unfold opRow
  simp only []
  obtain ⟨st, ca⟩ := d
  have c1 : FC 122 [.agg (encD ⟨st, ca⟩), zV a, zV (l.length : Int)] (bV (insB ⟨st, ca⟩ a l.length)) := FCall.ofK (inside_p ⟨st, ca⟩ a l.length (by simp only [] at h1 ⊢; omega)) rfl
  simp only [] at *
  unfold encD at c1
  simp only [] at c1
  rcases hc with ⟨e1, e2, e3⟩ | ⟨id, ⟨i0, i1, i2⟩, i3, e1, e2⟩
  · subst e1 e2 e3
    have c2 : FC 122 [.agg [.snap (encL encSec st), .c (.slice none 0 0)], zV a, zV (l.length : Int)] (bV (insB ⟨st, []⟩ a l.length)) := c1.less (wks_cons (wk_agg (wks_cons (.refl _) (wks_cons .nil wks_nil))) (wks_refl _))
    clear c1
    cases hi : insB ⟨st, []⟩ a l.length with
    | false =>
      rw [hi] at c2
      clear hi
      refine zgo2 ?_
      refine ⟨⟨m0 + 40, _⟩, ⟨m0 + 40, by omega, .inr ⟨rfl, rfl, rfl⟩⟩, ?_⟩
      exact zholds
    | true =>
      obtain ⟨g2, g3⟩ := insB_ok hi
      simp only [] at g3
      rw [hi] at c2
      clear hi
      refine zgo2 ?_
      refine zfor (α := AV × List (Nat × Option Blk)) l.length (fun k x => [(21, true, zV k), (20, true, zV l.length), (19, true, .snap (encL encSec l)), (4, true, zV 0), (3, true, .ptr m0 0 0), (0, true, .ptr X 0 0)]) (fun k x => (X, some (.cells 186 2 [[.snap (encL encSec st), x.1]] true false)) :: (1, some (.cells 25 2 [[.c (.slice none 0 0), .c (.slice none 0 0)]] true false)) :: (K, some (.cells 233 2 [[.fn (.func 152) [.ptr X 0 0] [], .fn (.func 153) [.ptr X 0 0] []]] true false)) :: (m0, some (.cells 94 3 [[zV 0, zV a, .snap (encL encSec l)]] true false)) :: x.2) (fun k m x => m0 + 12 ≤ m ∧ CaV (fun id => 2 ≤ id ∧ id ≠ X ∧ id ≠ K ∧ id ≠ m0) ([] ++ putC a (l.take k)) m x.1 x.2) ⟨m0 + 12, (.c (.slice none 0 0), []), ?_, ?_⟩ (fun k m x hk hR => ?_) (fun m x hR => ?_)
      · exact ⟨Nat.le_refl _, .inl ⟨rfl, rfl, rfl⟩⟩
      · exact zholds
      · obtain ⟨cv, T⟩ := x
        obtain ⟨hm, hS⟩ := hR
        have h5 := putC_succ (a := a) hk
        have h8 : [] ++ putC a (l.take k) ++ [(a + (k : Int), l.getD k zSec)] = [] ++ putC a (l.take (k + 1)) := by rw [List.append_assoc, h5]
        have w2 : IntKind.i64.wrap (a + (k : Int)) = a + (k : Int) := IntWalk.i64_in _ (by omega)
        have h6 : (putC a (l.take k)).length ≤ 4096 := by rw [putC_len, List.length_take]; omega
        rcases hS with ⟨e1, e2, e3⟩ | ⟨id, ⟨q0, q1, q2, q3⟩, hidm, e1, e2⟩
        · simp only [] at e1 e2
          subst e1 e2
          have e4 : putC a (l.take k) = [] := e3
          rw [e4, List.nil_append] at h5
          have h9 : Lat ([(a + (k : Int), l.getD k zSec)] = putC a (l.take (k + 1))) := ⟨h5⟩
          clear e3 e4 h6 h5 h8
          refine zgo2 ?_
          refine ⟨m + 40, ⟨.own (m + 1 + 1 + 13) 0 1, [(m + 1 + 1 + 13, some (.cells 193 9 (encL encCa [(a + (k : Int), l.getD k zSec)]) true true))]⟩, ⟨by omega, .inr ⟨m + 1 + 1 + 13, ⟨by omega, by omega, by omega, by omega⟩, by omega, by rw [← h9.out]; rfl, by rw [← h9.out]; rfl⟩⟩, ?_⟩
          exact zholds
        · simp only [] at e1 e2
          subst e1 e2
          clear h8
          refine zgo2 ?_
          have h7 : (putC a (l.take (k + 1))).length = (putC a (l.take k)).length + 1 := by rw [putC_len, putC_len, List.length_take, List.length_take]; omega
          refine ⟨m + 40, ⟨.own (m + 1 + 1 + 13) 0 ([] ++ putC a (l.take (k + 1))).length, [(m + 1 + 1 + 13, some (.cells 193 9 (encL encCa ([] ++ putC a (l.take (k + 1)))) true true))]⟩, ⟨by omega, .inr ⟨m + 1 + 1 + 13, ⟨by omega, by omega, by omega, by omega⟩, by omega, rfl, rfl⟩⟩, ?_⟩
          exact zholds
      · rw [List.take_length] at hR
        obtain ⟨cv, T⟩ := x
        obtain ⟨hm, hS⟩ := hR
        rcases hS with ⟨e1, e2, e3⟩ | ⟨id, ⟨q0, q1, q2, q3⟩, hidm, e1, e2⟩
        · simp only [] at e1 e2
          subst e1 e2
          have e4 : putC a l = [] := e3
          rw [e4]
          clear e3 e4
          refine zgo2 ?_
          refine ⟨⟨m + 40, _⟩, ⟨m + 40, by omega, .inl ⟨rfl, _, _, rfl, rfl, .inl ⟨rfl, rfl, rfl⟩⟩⟩, ?_⟩
          exact zholds
        · simp only [] at e1 e2
          subst e1 e2
          refine zgo2 ?_
          refine ⟨⟨m + 40, _⟩, ⟨m + 40, by omega, .inl ⟨rfl, _, _, rfl, rfl, .inr ⟨id, ⟨q0, q1, q2⟩, by omega, rfl, rfl⟩⟩⟩, ?_⟩
          exact zholds
  · subst e1 e2
    cases hi : insB ⟨st, ca⟩ a l.length with
    | false =>
      rw [hi] at c1
      clear hi
      refine zgo2 ?_
      refine ⟨⟨m0 + 40, _⟩, ⟨m0 + 40, by omega, .inr ⟨rfl, rfl, rfl⟩⟩, ?_⟩
      exact zholds
    | true =>
      obtain ⟨g2, g3⟩ := insB_ok hi
      simp only [] at g3
      rw [hi] at c1
      clear hi
      refine zgo2 ?_
      refine zfor (α := AV × List (Nat × Option Blk)) l.length (fun k x => [(21, true, zV k), (20, true, zV l.length), (19, true, .snap (encL encSec l)), (4, true, zV 0), (3, true, .ptr m0 0 0), (0, true, .ptr X 0 0)]) (fun k x => (X, some (.cells 186 2 [[.snap (encL encSec st), x.1]] true false)) :: (1, some (.cells 25 2 [[.c (.slice none 0 0), .c (.slice none 0 0)]] true false)) :: (K, some (.cells 233 2 [[.fn (.func 152) [.ptr X 0 0] [], .fn (.func 153) [.ptr X 0 0] []]] true false)) :: (m0, some (.cells 94 3 [[zV 0, zV a, .snap (encL encSec l)]] true false)) :: x.2) (fun k m x => m0 + 12 ≤ m ∧ ∃ id, (2 ≤ id ∧ id ≠ X ∧ id ≠ K ∧ id ≠ m0) ∧ id < m ∧ x.1 = .own id 0 (ca ++ putC a (l.take k)).length ∧ x.2 = [(id, some (.cells 193 9 (encL encCa (ca ++ putC a (l.take k))) true true))]) ⟨m0 + 12, (.own id 0 ca.length, [(id, some (.cells 193 9 (encL encCa ca) true true))]), ?_, ?_⟩ (fun k m x hk hR => ?_) (fun m x hR => ?_)
      · exact ⟨Nat.le_refl _, ⟨id, ⟨i0, i1, i2, by omega⟩, by omega, by simp [putC], by simp [putC]⟩⟩
      · exact zholds
      · obtain ⟨cv, T⟩ := x
        obtain ⟨hm, hS⟩ := hR
        have h5 := putC_succ (a := a) hk
        have h8 : ca ++ putC a (l.take k) ++ [(a + (k : Int), l.getD k zSec)] = ca ++ putC a (l.take (k + 1)) := by rw [List.append_assoc, h5]
        have w2 : IntKind.i64.wrap (a + (k : Int)) = a + (k : Int) := IntWalk.i64_in _ (by omega)
        have h6 : (putC a (l.take k)).length ≤ 4096 := by rw [putC_len, List.length_take]; omega
        obtain ⟨id, ⟨q0, q1, q2, q3⟩, hidm, e1, e2⟩ := hS
        · simp only [] at e1 e2
          subst e1 e2
          clear h5
          refine zgo2 ?_
          have h7 : (putC a (l.take (k + 1))).length = (putC a (l.take k)).length + 1 := by rw [putC_len, putC_len, List.length_take, List.length_take]; omega
          refine ⟨m + 40, ⟨.own (m + 1 + 1 + 13) 0 (ca ++ putC a (l.take (k + 1))).length, [(m + 1 + 1 + 13, some (.cells 193 9 (encL encCa (ca ++ putC a (l.take (k + 1)))) true true))]⟩, ⟨by omega, ⟨m + 1 + 1 + 13, ⟨by omega, by omega, by omega, by omega⟩, by omega, rfl, rfl⟩⟩, ?_⟩
          exact zholds
      · rw [List.take_length] at hR
        obtain ⟨cv, T⟩ := x
        obtain ⟨hm, hS⟩ := hR
        obtain ⟨id, ⟨q0, q1, q2, q3⟩, hidm, e1, e2⟩ := hS
        · simp only [] at e1 e2
          subst e1 e2
          refine zgo2 ?_
          refine ⟨⟨m + 40, _⟩, ⟨m + 40, by omega, .inl ⟨rfl, _, _, rfl, rfl, .inr ⟨id, ⟨q0, q1, q2⟩, by omega, rfl, rfl⟩⟩⟩, ?_⟩
          exact zholds
end Go.Proofs.YtkghiceeegindaaGreatDoor
namespace Go.Proofs.YtkghiceeegindaaGreatDoor
open Go.Proofs Go.AL
set_option maxRecDepth 100000
set_option maxHeartbeats 1000000
set_option linter.unusedVariables false
set_option linter.unusedSimpArgs false
attribute [local irreducible] endA AW aops thenA blockA hold
theorem topS_app {A B : List Sec} {k : Nat} (h : k < B.length) : max (topS (A ++ B.take k)) (genS (B.getD k zSec)) = topS (A ++ B.take (k + 1)) := by
  rw [List.take_succ_eq_append_getElem h]
  have e : B.getD k zSec = B[k] := by rw [List.getD_eq_getElem?_getD, List.getElem?_eq_getElem h]; rfl
  rw [e]
  simp only [topS, List.foldl_append, List.foldl_cons, List.foldl_nil]
theorem store_ok (d : Dsk) (a : Int) (p : List Int) (A B : List Sec) (x y : List Int) (gx gy N : Int) (hp : p.length ≤ 31) (hA : A.length = 8) (hB : B.length = 8) (h3 : 0 ≤ a) (h4 : a ≤ 1000000) (hN : N = 0 ∨ N = 1) (hk : ∀ s ∈ A ++ B, SecOK s) (hc : PC 105 [.agg (encD d), zV a] (.tup [.agg [zV gx, .snap (encL byteRow x), .snap (encL encSec A), zV gy, .snap (encL byteRow y), .snap (encL encSec B)], zV N, zV 0])) :
    PC 125 [.agg (encD d), zV a, .snap (encL byteRow p)] (.tup (if topS (A ++ B) = 4294967295 then [.snap (encL opRow []), zV 11] else [.snap (encL opRow [(0, a + 8 - 8 * N, putS (topS (A ++ B) + 1) p), (1, 0, [])]), zV 0])) := by
  refine pstartD Tryz.func125 Tryz.ntmps125 (by split <;> simp only [go_sem]) ?_
  have hT := topS_in _ hk
  have g2 : ¬ (31 : Int) < p.length := by omega
  have hgA := gS A
  have hgB := gS B
  have e0 : A.take 0 = [] := rfl
  have e2 : topS ([] : List Sec) = 0 := rfl
  unfold encD at hc ⊢
  refine zgo ?_
  refine w_rounds 3 ?_
  refine w_round ?_
  refine zgo ?_
  refine zfor1 8 40 [] (fun k => [(37, true, zV k), (36, true, zV 8), (35, true, .snap (encL encSec A)), (31, true, zV 0), (30, true, .agg [zV gx, .snap (encL byteRow x), .snap (encL encSec A), zV gy, .snap (encL byteRow y), .snap (encL encSec B)]), (11, true, zV (topS (A.take k))), (9, true, zV N), (1, true, zV a), (2, true, .snap (encL byteRow p))]) zholds (fun k m hkk hm => ?_) (fun m hm => ?_)
  · have hs := (hk (A.getD k zSec) (List.mem_append_left _ (getD_mem' zSec (by omega)))).1
    have c2 := generation_p (A.getD k zSec) hs
    have h7 := topS_succ (l := A) (k := k) (by omega)
    have h8 : (if genS (A.getD k zSec) > topS (A.take k) then genS (A.getD k zSec) else topS (A.take k)) = topS (A.take (k + 1)) := by
      rw [← h7]; split <;> omega
    clear hk hs h7
    refine zgo ?_
    refine ⟨m + 9, by omega, ?_⟩
    exact zholds
  · have e8 : A.take 8 = A := List.take_of_length_le (by omega)
    have e9 : topS (A ++ B.take 0) = topS A := by rw [List.take_zero, List.append_nil]
    rw [e8]
    refine zgo ?_
    refine zfor1 8 (m + 40) [] (fun k => [(37, true, zV k), (36, true, zV 8), (35, true, .snap (encL encSec B)), (31, true, zV 1), (30, true, .agg [zV gx, .snap (encL byteRow x), .snap (encL encSec A), zV gy, .snap (encL byteRow y), .snap (encL encSec B)]), (11, true, zV (topS (A ++ B.take k))), (9, true, zV N), (1, true, zV a), (2, true, .snap (encL byteRow p))]) zholds (fun k m hkk hm => ?_) (fun m hm => ?_)
    · have hs := (hk (B.getD k zSec) (List.mem_append_right _ (getD_mem' zSec (by omega)))).1
      have c2 := generation_p (B.getD k zSec) hs
      have h7 := topS_app (A := A) (B := B) (k := k) (by omega)
      have h8 : (if genS (B.getD k zSec) > topS (A ++ B.take k) then genS (B.getD k zSec) else topS (A ++ B.take k)) = topS (A ++ B.take (k + 1)) := by
        rw [← h7]; split <;> omega
      clear hk hs h7 e9 e8
      refine zgo ?_
      refine ⟨m + 9, by omega, ?_⟩
      exact zholds
    · have e10 : B.take 8 = B := List.take_of_length_le (by omega)
      rw [e10]
      clear hk e9 e8 e10 hgA hgB
      generalize topS (A ++ B) = T at *
      by_cases g3 : T = 4294967295
      · rw [if_pos g3]
        refine zgo ?_
        exact zfin
      · rw [if_neg g3]
        have c3 := put_p (T + 1) p hp
        have w1 : IntKind.i64.wrap (T + 1) = T + 1 := IntWalk.i64_in _ (by omega)
        have w2 : IntKind.i64.wrap (1 - N) = 1 - N := IntWalk.i64_in _ (by omega)
        have w3 : IntKind.i64.wrap ((1 - N) * 8) = (1 - N) * 8 := IntWalk.i64_in _ (by omega)
        have w4 : IntKind.i64.wrap (a + (1 - N) * 8) = a + 8 - 8 * N := by rw [IntWalk.i64_in _ (by omega)]; omega
        refine zgo ?_
        exact zfin
end Go.Proofs.YtkghiceeegindaaGreatDoor
