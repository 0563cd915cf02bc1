/- Apply: contracts of its functions. No condition but those named. -/
import Derived.Test.YtkghiceeegindaaGreatDoorAd
/- Loading a superblock, joined. -/
namespace Go.Proofs.YtkghiceeegindaaGreatDoor
open Go.Proofs Go.AL
set_option maxRecDepth 100000
set_option maxHeartbeats 1000000
set_option linter.unusedVariables false
set_option linter.unusedSimpArgs false
attribute [local irreducible] endA AW aops thenA blockA hold

theorem readE_ok {d : Dsk} {a : Int} (g : (readE d a 16).2 = 0) : dskE d = 0 ∧ 0 ≤ a ∧ a ≤ (d.st.length : Int) - 16 := by
  unfold readE at g
  by_cases h0 : dskE d = 0
  · rw [if_pos h0] at g
    split at g
    · exact absurd g (by decide)
    · exact ⟨h0, by omega, by omega⟩
  · rw [if_neg h0] at g
    exact absurd g h0
theorem findE_err {d : Dsk} {a : Int} (hs : d.st.length ≤ 1000000) (g : (readE d a 16).2 ≠ 0) : findE d a = ([], 0, [], 0, (readE d a 16).2) := by
  unfold readE at g ⊢
  unfold findE
  by_cases h0 : dskE d = 0
  · rw [if_pos h0] at g ⊢
    split at g
    · rename_i h1
      rw [if_pos h0, if_pos h1, if_pos (by omega)]
    · exact absurd rfl g
  · rw [if_neg h0] at g ⊢
    rw [if_neg h0]
theorem find_new {d : Dsk} {a : Int} (h0 : dskE d = 0) (h3 : 0 ≤ a) (h4 : a ≤ (d.st.length : Int) - 16) (hA : 0 ≤ (parseS ((sbL d a).take 8)).2) (hB : 0 ≤ (parseS ((sbL d a).drop 8)).2) :
    findE d a = if (newE (parseS ((sbL d a).take 8)) (parseS ((sbL d a).drop 8))).2 = 0 then (if (newE (parseS ((sbL d a).take 8)) (parseS ((sbL d a).drop 8))).1 = 1 then (sbL d a, 1, (parseS ((sbL d a).drop 8)).1, (parseS ((sbL d a).drop 8)).2, 0) else (sbL d a, 0, (parseS ((sbL d a).take 8)).1, (parseS ((sbL d a).take 8)).2, 0)) else ([], 0, [], 0, 9) := by
  unfold findE newE
  rw [if_pos h0, if_neg (by omega)]
  generalize parseS ((sbL d a).take 8) = A at *
  generalize parseS ((sbL d a).drop 8) = B at *
  by_cases g1 : A.2 < B.2
  · rw [if_pos g1, if_pos g1, if_neg (by omega : ¬ B.2 = 0), if_neg (by omega : ¬ (A.2 = 0 ∧ B.2 = 0)), if_pos rfl, if_pos rfl]
  · rw [if_neg g1, if_neg g1]
    by_cases g2 : A.2 = 0
    · rw [if_pos g2, if_pos (by omega : A.2 = 0 ∧ B.2 = 0), if_neg (by decide)]
    · rw [if_neg g2, if_neg (by omega : ¬ (A.2 = 0 ∧ B.2 = 0)), if_pos rfl, if_neg (by decide)]
theorem load_p (d : Dsk) (a : Int) (hs : d.st.length ≤ 1000000) (h2 : d.ca.length ≤ 1000000) (hk : ∀ s ∈ newL d.st d.ca, SecOK s) : PC 60 [.agg (encD d), zV a] (.tup [.snap (encL byteRow (findE d a).2.2.1), zV (findE d a).2.2.2.1, zV (findE d a).2.2.2.2]) := by
  by_cases g : (readE d a 16).2 = 0
  · obtain ⟨h0, h3, h4⟩ := readE_ok g
    have hk2 : ∀ s ∈ sbL d a, SecOK s := fun s hs => hk s (List.mem_of_mem_drop (List.mem_of_mem_take hs))
    have gA := parseS_gen (l := (sbL d a).take 8) fun s hs => hk2 s (List.mem_of_mem_take hs)
    have gB := parseS_gen (l := (sbL d a).drop 8) fun s hs => hk2 s (List.mem_of_mem_drop hs)
    have c := load_ok d a _ _ _ _ (parseS_len _) (parseS_len _) (find_ok d a hs h2 hk h0 h3 h4)
    rw [find_new h0 h3 h4 gA.1 gB.1]
    split at c
    · rename_i e1
      rw [if_pos e1]
      split at c
      · rename_i e2
        rw [if_pos e2]
        exact c
      · rename_i e2
        rw [if_neg e2]
        exact c
    · rename_i e1
      rw [if_neg e1]
      exact c
  · rw [findE_err hs g]
    exact load_err d a _ g (find_err d a hs h2 g)
end Go.Proofs.YtkghiceeegindaaGreatDoor

/- Reading a number. -/
namespace Go.Proofs.YtkghiceeegindaaGreatDoor
open Go.Proofs Go.AL
set_option maxRecDepth 100000
set_option maxHeartbeats 1000000
set_option linter.unusedVariables false
set_option linter.unusedSimpArgs false
attribute [local irreducible] endA AW aops thenA blockA hold

theorem and127 {x : Int} (h0 : 0 ≤ x) (h1 : x < 256) : bits .and .u8 x 127 = x % 128 := bits_mask .u8 8 (by decide) wraps_u8 7 (by decide) x h0 h1
theorem and128 {x : Int} (h0 : 0 ≤ x) (h1 : x < 256) : bits .and .u8 x 128 = (if 128 ≤ x then 128 else 0) := by
  have key : ∀ i : Fin 256, bits .and .u8 ((i.val : Nat) : Int) 128 = (if 128 ≤ i.val then 128 else 0) := by decide
  have := key ⟨x.toNat, by omega⟩
  simp only at this
  rw [show ((x.toNat : Nat) : Int) = x by omega] at this
  rw [this]
  by_cases h : 128 ≤ x
  · rw [if_pos h, if_pos (by omega)]
  · rw [if_neg h, if_neg (by omega)]
/-- Reading a number. -/
def numG : Nat → List Int → Nat → Int → Int × Nat × Int
  | 0, _, _, _ => (0, 0, 3)
  | f + 1, src, i, n =>
    if i < src.length then
      if 128 ≤ src.getD i 0 then numG f src (i + 1) (n + src.getD i 0 % 128 * 2 ^ (7 * i))
      else if (src.getD i 0 = 0 ∧ 0 < i) ∨ 9007199254740991 < n + src.getD i 0 % 128 * 2 ^ (7 * i) then (0, 0, 3)
      else (n + src.getD i 0 % 128 * 2 ^ (7 * i), i + 1, 0)
    else (0, 0, 10)
theorem numG_succ (f : Nat) (src : List Int) (i : Nat) (n : Int) : numG (f + 1) src i n = if i < src.length then if 128 ≤ src.getD i 0 then numG f src (i + 1) (n + src.getD i 0 % 128 * 2 ^ (7 * i)) else if (src.getD i 0 = 0 ∧ 0 < i) ∨ 9007199254740991 < n + src.getD i 0 % 128 * 2 ^ (7 * i) then (0, 0, 3) else (n + src.getD i 0 % 128 * 2 ^ (7 * i), i + 1, 0) else (0, 0, 10) := rfl
theorem numG_zero (src : List Int) (i : Nat) (n : Int) : numG 0 src i n = (0, 0, 3) := rfl
theorem pow7 (k : Nat) : (2 : Int) ^ (7 * (k + 1)) = 128 * 2 ^ (7 * k) := by
  rw [Nat.mul_add, Int.pow_add]; omega
theorem pow7_pos (k : Nat) : (0 : Int) < 2 ^ (7 * k) := Int.pow_pos (by decide)
theorem pow7_le {k : Nat} (h : k ≤ 8) : (2 : Int) ^ (7 * k) ≤ 2 ^ 56 := by
  obtain ⟨j, hj⟩ := Nat.exists_eq_add_of_le h
  have e : (2 : Int) ^ 56 = 2 ^ (7 * k) * 2 ^ (7 * j) := by rw [← Int.pow_add]; congr 1; omega
  rw [e]
  have h1 := pow7_pos j
  have h2 := pow7_pos k
  have := Int.mul_le_mul_of_nonneg_left (show (1 : Int) ≤ 2 ^ (7 * j) by omega) (show (0 : Int) ≤ 2 ^ (7 * k) by omega)
  omega
/-- One step of a number. -/
theorem step7 {k : Nat} {n b : Int} (hk : k < 8) (h0 : 0 ≤ n) (h1 : n < 2 ^ (7 * k)) :
    IntKind.i64.wrap (b % 128 * 2 ^ (7 * k)) = b % 128 * 2 ^ (7 * k) ∧ bits .or .i64 n (b % 128 * 2 ^ (7 * k)) = n + b % 128 * 2 ^ (7 * k) ∧ 0 ≤ n + b % 128 * 2 ^ (7 * k) ∧ n + b % 128 * 2 ^ (7 * k) < 2 ^ (7 * (k + 1)) := by
  have e56 : (2 : Int) ^ 56 = 72057594037927936 := by decide
  have h2 := pow7_pos k
  have h3 := pow7 k
  have h4 := pow7_le (k := k + 1) (by omega)
  generalize hm : b % 128 = m at *
  have hm0 : 0 ≤ m := by omega
  have hm1 : m ≤ 127 := by omega
  have h5 : m * 2 ^ (7 * k) ≤ 127 * 2 ^ (7 * k) := Int.mul_le_mul_of_nonneg_right hm1 (by omega)
  have h6 : 0 ≤ m * 2 ^ (7 * k) := Int.mul_nonneg hm0 (by omega)
  refine ⟨IntWalk.i64_in _ (by omega), ?_, by omega, by omega⟩
  have e := bits_join .i64 56 (by decide) (fun n a b => IntWalk.i64_in _ (by omega)) (7 * k) (m * 2 ^ (7 * k)) n h6 (by simp) (by omega) h0 h1 (by omega)
  simp only [bits, BitVec.or_comm] at e ⊢
  rw [e]; omega
/-- A number at the beginning of bytes, and the rest. -/
def intE (src : List Int) : Int × List Int × Int :=
  if (numG 8 src 0 0).2.2 = 0 then ((numG 8 src 0 0).1, src.drop (numG 8 src 0 0).2.1, 0) else (0, [], (numG 8 src 0 0).2.2)
attribute [local irreducible] numG
theorem int_p (src : List Int) (hb : ∀ x ∈ src, ByteOK x) (hl : src.length ≤ 100000) : PC 107 [.snap (encL byteRow src)] (.tup [zV (intE src).1, .snap (encL byteRow (intE src).2.1), zV (intE src).2.2]) := by
  refine pstart Tryz.func107 Tryz.ntmps107 (by simp only [go_sem]) ?_
  refine zgo ?_
  refine zin Tryz.func141 Tryz.ntmps141 ?_
  refine zgo ?_
  refine zin Tryz.func142 Tryz.ntmps142 ?_
  refine zgo ?_
  have hg := gB src
  unfold intE
  generalize hF : numG 8 src 0 0 = F
  refine zfor (α := Int) 8 (fun k n => [(7, true, zV k), (4, true, zV n), (0, true, .ptr 0 0 0)]) (fun _ _ => [(0, some (.cells 252 1 [[.snap (encL byteRow src)]] true false))]) (fun k m n => 1 ≤ m ∧ numG (8 - k) src k n = F ∧ 0 ≤ n ∧ n < 2 ^ (7 * k)) ⟨1, 0, ⟨Nat.le_refl _, hF, by decide, by decide⟩, zholds⟩ (fun k m n hk hR => ?_) (fun m n hR => ?_)
  · obtain ⟨h1, h2, h3, h4⟩ := hR
    have w0 : IntKind.i64.wrap (7 * (k : Int)) = ((7 * k : Nat) : Int) := by rw [IntWalk.i64_in _ (by omega)]; omega
    by_cases g1 : k < src.length
    · have hx := hb _ (getD_mem' 0 g1)
      obtain ⟨w1, w2, w3, w4⟩ := step7 (b := src.getD k 0) hk h3 h4
      have a1 := and127 hx.1 hx.2
      have a2 := and128 hx.1 hx.2
      obtain ⟨f, hf⟩ : ∃ f, 8 - k = f + 1 := ⟨7 - k, by omega⟩
      have hf2 : 8 - (k + 1) = f := by omega
      rw [hf] at h2
      have wm : min (7 * k) 64 = 7 * k := by omega
      have hgk := hg k g1
      clear hb hg hF
      generalize hv : src.getD k 0 = b at *
      rw [numG_succ, if_pos g1, hv] at h2
      generalize hp0 : (2 : Int) ^ (7 * k) = p at *
      have hp : (2 : Int) ^ min (7 * k) 64 = p := by rw [wm, hp0]
      clear wm h4
      generalize hq : b % 128 * p = q at *
      have w5 : Lat (n + q < 2 ^ (7 * (k + 1))) := ⟨w4⟩
      clear w4
      by_cases g2 : 128 ≤ b
      · rw [if_pos g2] at a2
        have h5 : Lat (numG (8 - (k + 1)) src (k + 1) (n + q) = F) := ⟨by rw [hf2, ← h2, if_pos g2]⟩
        clear h2 hf2 hf
        refine zgo ?_
        exact ⟨m, _, ⟨h1, h5.out, w3, w5.out⟩, zholds⟩
      · rw [if_neg g2] at a2
        have h5 : F = if (b = 0 ∧ 0 < k) ∨ 9007199254740991 < n + q then (0, 0, 3) else (n + q, k + 1, 0) := by
          rw [← h2, if_neg g2]
        clear h2 hf2 hf
        by_cases g3 : b = 0 ∧ 0 < k
        · have h6 : F = (0, 0, 3) := by rw [h5, if_pos (.inl g3)]
          obtain ⟨g4, g5⟩ := g3
          have g6 : (0 : Int) < k := by omega
          rw [h6]
          clear h5 h6
          have hb0 : (b == (0 : Int)) = true := by rw [g4]; rfl
          clear g4
          refine zgo ?_
          exact zfin
        · by_cases g4 : 9007199254740991 < n + q
          · have h6 : F = (0, 0, 3) := by rw [h5, if_pos (.inr g4)]
            rw [h6]
            clear h5 h6
            by_cases g5 : b = 0
            · have g6 : ¬ (0 : Int) < k := by omega
              clear g3
              have hb0 : (b == (0 : Int)) = true := by rw [g5]; rfl
              clear g5
              refine zgo ?_
              exact zfin
            · clear g3
              refine zgo ?_
              exact zfin
          · have h6 : F = (n + q, k + 1, 0) := by rw [h5, if_neg (by omega)]
            rw [h6]
            clear h5 h6
            have c3 := cloneB_p (src.drop (k + 1)) (by rw [List.length_drop]; omega)
            have e3 : (src.drop (k + 1)).take (src.length - (k + 1)) = src.drop (k + 1) := List.take_of_length_le (by rw [List.length_drop]; omega)
            by_cases g5 : b = 0
            · have g6 : ¬ (0 : Int) < k := by omega
              clear g3
              have hb0 : (b == (0 : Int)) = true := by rw [g5]; rfl
              clear g5
              refine zgo ?_
              exact zfin
            · clear g3
              refine zgo ?_
              exact zfin
    · refine zgo ?_
      have h9 : F = (0, 0, 10) := by rw [← h2, show 8 - k = (7 - k) + 1 by omega]; rw [numG_succ, if_neg g1]
      rw [h9]
      exact zfin
  · have h9 : F = (0, 0, 3) := by rw [← hR.2.1, Nat.sub_self, numG_zero]
    refine zgo ?_
    rw [h9]
    exact zfin
end Go.Proofs.YtkghiceeegindaaGreatDoor

/- Reading a number, in the reference; the numbers of a value. -/
namespace Go.Proofs.YtkghiceeegindaaGreatDoor
open Go.Proofs Go.AL
set_option maxRecDepth 100000
set_option maxHeartbeats 1000000
set_option linter.unusedVariables false
set_option linter.unusedSimpArgs false
attribute [local irreducible] endA AW aops thenA blockA hold

attribute [local irreducible] numG
theorem rnum_p (src : List Int) (hb : ∀ x ∈ src, ByteOK x) (hl : src.length ≤ 100000) : PC 144 [.snap (encL byteRow src)] (.tup [zV (numG 8 src 0 0).1, zV ((numG 8 src 0 0).2.1 : Nat), zV (numG 8 src 0 0).2.2]) := by
  refine pstart Tryz.func144 Tryz.ntmps144 (by simp only [go_sem]) ?_
  refine zgo ?_
  have hg := gB src
  generalize hF : numG 8 src 0 0 = F
  refine zfor (α := Int) 8 (fun k n => [(7, true, zV k), (6, true, zV (2 ^ (7 * k))), (5, true, zV n), (0, true, .snap (encL byteRow src))]) (fun _ _ => []) (fun k m n => numG (8 - k) src k n = F ∧ 0 ≤ n ∧ n < 2 ^ (7 * k)) ⟨0, 0, ⟨hF, by decide, by decide⟩, zholds⟩ (fun k m n hk hR => ?_) (fun m n hR => ?_)
  · obtain ⟨h2, h3, h4⟩ := hR
    by_cases g1 : k < src.length
    · have hx := hb _ (getD_mem' 0 g1)
      obtain ⟨w1, w2, w3, w4⟩ := step7 (b := src.getD k 0) hk h3 h4
      obtain ⟨f, hf⟩ : ∃ f, 8 - k = f + 1 := ⟨7 - k, by omega⟩
      have hf2 : 8 - (k + 1) = f := by omega
      rw [hf] at h2
      have hgk := hg k g1
      obtain ⟨hx1, hx2⟩ := hx
      clear hb hg hF
      generalize hv : src.getD k 0 = b at *
      rw [numG_succ, if_pos g1, hv] at h2
      have hp1 := pow7 k
      have hp2 := pow7_pos k
      have hp3 := pow7_le (k := k + 1) (by omega)
      have e56 : (2 : Int) ^ 56 = 72057594037927936 := by decide
      rw [e56] at hp3
      have w5 : Lat (n + b % 128 * 2 ^ (7 * k) < 2 ^ (7 * (k + 1))) := ⟨w4⟩
      have wt : IntKind.i64.wrap (2 ^ (7 * k) * 128) = 2 ^ (7 * (k + 1)) := by rw [IntWalk.i64_in _ (by omega)]; omega
      have wr : b.tmod 128 = b % 128 := Int.tmod_eq_emod_of_nonneg hx1
      have wn : IntKind.i64.wrap (n + b % 128 * 2 ^ (7 * k)) = n + b % 128 * 2 ^ (7 * k) := IntWalk.i64_in _ (by omega)
      clear hp1 hp3 e56 w2 w4
      generalize (2 : Int) ^ (7 * (k + 1)) = p2 at *
      generalize (2 : Int) ^ (7 * k) = p at *
      clear h4 hp2
      generalize hq : b % 128 * p = q at *
      by_cases g2 : 128 ≤ b
      · have h5 : Lat (numG (8 - (k + 1)) src (k + 1) (n + q) = F) := ⟨by rw [hf2, ← h2, if_pos g2]⟩
        clear h2 hf2 hf
        have g3 : ¬ b < 128 := by omega
        refine zgo ?_
        exact ⟨m, _, ⟨h5.out, w3, w5.out⟩, zholds⟩
      · have h5 : F = if (b = 0 ∧ 0 < k) ∨ 9007199254740991 < n + q then (0, 0, 3) else (n + q, k + 1, 0) := by
          rw [← h2, if_neg g2]
        clear h2 hf2 hf
        have g9 : b < 128 := by omega
        by_cases g3 : b = 0 ∧ 0 < k
        · have h6 : F = (0, 0, 3) := by rw [h5, if_pos (.inl g3)]
          obtain ⟨g4, g5⟩ := g3
          have g6 : (0 : Int) < k := by omega
          rw [h6]
          clear h5 h6
          have hb0 : (b == (0 : Int)) = true := by rw [g4]; rfl
          clear g4
          refine zgo ?_
          exact zfin
        · by_cases g4 : 9007199254740991 < n + q
          · have h6 : F = (0, 0, 3) := by rw [h5, if_pos (.inr g4)]
            rw [h6]
            clear h5 h6
            by_cases g5 : b = 0
            · have g6 : ¬ (0 : Int) < k := by omega
              clear g3
              have hb0 : (b == (0 : Int)) = true := by rw [g5]; rfl
              clear g5
              refine zgo ?_
              exact zfin
            · clear g3
              refine zgo ?_
              exact zfin
          · have h6 : F = (n + q, k + 1, 0) := by rw [h5, if_neg (by omega)]
            rw [h6]
            clear h5 h6
            by_cases g5 : b = 0
            · have g6 : ¬ (0 : Int) < k := by omega
              clear g3
              have hb0 : (b == (0 : Int)) = true := by rw [g5]; rfl
              clear g5
              refine zgo ?_
              exact zfin
            · clear g3
              refine zgo ?_
              exact zfin
    · have h9 : F = (0, 0, 10) := by rw [← h2, show 8 - k = (7 - k) + 1 by omega, numG_succ, if_neg g1]
      rw [h9]
      clear h9 h2
      refine zgo ?_
      exact zfin
  · have h9 : F = (0, 0, 3) := by rw [← hR.1, Nat.sub_self, numG_zero]
    rw [h9]
    clear h9 hR
    refine zgo ?_
    exact zfin
theorem rrest_p (src : List Int) (n : Nat) (hn : n ≤ src.length) (hl : src.length ≤ 100000) : PC 145 [.snap (encL byteRow src), zV n] (.snap (encL byteRow (src.drop n))) := by
  refine pstart Tryz.func145 Tryz.ntmps145 (by simp only [go_sem]) ?_
  have e3 : (src.drop n).take (src.length - n) = src.drop n := List.take_of_length_le (by rw [List.length_drop]; omega)
  cases hE : src.drop n with
  | nil =>
    rw [hE] at e3
    refine zgo ?_
    exact zfin
  | cons x r =>
    have hl2 : (x :: r).length ≤ 100000 := by rw [← hE, List.length_drop]; omega
    simp only [List.length_cons] at hl2
    rw [hE] at e3
    refine zgo ?_
    exact zfin
theorem numG_le : ∀ (f : Nat) (src : List Int) (i : Nat) (n : Int), (numG f src i n).2.2 = 0 → (numG f src i n).2.1 ≤ src.length
  | 0, _, _, _, h => by rw [numG_zero] at h; simp at h
  | f + 1, src, i, n, h => by
    rw [numG_succ] at h ⊢
    split at h
    · rename_i h1
      rw [if_pos h1]
      split at h
      · rename_i h2
        rw [if_pos h2]
        exact numG_le f src _ _ h
      · rename_i h2
        rw [if_neg h2]
        split at h
        · simp at h
        · rename_i h3
          rw [if_neg h3]
          exact h1
    · simp at h
theorem rint_p (src : List Int) (hb : ∀ x ∈ src, ByteOK x) (hl : src.length ≤ 100000) : PC 109 [.snap (encL byteRow src)] (.tup [zV (intE src).1, .snap (encL byteRow (intE src).2.1), zV (intE src).2.2]) := by
  refine pstart Tryz.func109 Tryz.ntmps109 (by simp only [go_sem]) ?_
  have c1 := rnum_p src hb hl
  have h1 := numG_le 8 src 0 0
  unfold intE
  generalize numG 8 src 0 0 = F at *
  obtain ⟨n, k, e⟩ := F
  simp only [] at c1 h1 ⊢
  by_cases g : e = 0
  · have c2 := rrest_p src k (h1 g) hl
    rw [if_pos g]
    clear h1 hb
    refine zgo ?_
    exact zfin
  · rw [if_neg g]
    clear h1 hb
    refine zgo ?_
    exact zfin
theorem intE_ok {src : List Int} (hb : ∀ x ∈ src, ByteOK x) : (∀ x ∈ (intE src).2.1, ByteOK x) ∧ (intE src).2.1.length ≤ src.length := by
  unfold intE
  split
  · exact ⟨fun x hx => hb x (List.mem_of_mem_drop hx), by simp⟩
  · exact ⟨fun x hx => by simp at hx, by simp⟩
/-- The numbers of a value, or the error. -/
def numsE (b : List Int) : (Int × Int × Int) × Int :=
  if (intE b).2.2 = 0 then
    if (intE (intE b).2.1).2.2 = 0 then
      if (intE (intE (intE b).2.1).2.1).2.2 = 0 then
        if 0 < (intE (intE (intE b).2.1).2.1).2.1.length then ((0, 0, 0), 3) else (((intE b).1, (intE (intE b).2.1).1, (intE (intE (intE b).2.1).2.1).1), 0)
      else ((0, 0, 0), (intE (intE (intE b).2.1).2.1).2.2)
    else ((0, 0, 0), (intE (intE b).2.1).2.2)
  else ((0, 0, 0), (intE b).2.2)
theorem numbers_p (b : List Int) (hb : ∀ x ∈ b, ByteOK x) (hl : b.length ≤ 100000) : PC 64 [.snap (encL byteRow b)] (.tup [.snap (encL intRow (if (numsE b).2 = 0 then [(numsE b).1.1, (numsE b).1.2.1, (numsE b).1.2.2] else [])), zV (numsE b).2]) := by
  refine pstart Tryz.func64 Tryz.ntmps64 (by simp only [go_sem]) ?_
  have c1 := rint_p b hb hl
  obtain ⟨o1, o2⟩ := intE_ok hb
  have c2 := rint_p _ o1 (by omega)
  obtain ⟨o3, o4⟩ := intE_ok o1
  have c3 := rint_p _ o3 (by omega)
  have o5 := (intE_ok o3).2
  obtain ⟨M, hM⟩ : ∃ M, numsE b = M := ⟨_, rfl⟩
  rw [hM]
  unfold numsE at hM
  generalize intE (intE (intE b).2.1).2.1 = Z at *
  generalize intE (intE b).2.1 = Y at *
  generalize intE b = X at *
  obtain ⟨x, xr, xe⟩ := X
  obtain ⟨y, yr, ye⟩ := Y
  obtain ⟨z, zr, ze⟩ := Z
  simp only [] at *
  clear o1 o3 hb
  by_cases g1 : xe = 0
  · subst g1
    by_cases g2 : ye = 0
    · subst g2
      by_cases g3 : ze = 0
      · subst g3
        by_cases g4 : 0 < zr.length
        · have g5 : (0 : Int) < zr.length := by omega
          rw [if_pos rfl, if_pos rfl, if_pos rfl, if_pos g4] at hM
          subst hM
          refine zgo ?_
          refine w_rounds 4 ?_
          refine w_round ?_
          refine zgo ?_
          exact zfin
        · have g5 : ¬ (0 : Int) < zr.length := by omega
          rw [if_pos rfl, if_pos rfl, if_pos rfl, if_neg g4] at hM
          subst hM
          refine zgo ?_
          refine w_rounds 4 ?_
          refine w_round ?_
          refine zgo ?_
          exact zfin
      · rw [if_pos rfl, if_pos rfl, if_neg g3] at hM
        subst hM
        refine zgo ?_
        refine w_rounds 4 ?_
        refine w_round ?_
        refine zgo ?_
        exact zfin
    · rw [if_pos rfl, if_neg g2] at hM
      subst hM
      refine zgo ?_
      refine w_rounds 4 ?_
      refine w_round ?_
      refine zgo ?_
      exact zfin
  · rw [if_neg g1] at hM
    subst hM
    refine zgo ?_
    refine w_rounds 4 ?_
    refine w_round ?_
    refine zgo ?_
    exact zfin
end Go.Proofs.YtkghiceeegindaaGreatDoor

/- Loading a replica. -/
namespace Go.Proofs.YtkghiceeegindaaGreatDoor
open Go.Proofs Go.AL
set_option maxRecDepth 100000
set_option maxHeartbeats 1000000
set_option linter.unusedVariables false
set_option linter.unusedSimpArgs false
attribute [local irreducible] endA AW aops thenA blockA hold

/-- What is loaded. -/
def loadE (d : Dsk) (l : List Int) (s a : Int) : Rep × Int :=
  if layE l s a = 0 then
    if (findE d s).2.2.2.2 = 0 then
      if (d.st.length : Int) < a + sum l then (rep0, 2)
      else if (numsE (findE d s).2.2.1).2 = 0 then
        if repE ⟨l, s, a, (numsE (findE d s).2.2.1).1.1, (numsE (findE d s).2.2.1).1.2.1, (numsE (findE d s).2.2.1).1.2.2⟩ = 0 then (⟨l, s, a, (numsE (findE d s).2.2.1).1.1, (numsE (findE d s).2.2.1).1.2.1, (numsE (findE d s).2.2.1).1.2.2⟩, 0)
        else (rep0, repE ⟨l, s, a, (numsE (findE d s).2.2.1).1.1, (numsE (findE d s).2.2.1).1.2.1, (numsE (findE d s).2.2.1).1.2.2⟩)
      else (rep0, (numsE (findE d s).2.2.1).2)
    else (rep0, (findE d s).2.2.2.2)
  else (rep0, layE l s a)
theorem parseS_byte {l : List Sec} (h : ∀ s ∈ l, SecOK s) : ∀ x ∈ (parseS l).1, ByteOK x := by
  have hd : ∀ x ∈ dataS l, ByteOK x := fun x hx => by
    obtain ⟨s, hs, hx⟩ := List.mem_flatMap.1 hx
    exact (h s hs).2 x hx
  unfold parseS
  split
  · split
    · intro x hx; simp at hx
    · split
      · exact fun x hx => hd x (List.mem_of_mem_drop (List.mem_of_mem_take hx))
      · intro x hx; simp at hx
  · intro x hx; simp at hx
theorem findE_pay {d : Dsk} {a : Int} (hk : ∀ s ∈ newL d.st d.ca, SecOK s) : (∀ x ∈ (findE d a).2.2.1, ByteOK x) ∧ (findE d a).2.2.1.length ≤ 31 := by
  have hk2 : ∀ s ∈ sbL d a, SecOK s := fun s hs => hk s (List.mem_of_mem_drop (List.mem_of_mem_take hs))
  have h1 := parseS_byte (l := (sbL d a).take 8) fun s hs => hk2 s (List.mem_of_mem_take hs)
  have h2 := parseS_byte (l := (sbL d a).drop 8) fun s hs => hk2 s (List.mem_of_mem_drop hs)
  have h3 := parseS_len ((sbL d a).take 8)
  have h4 := parseS_len ((sbL d a).drop 8)
  unfold findE
  split
  · split
    · exact ⟨fun x hx => by simp at hx, by simp⟩
    · split
      · exact ⟨fun x hx => by simp at hx, by simp⟩
      · split
        · exact ⟨h2, h4⟩
        · exact ⟨h1, h3⟩
  · exact ⟨fun x hx => by simp at hx, by simp⟩
theorem layE_ok {l : List Int} {s a : Int} (g : layE l s a = 0) : sizesE l = 0 ∧ 0 ≤ s ∧ s ≤ 4080 ∧ 0 ≤ a ∧ a ≤ 4096 - sum l ∧ ¬ (s < a + sum l ∧ a < s + 16) := by
  unfold layE at g
  by_cases h : sizesE l = 0
  · rw [if_pos h] at g
    split at g
    · exact absurd g (by decide)
    · split at g
      · exact absurd g (by decide)
      · exact ⟨h, by omega, by omega, by omega, by omega, by assumption⟩
  · rw [if_neg h] at g; exact absurd g h
theorem rloadR_p (d : Dsk) (l : List Int) (s a : Int) (hl : l.length ≤ 1000000) (hs : d.st.length ≤ 1000000) (h2 : d.ca.length ≤ 1000000) (hk : ∀ s ∈ newL d.st d.ca, SecOK s) : PC 15 [.agg (encD d), .snap (encL intRow l), zV s, zV a] (.tup [.agg (encR (loadE d l s a).1), zV (loadE d l s a).2]) := by
  refine pstart Tryz.func15 Tryz.ntmps15 (by simp only [go_sem, encR]) ?_
  have c1 := rlayout_p l s a hl
  have c2 := rload_p d s hs h2 hk
  have c3 := rtotal_p l hl
  obtain ⟨p1, p2⟩ := findE_pay (a := s) hk
  have c4 := numbers_p _ p1 (by omega)
  obtain ⟨M, hM⟩ : ∃ M, loadE d l s a = M := ⟨_, rfl⟩
  rw [hM]
  unfold loadE at hM
  unfold encD at c2 ⊢
  generalize findE d s = F at *
  obtain ⟨F1, F2, P, F4, fe⟩ := F
  simp only [] at *
  clear p1 p2 hk
  generalize numsE P = K at *
  obtain ⟨⟨n1, n2, n3⟩, me⟩ := K
  simp only [] at *
  by_cases g1 : layE l s a = 0
  · obtain ⟨y1, y2, y3, y4, y5, y6⟩ := layE_ok g1
    obtain ⟨h1, h3, h4⟩ := sum_ok y1
    rw [if_pos g1] at hM
    rw [h1] at c3
    rw [g1] at c1
    clear y6 y1 h1
    have w1 : IntKind.i64.wrap (a + sum l) = a + sum l := IntWalk.i64_in _ (by omega)
    by_cases g2 : fe = 0
    · subst g2
      rw [if_pos rfl] at hM
      by_cases g3 : (d.st.length : Int) < a + sum l
      · rw [if_pos g3] at hM
        subst hM
        unfold rep0 encR
        refine zgo ?_
        exact zfin
      · rw [if_neg g3] at hM
        by_cases g4 : me = 0
        · subst g4
          rw [if_pos rfl] at hM c4
          have he : encL intRow [n1, n2, n3] = [[zV n1], [zV n2], [zV n3]] := rfl
          rw [he] at c4
          clear he
          have c5 := copied_p ⟨l, s, a, n1, n2, n3⟩ hl
          have c6 := rcheck_p ⟨l, s, a, n1, n2, n3⟩ hl
          unfold encR at c5 c6
          generalize repE ⟨l, s, a, n1, n2, n3⟩ = re at *
          simp only [] at c5 c6
          by_cases g5 : re = 0
          · subst g5
            rw [if_pos rfl] at hM
            subst hM
            unfold encR
            refine zgo ?_
            exact zfin
          · rw [if_neg g5] at hM
            subst hM
            unfold rep0 encR
            refine zgo ?_
            exact zfin
        · rw [if_neg g4] at hM c4
          subst hM
          unfold rep0 encR
          refine zgo ?_
          exact zfin
    · rw [if_neg g2] at hM
      subst hM
      unfold rep0 encR
      refine zgo ?_
      exact zfin
  · rw [if_neg g1] at hM
    subst hM
    unfold rep0 encR
    refine zgo ?_
    exact zfin
end Go.Proofs.YtkghiceeegindaaGreatDoor

/- Loading a replica, the program. -/
namespace Go.Proofs.YtkghiceeegindaaGreatDoor
open Go.Proofs Go.AL
set_option maxRecDepth 100000
set_option maxHeartbeats 1000000
set_option linter.unusedVariables false
set_option linter.unusedSimpArgs false
attribute [local irreducible] endA AW aops thenA blockA hold

theorem load_n (d : Dsk) (l : List Int) (s a : Int) (hne : l ≠ []) (hl : l.length ≤ 1000000) (hs : d.st.length ≤ 1000000) (h2 : d.ca.length ≤ 1000000) (hk : ∀ s ∈ newL d.st d.ca, SecOK s) : PC 14 [.agg (encD d), .snap (encL intRow l), zV s, zV a] (.tup [.agg (encR (loadE d l s a).1), zV (loadE d l s a).2]) := by
  refine pstart Tryz.func14 Tryz.ntmps14 (by simp only [go_sem, encR]) ?_
  have c1 := layout_p ⟨l, s, a, 0, 0, 0⟩ hl
  have c2 := load_p d s hs h2 hk
  have c3 := end_p ⟨l, s, a, 0, 0, 0⟩ hl
  have c7 := cloneI_o l hne hl
  obtain ⟨p1, p2⟩ := findE_pay (a := s) hk
  obtain ⟨M, hM⟩ : ∃ M, loadE d l s a = M := ⟨_, rfl⟩
  rw [hM]
  unfold loadE numsE at hM
  unfold encD at c2 ⊢
  generalize findE d s = F at *
  obtain ⟨F1, F2, P, F4, fe⟩ := F
  simp only [] at *
  clear hk
  have c4 := int_p P p1 (by omega)
  obtain ⟨o1, o2⟩ := intE_ok p1
  have c5 := int_p _ o1 (by omega)
  obtain ⟨o3, o4⟩ := intE_ok o1
  have c6 := int_p _ o3 (by omega)
  have o5 := (intE_ok o3).2
  generalize intE (intE (intE P).2.1).2.1 = Z at *
  generalize intE (intE P).2.1 = Y at *
  generalize intE P = X at *
  obtain ⟨x, xr, xe⟩ := X
  obtain ⟨y, yr, ye⟩ := Y
  obtain ⟨z, zr, ze⟩ := Z
  simp only [] at *
  clear o1 o3 p1
  unfold rep0 at hM
  unfold encR at c1 c3 ⊢
  simp only [] at *
  refine zgo ?_
  refine zin Tryz.func47 Tryz.ntmps47 ?_
  refine zgo ?_
  by_cases g1 : layE l s a = 0
  · obtain ⟨y1, y2, y3, y4, y5, y6⟩ := layE_ok g1
    obtain ⟨h1, h3, h4⟩ := sum_ok y1
    rw [h1] at c3
    rw [g1] at c1
    clear y6 y1 h1
    rw [if_pos g1] at hM
    have w1 : IntKind.i64.wrap (a + sum l) = a + sum l := IntWalk.i64_in _ (by omega)
    by_cases g2 : fe = 0
    · subst g2
      rw [if_pos rfl] at hM
      by_cases g3 : (d.st.length : Int) < a + sum l
      · rw [if_pos g3] at hM
        subst hM
        refine zgo ?_
        exact zfin
      · rw [if_neg g3] at hM
        by_cases e1 : xe = 0
        · subst e1
          by_cases e2 : ye = 0
          · subst e2
            by_cases e3 : ze = 0
            · subst e3
              by_cases e4 : 0 < zr.length
              · have e5 : (0 : Int) < zr.length := by omega
                simp only [if_true, if_pos e4] at hM
                rw [if_neg (by decide)] at hM
                subst hM
                refine zgo ?_
                refine zin Tryz.func62 Tryz.ntmps62 ?_
                refine zgo ?_
                refine w_rounds 4 ?_
                refine w_round ?_
                refine zgo ?_
                exact zfin
              · have e5 : ¬ (0 : Int) < zr.length := by omega
                have c8 := check_p ⟨l, s, a, x, y, z⟩ hl
                unfold encR at c8
                simp only [if_true, if_neg e4] at hM c8
                generalize repE ⟨l, s, a, x, y, z⟩ = re at *
                by_cases g5 : re = 0
                · subst g5
                  simp only [if_true] at hM
                  subst hM
                  refine zgo ?_
                  refine zin Tryz.func62 Tryz.ntmps62 ?_
                  refine zgo ?_
                  refine w_rounds 4 ?_
                  refine w_round ?_
                  refine zgo ?_
                  exact zfin
                · rw [if_neg g5] at hM
                  subst hM
                  refine zgo ?_
                  refine zin Tryz.func62 Tryz.ntmps62 ?_
                  refine zgo ?_
                  refine w_rounds 4 ?_
                  refine w_round ?_
                  refine zgo ?_
                  exact zfin
            · simp only [if_true, if_neg e3] at hM
              subst hM
              refine zgo ?_
              refine zin Tryz.func62 Tryz.ntmps62 ?_
              refine zgo ?_
              refine w_rounds 4 ?_
              refine w_round ?_
              refine zgo ?_
              exact zfin
          · simp only [if_true, if_neg e2] at hM
            subst hM
            refine zgo ?_
            refine zin Tryz.func62 Tryz.ntmps62 ?_
            refine zgo ?_
            refine w_rounds 4 ?_
            refine w_round ?_
            refine zgo ?_
            exact zfin
        · simp only [if_true, if_neg e1] at hM
          subst hM
          refine zgo ?_
          refine zin Tryz.func62 Tryz.ntmps62 ?_
          refine zgo ?_
          refine w_rounds 4 ?_
          refine w_round ?_
          refine zgo ?_
          exact zfin
    · rw [if_neg g2] at hM
      subst hM
      refine zgo ?_
      exact zfin
  · rw [if_neg g1] at hM
    subst hM
    refine zgo ?_
    exact zfin
theorem load_e (d : Dsk) (s a : Int) (b : Option Addr) (cap : Nat) : PC 14 [.agg (encD d), .c (.slice b 0 cap), zV s, zV a] (.tup [.agg (encR (loadE d [] s a).1), zV (loadE d [] s a).2]) := by
  refine pstart Tryz.func14 Tryz.ntmps14 (by simp only [go_sem, encR]) ?_
  have c1 := layout_p ⟨[], s, a, 0, 0, 0⟩ (Nat.zero_le _)
  have c4 := cloneI_e b cap
  have g1 : layE [] s a = 6 := rfl
  have g2 : loadE d [] s a = (rep0, 6) := by unfold loadE; rw [g1]; rfl
  rw [g2]
  unfold encD
  refine zgo ?_
  refine zin Tryz.func47 Tryz.ntmps47 ?_
  refine zgo ?_
  unfold encR at c1 ⊢
  simp only [] at c1
  unfold rep0
  refine zgo ?_
  exact zfin
theorem aload_p (d : Dsk) (l : List Int) (s a : Int) (hl : l.length ≤ 1000000) (hs : d.st.length ≤ 1000000) (h2 : d.ca.length ≤ 1000000) (hk : ∀ s ∈ newL d.st d.ca, SecOK s) : PC 14 [.agg (encD d), .snap (encL intRow l), zV s, zV a] (.tup [.agg (encR (loadE d l s a).1), zV (loadE d l s a).2]) := by
  by_cases h : l = []
  · subst h
    exact PCall.nil (pre := [.agg (encD d)]) (post := [zV s, zV a]) (load_e d s a)
  · exact load_n d l s a h hl hs h2 hk
end Go.Proofs.YtkghiceeegindaaGreatDoor

/- Running operations, in the reference. -/
namespace Go.Proofs.YtkghiceeegindaaGreatDoor
open Go.Proofs Go.AL
set_option maxRecDepth 100000
set_option maxHeartbeats 1000000
set_option linter.unusedVariables false
set_option linter.unusedSimpArgs false
attribute [local irreducible] endA AW aops thenA blockA hold

/-- Sectors that are put into the cache. -/
def putC : Int → List Sec → List (Int × Sec)
  | _, [] => []
  | a, s :: l => (a, s) :: putC (a + 1) l
theorem putC_len : ∀ (a : Int) (l : List Sec), (putC a l).length = l.length
  | _, [] => rfl
  | a, s :: l => by simp [putC, putC_len (a + 1) l]
theorem putC_snoc : ∀ (a : Int) (l : List Sec) (s : Sec), putC a (l ++ [s]) = putC a l ++ [(a + l.length, s)]
  | a, [], s => by simp [putC]
  | a, x :: l, s => by
    simp only [List.cons_append, putC, putC_snoc (a + 1) l s, List.length_cons]
    rw [show a + 1 + (l.length : Int) = a + ((l.length + 1 : Nat) : Int) by omega]
theorem putC_succ {a : Int} {l : List Sec} {k : Nat} (h : k < l.length) : putC a (l.take k) ++ [(a + k, l.getD k zSec)] = putC a (l.take (k + 1)) := by
  rw [List.take_succ_eq_append_getElem h, putC_snoc, List.length_take, Nat.min_eq_left (by omega), List.getD_eq_getElem?_getD, List.getElem?_eq_getElem h]
  rfl
theorem putC_in : ∀ (a : Int) (l : List Sec) (n : Nat), 0 ≤ a → a + l.length ≤ n → ∀ c ∈ putC a l, badC n c = false
  | _, [], _, _, _, c, hc => by simp [putC] at hc
  | a, s :: l, n, h0, h1, c, hc => by
    simp only [putC, List.mem_cons, List.length_cons] at hc h1
    rcases hc with rfl | hc
    · unfold badC; rw [dec_ltF (by simp only []; omega), dec_leF (by simp only []; omega)]; rfl
    · exact putC_in (a + 1) l n (by omega) (by omega) c hc
def dsk0 : Dsk := ⟨[], []⟩
/-- A write. -/
def writeE (d : Dsk) (a : Int) (l : List Sec) : Dsk × Int :=
  if dskE d = 0 then (if insB d a l.length = true then (⟨d.st, d.ca ++ putC a l⟩, 0) else (dsk0, 2)) else (dsk0, dskE d)
theorem insB_ok {d : Dsk} {a : Int} {n : Nat} (h : insB d a n = true) : 0 ≤ a ∧ a + n ≤ d.st.length := by
  simp only [insB, Bool.and_eq_true, decide_eq_true_eq] at h
  omega
theorem dskE_put {d : Dsk} {a : Int} {l : List Sec} (h : dskE d = 0) (hi : insB d a l.length = true) : dskE ⟨d.st, d.ca ++ putC a l⟩ = 0 := by
  obtain ⟨h1, h2⟩ := dskE_ok h
  obtain ⟨h3, h4⟩ := insB_ok hi
  unfold dskE
  rw [if_neg (by simp only []; omega), if_neg]
  simp only [List.any_append, Bool.or_eq_true, not_or, Bool.not_eq_true, List.any_eq_false]
  refine ⟨fun c hc => ?_, fun c hc => by rw [putC_in a l _ h3 h4 c hc]⟩
  have := h2 c hc
  unfold badC; rw [dec_ltF (by omega), dec_leF (by omega)]; rfl
@[go_sem] theorem ca_flat (x : Int) (s : Sec) : (encL encCa [(x, s)]).flatten = zV x :: encSec s := by simp [encL, encCa]
@[go_sem] theorem ca_take (v : Value) (s : Sec) : List.take 9 (AV.c v :: (encSec s ++ [])) = AV.c v :: encSec s := rfl
@[go_sem] theorem ca_take2 (v : Value) (s : Sec) : List.take 9 (AV.c v :: encSec s) = AV.c v :: encSec s := rfl
@[go_sem] theorem ca_drop (v : Value) (s : Sec) : List.drop 9 (AV.c v :: encSec s) = [] := rfl
theorem nil_not {ca x : List (Int × Sec)} (h : ca ≠ []) (e : encL encCa (ca ++ x) = []) : False := by
  cases ca with
  | nil => exact h rfl
  | cons a b => simp [encL] at e
/-- A slice that grows. -/
def SlOK (e : TypeId) (k : Nat) (rows : List (List AV)) (lo no m : Nat) (v : AV) (T : List (Nat × Option Blk)) : Prop :=
  (v = .c (.slice none 0 0) ∧ T = [] ∧ rows = []) ∨ ∃ id, lo ≤ id ∧ id ≠ no ∧ id < m ∧ v = .own id 0 rows.length ∧ T = [(id, some (.cells e k rows true true))]
theorem rwrite_p (d : Dsk) (a : Int) (l : List Sec) (h1 : d.st.length ≤ 1000000) (h2 : d.ca.length ≤ 1000000) (h3 : l.length ≤ 1000000) : PC 118 [.agg (encD d), zV a, .snap (encL encSec l)] (.tup [.agg (encD (writeE d a l).1), zV (writeE d a l).2]) := by
  refine pstartD Tryz.func118 Tryz.ntmps118 (by simp only [go_sem, encD]) ?_
  have c1 := rdcheck_p d h1 h2
  unfold writeE
  by_cases g1 : dskE d = 0
  · rw [if_pos g1]
    rw [g1] at c1
    obtain ⟨q1, q2⟩ := dskE_ok g1
    obtain ⟨st, ca⟩ := d
    unfold encD at c1 ⊢
    simp only [] at *
    cases hi : insB ⟨st, ca⟩ a l.length with
    | false =>
      rw [if_neg (by decide)]
      clear q2
      by_cases g2 : a < 0
      · refine zgo ?_
        exact zfin
      by_cases g3 : (st.length : Int) < l.length
      · refine zgo ?_
        exact zfin
      have g4 : IntKind.i64.wrap ((st.length : Int) - l.length) = (st.length : Int) - l.length := IntWalk.i64_in _ (by omega)
      have g5 : (st.length : Int) - l.length < a := by
        by_cases g6 : (st.length : Int) - l.length < a
        · exact g6
        · have : insB ⟨st, ca⟩ a l.length = true := by
            simp only [insB, Bool.and_eq_true, decide_eq_true_eq]; omega
          rw [this] at hi; cases hi
      clear hi
      unfold dsk0
      refine zgo ?_
      exact zfin
    | true =>
      obtain ⟨g2, g3⟩ := insB_ok hi
      simp only [] at g3
      have g4 : ¬ a < 0 := by omega
      have g5 : ¬ (st.length : Int) < l.length := by omega
      have w1 : IntKind.i64.wrap ((st.length : Int) - l.length) = (st.length : Int) - l.length := IntWalk.i64_in _ (by omega)
      have g6 : ¬ (st.length : Int) - l.length < a := by omega
      have hg := gS l
      rw [if_pos rfl]
      refine zgo ?_
      refine zin Tryz.func117 Tryz.ntmps117 ?_
      by_cases hne : st = []
      · have e1 : l = [] := by
          cases l with
          | nil => rfl
          | cons x r => subst hne; simp at g3; omega
        have e2 : ca = [] := by
          cases ca with
          | nil => rfl
          | cons c r => have := q2 c (by simp); subst hne; simp at this; omega
        subst hne e1 e2
        clear q2 hi
        refine zgo ?_
        refine w_rounds 2 ?_
        refine w_round ?_
        refine zgo ?_
        exact zfin
      have hs1 := isEmpty_f hne
      clear q2 g1 hi
      by_cases hca : ca = []
      · subst hca
        refine zgo ?_
        refine zfor (α := AV × List (Nat × Option Blk)) l.length (fun k x => [(10, true, zV k), (9, true, .ptr 9 0 0), (6, true, .ptr 1 0 0), (1, true, zV a), (2, true, .snap (encL encSec l))]) (fun k x => [(9, some (.cells 25 2 [[.own 5 0 st.length, x.1]] true false)), (5, some (.cells 96 8 (encL encSec st) true true)), (1, some (.cells 25 2 [[.c (.slice none 0 0), .c (.slice none 0 0)]] true false))] ++ x.2) (fun k m x => 11 ≤ m ∧ SlOK 193 9 (encL encCa ([] ++ putC a (l.take k))) 11 0 m x.1 x.2) ⟨11, (.c (.slice none 0 0), []), ?_, ?_⟩ (fun k m x hk hR => ?_) (fun m x hR => ?_)
        · exact ⟨by omega, .inl ⟨rfl, rfl, rfl⟩⟩
        · exact zholds
        · obtain ⟨cv, T⟩ := x
          obtain ⟨hm, hS⟩ := hR
          have h5 := putC_succ (a := a) hk
          have w2 : IntKind.i64.wrap (a + (k : Int)) = a + (k : Int) := IntWalk.i64_in _ (by omega)
          have h6 : (putC a (l.take k)).length ≤ 4096 := by rw [putC_len, List.length_take]; omega
          rcases hS with ⟨e1, e2, e3⟩ | ⟨id, hid, hidn, hidm, e1, e2⟩
          · simp only [] at e1 e2
            subst e1 e2
            have e4 : putC a (l.take k) = [] := by
              rw [List.nil_append] at e3
              cases hx : putC a (l.take k) with
              | nil => rfl
              | cons x y => rw [hx] at e3; simp [encL] at e3
            rw [e4, List.nil_append] at h5
            have h9 : Lat ([(a + (k : Int), l.getD k zSec)] = putC a (l.take (k + 1))) := ⟨h5⟩
            clear e3 e4 h6 h5
            refine zgo ?_
            refine ⟨m + 14, ⟨.own (m + 11) 0 1, [(m + 11, some (.cells 193 9 (encL encCa [(a + (k : Int), l.getD k zSec)]) true true))]⟩, ⟨by omega, .inr ⟨m + 11, by omega, by omega, by omega, by rw [← h9.out]; rfl, by rw [← h9.out]; rfl⟩⟩, ?_⟩
            exact zholds
          · simp only [] at e1 e2
            subst e1 e2
            refine zgo ?_
            have h7 : (putC a (l.take (k + 1))).length = (putC a (l.take k)).length + 1 := by rw [← h5, List.length_append]; rfl
            refine ⟨m + 14, ⟨.own (m + 11) 0 ([] ++ putC a (l.take (k + 1))).length, [(m + 11, some (.cells 193 9 (encL encCa ([] ++ putC a (l.take (k + 1)))) true true))]⟩, ⟨by omega, .inr ⟨m + 11, by omega, by omega, by omega, by rw [encL_len], rfl⟩⟩, ?_⟩
            exact zholds
        · rw [List.take_length] at hR
          obtain ⟨cv, T⟩ := x
          obtain ⟨hm, hS⟩ := hR
          have h6 : (putC a l).length ≤ 4096 := by rw [putC_len]; omega
          rcases hS with ⟨e1, e2, e3⟩ | ⟨id, hid, hidn, hidm, e1, e2⟩
          · simp only [] at e1 e2
            subst e1 e2
            rw [e3]
            clear e3
            refine zgo ?_
            exact zfin
          · simp only [] at e1 e2
            subst e1 e2
            refine zgo ?_
            exact zfin
      · have hs3 := isEmpty_f hca
        refine zgo ?_
        refine zfor (α := AV × List (Nat × Option Blk)) l.length (fun k x => [(10, true, zV k), (9, true, .ptr 10 0 0), (6, true, .ptr 1 0 0), (1, true, zV a), (2, true, .snap (encL encSec l))]) (fun k x => [(10, some (.cells 25 2 [[.own 5 0 st.length, x.1]] true false)), (5, some (.cells 96 8 (encL encSec st) true true)), (1, some (.cells 25 2 [[.c (.slice none 0 0), .c (.slice none 0 0)]] true false))] ++ x.2) (fun k m x => 12 ≤ m ∧ SlOK 193 9 (encL encCa (ca ++ putC a (l.take k))) 7 10 m x.1 x.2) ⟨12, (.own 7 0 ca.length, [(7, some (.cells 193 9 (encL encCa ca) true true))]), ?_, ?_⟩ (fun k m x hk hR => ?_) (fun m x hR => ?_)
        · exact ⟨by omega, .inr ⟨7, by omega, by omega, by omega, by simp [putC, encL_len], by simp [putC]⟩⟩
        · exact zholds
        · obtain ⟨cv, T⟩ := x
          obtain ⟨hm, hS⟩ := hR
          have h5 := putC_succ (a := a) hk
          have h8 : ca ++ putC a (l.take k) ++ [(a + (k : Int), l.getD k zSec)] = ca ++ putC a (l.take (k + 1)) := by rw [List.append_assoc, h5]
          have w2 : IntKind.i64.wrap (a + (k : Int)) = a + (k : Int) := IntWalk.i64_in _ (by omega)
          have h6 : (putC a (l.take k)).length ≤ 4096 := by rw [putC_len, List.length_take]; omega
          rcases hS with ⟨e1, e2, e3⟩ | ⟨id, hid, hidn, hidm, e1, e2⟩
          · exact (nil_not hca e3).elim
          · simp only [] at e1 e2
            subst e1 e2
            clear h5
            refine zgo ?_
            have h7 : (putC a (l.take (k + 1))).length = (putC a (l.take k)).length + 1 := by rw [putC_len, putC_len, List.length_take, List.length_take]; omega
            refine ⟨m + 14, ⟨.own (m + 11) 0 (ca ++ putC a (l.take (k + 1))).length, [(m + 11, some (.cells 193 9 (encL encCa (ca ++ putC a (l.take (k + 1)))) true true))]⟩, ⟨by omega, .inr ⟨m + 11, by omega, by omega, by omega, by rw [encL_len], rfl⟩⟩, ?_⟩
            exact zholds
        · rw [List.take_length] at hR
          obtain ⟨cv, T⟩ := x
          obtain ⟨hm, hS⟩ := hR
          have h6 : (putC a l).length ≤ 4096 := by rw [putC_len]; omega
          rcases hS with ⟨e1, e2, e3⟩ | ⟨id, hid, hidn, hidm, e1, e2⟩
          · exact (nil_not hca e3).elim
          · simp only [] at e1 e2
            subst e1 e2
            refine zgo ?_
            exact zfin
  · rw [if_neg g1]
    unfold encD dsk0 at *
    refine zgo ?_
    exact zfin
end Go.Proofs.YtkghiceeegindaaGreatDoor

/- Running operations, in the reference: the loop. -/
namespace Go.Proofs.YtkghiceeegindaaGreatDoor
open Go.Proofs Go.AL
set_option maxRecDepth 100000
set_option maxHeartbeats 1000000
set_option linter.unusedVariables false
set_option linter.unusedSimpArgs false
attribute [local irreducible] endA AW aops thenA blockA hold

theorem dskE_len {st : List Sec} {st2 : List Sec} (h : st.length ≤ 4096) (h2 : st2.length = st.length) : dskE ⟨st2, []⟩ = 0 := by
  unfold dskE
  rw [if_neg (by simp only []; omega)]
  rfl
theorem rsync_p (d : Dsk) (h1 : d.st.length ≤ 1000000) (h2 : d.ca.length ≤ 1000000) (h0 : dskE d = 0) : PC 119 [.agg (encD d)] (.agg (encD ⟨newL d.st d.ca, []⟩)) := by
  refine pstart Tryz.func119 Tryz.ntmps119 (encD_noId _) ?_
  have c1 := rdcheck_p d h1 h2
  have c2 := rnewest_p d h2 h0
  rw [h0] at c1
  unfold encD at *
  refine zgo ?_
  exact zfin
abbrev Opr := Int × Int × List Sec
def zOp : Opr := (0, 0, [])
theorem gO (l : List Opr) (k : Nat) (h : k < l.length) : (encL opRow l)[k]? = some (opRow (l.getD k zOp)) := encL_get zOp h
/-- What operations do to a disk. -/
def runG : List Opr → Dsk → Nat → Dsk × Int × Int
  | [], d, i => (d, i, 0)
  | o :: r, d, i =>
    if o.1 = 0 then (if (writeE d o.2.1 o.2.2).2 = 0 then runG r (writeE d o.2.1 o.2.2).1 (i + 1) else (dsk0, i, (writeE d o.2.1 o.2.2).2))
    else if o.1 = 1 then runG r ⟨newL d.st d.ca, []⟩ (i + 1)
    else (dsk0, i, 1)
def runE (d : Dsk) (ops : List Opr) : Dsk × Int × Int := if dskE d = 0 then runG ops d 0 else (dsk0, 0, dskE d)
theorem drop_at {α : Type} {l : List α} {k : Nat} (z : α) (h : k < l.length) : l.drop k = l.getD k z :: l.drop (k + 1) := by
  rw [List.drop_eq_getElem_cons h, List.getD_eq_getElem?_getD, List.getElem?_eq_getElem h]
  rfl
/-- The state of a run. -/
def RunI (d : Dsk) (ops : List Opr) (k : Nat) (x : Dsk) : Prop :=
  dskE x = 0 ∧ x.st.length = d.st.length ∧ x.ca.length ≤ d.ca.length + k * 4096 ∧ runG (ops.drop k) x k = runG ops d 0
theorem RunI.write {d : Dsk} {ops : List Opr} {k : Nat} {x : Dsk} (h : RunI d ops k x) (hk : k < ops.length) (h0 : (ops.getD k zOp).1 = 0) (hi : insB x (ops.getD k zOp).2.1 (ops.getD k zOp).2.2.length = true) : RunI d ops (k + 1) ⟨x.st, x.ca ++ putC (ops.getD k zOp).2.1 (ops.getD k zOp).2.2⟩ := by
  obtain ⟨h1, h2, h3, h4⟩ := h
  obtain ⟨q1, q2⟩ := dskE_ok h1
  obtain ⟨q3, q4⟩ := insB_ok hi
  refine ⟨dskE_put h1 hi, h2, ?_, ?_⟩
  · simp only [List.length_append, putC_len]; omega
  · rw [← h4, drop_at zOp hk]
    simp only [runG]
    rw [if_pos h0]
    unfold writeE
    rw [if_pos h1, if_pos hi, if_pos rfl]
theorem RunI.sync {d : Dsk} {ops : List Opr} {k : Nat} {x : Dsk} (h : RunI d ops k x) (hk : k < ops.length) (h0 : (ops.getD k zOp).1 = 1) : RunI d ops (k + 1) ⟨newL x.st x.ca, []⟩ := by
  obtain ⟨h1, h2, h3, h4⟩ := h
  obtain ⟨q1, q2⟩ := dskE_ok h1
  refine ⟨dskE_len q1 (newL_len _ _), by rw [newL_len]; exact h2, by simp, ?_⟩
  · rw [← h4, drop_at zOp hk]
    simp only [runG]
    rw [if_neg (by rw [h0]; decide), if_pos h0]
theorem RunI.bad {d : Dsk} {ops : List Opr} {k : Nat} {x : Dsk} (h : RunI d ops k x) (hk : k < ops.length) (h0 : (ops.getD k zOp).1 ≠ 0) (h5 : (ops.getD k zOp).1 ≠ 1) : runG ops d 0 = (dsk0, (k : Int), 1) := by
  obtain ⟨h1, h2, h3, h4⟩ := h
  rw [← h4, drop_at zOp hk]
  simp only [runG]
  rw [if_neg h0, if_neg h5]
theorem RunI.out {d : Dsk} {ops : List Opr} {k : Nat} {x : Dsk} (h : RunI d ops k x) (hk : k < ops.length) (h0 : (ops.getD k zOp).1 = 0) (hi : insB x (ops.getD k zOp).2.1 (ops.getD k zOp).2.2.length = false) : runG ops d 0 = (dsk0, (k : Int), 2) := by
  obtain ⟨h1, h2, h3, h4⟩ := h
  rw [← h4, drop_at zOp hk]
  simp only [runG]
  rw [if_pos h0]
  unfold writeE
  rw [if_pos h1, hi]
  rfl
theorem RunI.fin {d : Dsk} {ops : List Opr} {x : Dsk} (h : RunI d ops ops.length x) : runG ops d 0 = (x, (ops.length : Int), 0) := by
  obtain ⟨h1, h2, h3, h4⟩ := h
  rw [← h4, List.drop_length]
  rfl
theorem rrun_p (d : Dsk) (ops : List Opr) (h1 : d.st.length ≤ 1000000) (h2 : d.ca.length + ops.length * 4096 ≤ 400000) (h3 : ∀ o ∈ ops, o.2.2.length ≤ 1000000) : PC 75 [.agg (encD d), .snap (encL opRow ops)] (.tup [.agg (encD (runE d ops).1), zV (runE d ops).2.1, zV (runE d ops).2.2]) := by
  refine pstart Tryz.func75 Tryz.ntmps75 (by simp only [go_sem, encD]) ?_
  have c1 := rdcheck_p d h1 (by omega)
  unfold runE
  by_cases g1 : dskE d = 0
  · rw [if_pos g1]
    have h0 : RunI d ops 0 d := ⟨g1, rfl, by omega, rfl⟩
    have c2 := rcopyd_p d h1 (by omega)
    have hg := gO ops
    rw [g1] at c1
    unfold encD at c1 c2 ⊢
    refine zgo ?_
    refine zfor (α := Dsk) ops.length (fun k x => [(8, true, zV k), (4, true, .ptr 1 0 0), (2, true, .ptr 0 0 0), (1, true, .snap (encL opRow ops))]) (fun k x => [(0, some (.cells 25 2 [[.snap (encL encSec x.st), .snap (encL encCa x.ca)]] true false)), (1, some (.cells 25 2 [[.c (.slice none 0 0), .c (.slice none 0 0)]] true false))]) (fun k m x => 2 ≤ m ∧ RunI d ops k x) ⟨40, d, ⟨by omega, h0⟩, zholds⟩ (fun k m x hk hR => ?_) (fun m x hR => ?_)
    · obtain ⟨hm, hI⟩ := hR
      have hb := hI.bad hk
      have ho := hI.out hk
      have hw := hI.write hk
      have hy := hI.sync hk
      obtain ⟨i1, i2, i3, i4⟩ := hI
      have hd := h3 _ (getD_mem' zOp hk)
      have hgk := hg k hk
      have c3 := rwrite_p x (ops.getD k zOp).2.1 (ops.getD k zOp).2.2 (by omega) (by omega) hd
      have c4 := rsync_p x (by omega) (by omega) i1
      clear hg h3 i4 hd
      generalize ops.getD k zOp = o at *
      obtain ⟨kd, a, l⟩ := o
      simp only [] at *
      by_cases g2 : kd = 0
      · subst g2
        unfold writeE at c3
        rw [if_pos i1] at c3
        clear c4 hy hb
        cases hi : insB x a l.length with
        | true =>
          rw [hi, if_pos rfl] at c3
          have hw2 : Lat (RunI d ops (k + 1) ⟨x.st, x.ca ++ putC a l⟩) := ⟨hw rfl hi⟩
          clear hw ho hi i1
          unfold encD opRow at *
          refine zgo ?_
          refine ⟨m + 40, ⟨x.st, x.ca ++ putC a l⟩, ⟨by omega, hw2.out⟩, ?_⟩
          exact zholds
        | false =>
          rw [hi, if_neg (by decide)] at c3
          have ho2 := ho rfl hi
          rw [ho2]
          clear hw ho hi i1 ho2
          unfold encD opRow dsk0 at *
          refine zgo ?_
          exact zfin
      · by_cases g3 : kd = 1
        · subst g3
          have hy2 : Lat (RunI d ops (k + 1) ⟨newL x.st x.ca, []⟩) := ⟨hy rfl⟩
          clear hy hw ho hb c3 i1
          unfold encD opRow at *
          refine zgo ?_
          refine ⟨m + 40, ⟨newL x.st x.ca, []⟩, ⟨by omega, hy2.out⟩, ?_⟩
          exact zholds
        · have hb2 := hb g2 g3
          rw [hb2]
          clear hy hw ho hb c3 c4 i1 hb2
          unfold encD opRow dsk0 at *
          refine zgo ?_
          exact zfin
    · have hf := hR.2.fin
      rw [hf]
      clear hf hR
      refine zgo ?_
      exact zfin
  · rw [if_neg g1]
    unfold encD dsk0 at *
    refine zgo ?_
    exact zfin
end Go.Proofs.YtkghiceeegindaaGreatDoor
