/- Union of sets of sectors: the sweep, the sort. No condition but those named. -/
import Derived.Test.YtniccdnhjbnaeaaDf
import Derived.Test.YtniccdnhjbnaeaaLc
import Derived.KernelRfl
import Derived.Shelf.SlSortCmp.WholeK
import Derived.Shelf.SlSortCmp.NoneTotal
import Derived.Shelf.SlicesG.Cmp
import Derived.Shelf.Lay
import Derived.Ground.SlsfProg
import Derived.Ground.SlgcProg
/- The plain law of the sweep: sorted ends give the canonical list of a set. -/
namespace Go.Proofs.Ytniccdnhjbnaeaa
set_option linter.unusedVariables false
set_option linter.unusedSimpArgs false
open Go.Proofs Go.AL

/-- The canonical list of the marked places below k. -/
def bump : List (Int × Int) → List (Int × Int)
  | [] => []
  | [(s, c)] => [(s, c + 1)]
  | x :: y :: r => x :: bump (y :: r)
def lst (p : Int → Bool) : Nat → List (Int × Int)
  | 0 => []
  | k + 1 => if p k then (if decide (0 < k) && p ((k : Int) - 1) then bump (lst p k) else lst p k ++ [((k : Int), 1)]) else lst p k
theorem bump_app (l : List (Int × Int)) (s c : Int) : bump (l ++ [(s, c)]) = l ++ [(s, c + 1)] := by
  induction l with
  | nil => rfl
  | cons x r ih =>
    cases r with
    | nil => rfl
    | cons y r => simp only [List.cons_append, bump] at ih ⊢; rw [ih]
theorem lst_gap (p : Int → Bool) (x : Nat) : ∀ n, (∀ z : Nat, x ≤ z → z < x + n → p z = false) → lst p (x + n) = lst p x
  | 0, _ => rfl
  | n + 1, h => by
    show lst p ((x + n) + 1) = _
    rw [lst.eq_2, h (x + n) (by omega) (by omega), if_neg (by simp)]
    exact lst_gap p x n fun z h1 h2 => h z h1 (by omega)
theorem lst_run (p : Int → Bool) (s : Nat) (hs : s = 0 ∨ p ((s : Int) - 1) = false) : ∀ n, (∀ z : Nat, s ≤ z → z < s + n + 1 → p z = true) → lst p (s + n + 1) = lst p s ++ [((s : Int), ((n : Int) + 1))]
  | 0, h => by
    show lst p (s + 1) = _
    rw [lst.eq_2, h s (by omega) (by omega)]
    have : (decide (0 < s) && p ((s : Int) - 1)) = false := by
      rcases hs with h | h
      · subst h; rfl
      · rw [h, Bool.and_false]
    simp [this]
  | n + 1, h => by
    have ih := lst_run p s hs n fun z h1 h2 => h z h1 (by omega)
    show lst p ((s + n + 1) + 1) = _
    rw [lst.eq_2, h (s + n + 1) (by omega) (by omega)]
    have h1 : p (((s + n + 1 : Nat) : Int) - 1) = true := by
      have := h (s + n) (by omega) (by omega)
      rw [← this]; congr 1; omega
    rw [h1, ih, bump_app]
    simp

/-- An end: its place, its list, its step. -/
abbrev En := Int × Int × Int
def nxt (n : Int) : List En → Int
  | [] => n
  | x :: _ => x.1
def same : List En → Int → Bool
  | [], _ => false
  | y :: _, a => decide (y.1 = a)
/-- What the sweep answers. -/
def sweepL (keep : Bool → Bool → Bool) : List En → Int → Int → Int → Bool → List (Int × Int) → List (Int × Int)
  | [], _, _, _, _, out => out
  | x :: r, d0, d1, st, ins, out =>
    if same r x.1 then sweepL keep r (if x.2.1 = 0 then d0 + x.2.2 else d0) (if x.2.1 = 0 then d1 else d1 + x.2.2) st ins out
    else
      sweepL keep r (if x.2.1 = 0 then d0 + x.2.2 else d0) (if x.2.1 = 0 then d1 else d1 + x.2.2)
        (if keep (decide (0 < (if x.2.1 = 0 then d0 + x.2.2 else d0))) (decide (0 < (if x.2.1 = 0 then d1 else d1 + x.2.2))) && !ins then x.1 else st)
        (keep (decide (0 < (if x.2.1 = 0 then d0 + x.2.2 else d0))) (decide (0 < (if x.2.1 = 0 then d1 else d1 + x.2.2))))
        (if !keep (decide (0 < (if x.2.1 = 0 then d0 + x.2.2 else d0))) (decide (0 < (if x.2.1 = 0 then d1 else d1 + x.2.2))) && ins then out ++ [(st, x.1 - st)] else out)
/-- The depth at a place. -/
def dep (i : Bool) (z : Int) : List En → Int
  | [] => 0
  | x :: r => (if x.1 ≤ z ∧ decide (x.2.1 = 0) = i then x.2.2 else 0) + dep i z r
theorem dep_append (i : Bool) (z : Int) (u r : List En) : dep i z (u ++ r) = dep i z u + dep i z r := by
  induction u with
  | nil => simp [dep]
  | cons x u ih => simp only [List.cons_append, dep, ih]; omega
theorem dep_perm (i : Bool) (z : Int) {u r : List En} (h : u.Perm r) : dep i z u = dep i z r := by
  induction h with
  | nil => rfl
  | cons x _ ih => simp only [dep, ih]
  | swap x y l => simp only [dep]; omega
  | trans _ _ h1 h2 => exact h1.trans h2
theorem dep_above (i : Bool) (z : Int) : ∀ r : List En, (∀ x ∈ r, z < x.1) → dep i z r = 0
  | [], _ => rfl
  | x :: r, h => by
    have h1 := h x (by simp)
    have h2 := dep_above i z r fun y hy => h y (List.mem_cons_of_mem _ hy)
    simp only [dep, h2, if_neg (show ¬ (x.1 ≤ z ∧ decide (x.2.1 = 0) = i) from fun h => by omega)]
    rfl
theorem dep_below (i : Bool) (z y : Int) : ∀ u : List En, (∀ x ∈ u, x.1 ≤ y) → y ≤ z → dep i z u = dep i y u
  | [], _, _ => rfl
  | x :: r, h, hz => by
    have h1 := h x (by simp)
    have h2 := dep_below i z y r (fun y hy => h y (List.mem_cons_of_mem _ hy)) hz
    simp only [dep, h2, show x.1 ≤ z from by omega, h1]

theorem sweep_lst (keep : Bool → Bool → Bool) (hk : keep false false = false) (p : Int → Bool) (l : List En) (n : Int) (hp : ∀ z : Int, 0 ≤ z → p z = keep (decide (0 < dep true z l)) (decide (0 < dep false z l)))
    (hs : l.Pairwise (fun x y => x.1 ≤ y.1)) (hlo : ∀ x ∈ l, 0 ≤ x.1 ∧ x.1 < n) (htot : ∀ i, dep i n l = 0) :
    ∀ (r u : List En) (d0 d1 st : Int) (ins : Bool) (out : List (Int × Int)), l = u ++ r → d0 = dep true n u → d1 = dep false n u → 0 ≤ nxt n r →
      (ins = true → ∃ s t : Nat, st = s ∧ nxt n r = (s + t + 1 : Nat) ∧ (∀ z : Nat, s ≤ z → z < s + t + 1 → p z = true) ∧ (s = 0 ∨ p ((s : Int) - 1) = false) ∧ out = lst p s) →
      (ins = false → out = lst p (nxt n r).toNat ∧ (nxt n r = 0 ∨ p (nxt n r - 1) = false)) → (r = [] → ins = false) →
      sweepL keep r d0 d1 st ins out = lst p n.toNat
  | [], u, d0, d1, st, ins, out, hl, h0, h1, hn, hy, hno, he => (hno (he rfl)).1
  | x :: r, u, d0, d1, st, ins, out, hl, h0, h1, hn, hy, hno, he => by
    have hx := hlo x (by rw [hl]; simp)
    have h0' : (if x.2.1 = 0 then d0 + x.2.2 else d0) = dep true n (u ++ [x]) := by
      rw [dep_append, h0]
      by_cases h : x.2.1 = 0 <;> simp [dep, h]; omega
    have h1' : (if x.2.1 = 0 then d1 else d1 + x.2.2) = dep false n (u ++ [x]) := by
      rw [dep_append, h1]
      by_cases h : x.2.1 = 0 <;> simp [dep, h]; omega
    have hl' : l = (u ++ [x]) ++ r := by rw [hl]; simp
    have hpw := hs
    rw [hl, List.pairwise_append, List.pairwise_cons] at hpw
    obtain ⟨hu, ⟨hxr, hr⟩, hur⟩ := hpw
    have hux : ∀ y ∈ u ++ [x], y.1 ≤ x.1 := fun y hy => by
      rcases List.mem_append.1 hy with h | h
      · exact hur y h x (by simp)
      · rw [List.mem_singleton.1 h]; omega
    unfold sweepL
    generalize hd0 : (if x.2.1 = 0 then d0 + x.2.2 else d0) = e0 at *
    generalize hd1 : (if x.2.1 = 0 then d1 else d1 + x.2.2) = e1 at *
    cases hsm : same r x.1 with
    | true =>
      have hnx : nxt n r = x.1 := by
        cases r with
        | nil => simp [same] at hsm
        | cons y r => simpa [same, nxt] using hsm
      have hne : r ≠ [] := by rintro rfl; simp [same] at hsm
      rw [if_pos rfl]
      refine sweep_lst keep hk p l n hp hs hlo htot r (u ++ [x]) e0 e1 st ins out hl' h0' h1' (by rw [hnx]; exact hx.1) (fun h => ?_) (fun h => ?_) (fun h => absurd h hne)
      · rw [hnx]; exact hy h
      · rw [hnx]; exact hno h
    | false =>
      rw [if_neg (by simp)]
      have hgt : x.1 < nxt n r := by
        cases r with
        | nil => exact hx.2
        | cons y r =>
          have h1 := hxr y (by simp)
          have h2 : y.1 ≠ x.1 := by simpa [same] using hsm
          show x.1 < y.1
          omega
      have hrn : ∀ y ∈ r, nxt n r ≤ y.1 := fun y hy => by
        cases r with
        | nil => cases hy
        | cons w r =>
          rcases List.mem_cons.1 hy with h | h
          · subst h; exact Int.le_refl _
          · exact (List.pairwise_cons.1 hr).1 y h
      have hdep : ∀ i (z : Int), x.1 ≤ z → z < nxt n r → dep i z l = dep i n (u ++ [x]) := fun i z h3 h4 => by
        rw [hl', dep_append, dep_above i z r fun y hy => by have := hrn y hy; omega, dep_below i z x.1 _ hux h3, dep_below i n x.1 _ hux (by omega)]
        omega
      have hpz : ∀ z : Int, x.1 ≤ z → z < nxt n r → p z = keep (decide (0 < e0)) (decide (0 < e1)) := fun z h3 h4 => by
        rw [hp z (by omega), hdep true z h3 h4, hdep false z h3 h4, ← h0', ← h1']
      have hlast : r = [] → keep (decide (0 < e0)) (decide (0 < e1)) = false := fun h => by
        subst h
        have h5 : l = u ++ [x] := by rw [hl]
        rw [h0', h1', ← h5, htot, htot]
        exact hk
      generalize hnow : keep (decide (0 < e0)) (decide (0 < e1)) = now at *
      obtain ⟨a, ha⟩ : ∃ a : Nat, x.1 = a := ⟨x.1.toNat, by omega⟩
      obtain ⟨b, hb⟩ : ∃ b : Nat, nxt n r = ((a + b + 1 : Nat) : Int) := ⟨(nxt n r - x.1 - 1).toNat, by omega⟩
      refine sweep_lst keep hk p l n hp hs hlo htot r (u ++ [x]) e0 e1 _ now _ hl' h0' h1' (by omega) (fun h => ?_) (fun h => ?_) hlast
      · subst h
        cases ins with
        | true =>
          obtain ⟨s, t, h5, h6, h7, h8, h9⟩ := hy rfl
          have h6' : x.1 = (s + t + 1 : Nat) := h6
          refine ⟨s, t + 1 + b, by simpa using h5, by omega, fun z h10 h11 => ?_, h8, by simpa using h9⟩
          by_cases h12 : z < s + t + 1
          · exact h7 z h10 h12
          · exact hpz z (by omega) (by omega)
        | false =>
          obtain ⟨h5, h6⟩ := hno rfl
          refine ⟨a, b, by simp [ha], hb, fun z h10 h11 => hpz z (by omega) (by omega), ?_, ?_⟩
          · rcases h6 with h6 | h6
            · left; have h6' : x.1 = 0 := h6; omega
            · right; have h6' : p (x.1 - 1) = false := h6; rw [ha] at h6'; exact h6'
          · have h5' : out = lst p x.1.toNat := h5
            rw [ha] at h5'
            simpa using h5'
      · subst h
        have hgap : lst p (nxt n r).toNat = lst p a := by
          rw [hb, Int.toNat_natCast]
          exact lst_gap p a (b + 1) fun z h10 h11 => hpz z (by omega) (by omega)
        have hlastp : p (nxt n r - 1) = false := hpz _ (by omega) (by omega)
        cases ins with
        | true =>
          obtain ⟨s, t, h5, h6, h7, h8, h9⟩ := hy rfl
          have h6' : x.1 = (s + t + 1 : Nat) := h6
          have hst : a = s + t + 1 := by omega
          refine ⟨?_, .inr hlastp⟩
          rw [hgap, hst, lst_run p s h8 t h7]
          simp only [Bool.not_false, Bool.and_self, if_true]
          rw [← h9, h5]
          congr 3
          omega
        | false =>
          obtain ⟨h5, h6⟩ := hno rfl
          have h5' : out = lst p x.1.toNat := h5
          refine ⟨?_, .inr hlastp⟩
          rw [hgap]
          rw [ha] at h5'
          simpa using h5'
def encEn (x : En) : List AV := [zV x.1, zV x.2.1, zV x.2.2]
/-- What slices.SortFunc is asked to do. -/
def SortSaid (srt : List En → List En) : Prop := ∀ (H : Heap) (id : Nat) (a : Bool) (l : List En), l.length ≤ 4000000 → H.get id = some (.cells 148 3 (encL encEn l) true a) →
  ACall Try.prog 96 [.own id 0 l.length, .fn (.func 97) [] []] H (fun r H' => r = .tup [] ∧ H' = setB H id (some (.cells 148 3 (encL encEn (srt l)) true a)))
def Sort0Said : Prop := PCall Try.prog 96 [.c (.slice none 0 0), .fn (.func 97) [] []] (· = .tup [])
/-- The ends of a list's extents. -/
def endsOf (i : Int) (l : List (Int × Int)) : List En := l.flatMap fun e => if (wIn e).2.2 then [((wIn e).1, i, 1), ((wIn e).2.1, i, -1)] else []
theorem endsOf_len (i : Int) (l : List (Int × Int)) : (endsOf i l).length ≤ 2 * l.length := by
  induction l with
  | nil => simp [endsOf]
  | cons x r ih =>
    simp only [endsOf, List.flatMap_cons, List.length_append, List.length_cons] at ih ⊢
    split <;> simp only [List.length_cons, List.length_nil] <;> omega
theorem wIn_rng (e : Int × Int) : 0 ≤ (wIn e).1 ∧ (wIn e).2.1 ≤ 4096 ∧ ((wIn e).2.2 = true → (wIn e).1 < (wIn e).2.1) := by
  unfold wIn
  split
  · simp
  · refine ⟨?_, ?_, fun h => by simpa using h⟩
    · unfold wFrom; split <;> simp only [] <;> omega
    · unfold wTo; repeat' split
      all_goals simp only []
      all_goals omega
theorem endsOf_rng (i : Int) (l : List (Int × Int)) : ∀ x ∈ endsOf i l, 0 ≤ x.1 ∧ x.1 ≤ 4096 ∧ x.2.1 = i ∧ -1 ≤ x.2.2 ∧ x.2.2 ≤ 1 := fun x hx => by
  obtain ⟨e, he, h⟩ := List.mem_flatMap.1 hx
  obtain ⟨h1, h2, h3⟩ := wIn_rng e
  split at h
  · have := h3 (by assumption)
    rcases List.mem_cons.1 h with h | h
    · subst h; exact ⟨h1, by simp only []; omega, rfl, by simp, by simp⟩
    · rw [List.mem_singleton.1 h]; exact ⟨by simp only []; omega, h2, rfl, by simp, by simp⟩
  · cases h
/-- The depth counts the extents that hold a place. -/
theorem dep_ends (b : Bool) (i : Int) (z : Int) (hi : decide (i = 0) = b) : ∀ l : List (Int × Int), 0 ≤ dep b z (endsOf i l) ∧ (0 < dep b z (endsOf i l) ↔ l.any (inE z) = true)
  | [] => by simp [endsOf, dep]
  | e :: r => by
    obtain ⟨ih1, ih2⟩ := dep_ends b i z hi r
    obtain ⟨h1, h2, h3⟩ := wIn_rng e
    have he : endsOf i (e :: r) = (if (wIn e).2.2 then [((wIn e).1, i, 1), ((wIn e).2.1, i, -1)] else []) ++ endsOf i r := by simp [endsOf]
    rw [he, dep_append, List.any_cons]
    have hd : dep b z (if (wIn e).2.2 then [((wIn e).1, i, 1), ((wIn e).2.1, i, -1)] else []) = if inE z e then 1 else 0 := by
      unfold inE
      cases hc : (wIn e).2.2 with
      | false => simp [dep]
      | true =>
        have h4 := h3 hc
        simp only [if_true, dep, hi, and_true, Bool.true_and, Bool.and_eq_true, decide_eq_true_eq]
        by_cases a1 : (wIn e).1 ≤ z <;> by_cases a2 : (wIn e).2.1 ≤ z <;> simp [a1, a2] <;> omega
    rw [hd]
    cases inE z e with
    | false => simp; exact ⟨ih1, by rw [ih2]; simp⟩
    | true => simp; omega
theorem dep_other (b : Bool) (i : Int) (z : Int) (hi : decide (i = 0) = !b) : ∀ l : List (Int × Int), dep b z (endsOf i l) = 0
  | [] => by simp [endsOf, dep]
  | e :: r => by
    have he : endsOf i (e :: r) = (if (wIn e).2.2 then [((wIn e).1, i, 1), ((wIn e).2.1, i, -1)] else []) ++ endsOf i r := by simp [endsOf]
    rw [he, dep_append, dep_other b i z hi r]
    split <;> simp [dep, hi]
/-- The set that two lists and a condition make. -/
def setP (keep : Bool → Bool → Bool) (a b : List (Int × Int)) (z : Int) : Bool := keep (a.any (inE z)) (b.any (inE z))
theorem sweep_all (keep : Bool → Bool → Bool) (hk : keep false false = false) (a b : List (Int × Int)) (l : List En) (hl : l.Perm (endsOf 0 a ++ endsOf 1 b)) (hs : l.Pairwise (fun x y => x.1 ≤ y.1)) :
    sweepL keep l 0 0 0 false [] = lst (setP keep a b) 4097 := by
  have hr : ∀ x ∈ l, 0 ≤ x.1 ∧ x.1 < 4097 := fun x hx => by
    rcases List.mem_append.1 (hl.mem_iff.1 hx) with h | h
    · have := endsOf_rng _ _ x h; omega
    · have := endsOf_rng _ _ x h; omega
  have hd0 : ∀ z, dep true z l = dep true z (endsOf 0 a) := fun z => by rw [dep_perm true z hl, dep_append, dep_other true 1 z (by simp)]; omega
  have hd1 : ∀ z, dep false z l = dep false z (endsOf 1 b) := fun z => by rw [dep_perm false z hl, dep_append, dep_other false 0 z (by simp)]; omega
  have hout : ∀ (c : List (Int × Int)), c.any (inE 4097) = false := fun c => by
    rw [List.any_eq_false]
    intro e _
    have := wIn_rng e
    unfold inE
    simp; intros; omega
  have hb : ∀ x y : Bool, (x = true ↔ y = true) → x = y := by intro x y h; cases x <;> cases y <;> simp_all
  refine sweep_lst keep hk (setP keep a b) l 4097 (fun z hz => ?_) hs hr (fun i => ?_) l [] 0 0 0 false [] rfl rfl rfl ?_ (fun h => by cases h) (fun _ => ⟨?_, ?_⟩) (fun _ => rfl)
  · unfold setP
    rw [hd0, hd1]
    congr 1
    · exact hb _ _ (by rw [(dep_ends true 0 z (by simp) a).2.symm]; simp)
    · exact hb _ _ (by rw [(dep_ends false 1 z (by simp) b).2.symm]; simp)
  · cases i with
    | true =>
      obtain ⟨h1, h2⟩ := dep_ends true 0 4097 (by simp) a
      rw [hd0]
      rw [hout] at h2
      have : ¬ 0 < dep true 4097 (endsOf 0 a) := fun h => by simpa using h2.1 h
      omega
    | false =>
      obtain ⟨h1, h2⟩ := dep_ends false 1 4097 (by simp) b
      rw [hd1]
      rw [hout] at h2
      have : ¬ 0 < dep false 4097 (endsOf 1 b) := fun h => by simpa using h2.1 h
      omega
  · cases l with
    | nil => simp [nxt]
    | cons x r => exact (hr x (by simp)).1
  · have h0 : 0 ≤ nxt 4097 l := by
      cases l with
      | nil => simp [nxt]
      | cons x r => exact (hr x (by simp)).1
    have hz : ∀ z : Nat, (z : Int) < nxt 4097 l → setP keep a b z = false := fun z hz => by
      have ha : ∀ x ∈ l, (z : Int) < x.1 := fun x hx => by
        cases l with
        | nil => cases hx
        | cons y r =>
          have hz' : (z : Int) < y.1 := hz
          rcases List.mem_cons.1 hx with h | h
          · subst h; exact hz'
          · have := (List.pairwise_cons.1 hs).1 x h; omega
      have h1 := dep_above true z l ha
      have h2 := dep_above false z l ha
      rw [hd0] at h1
      rw [hd1] at h2
      have h3 : a.any (inE z) = false := by
        cases h : a.any (inE z) with
        | false => rfl
        | true => have := (dep_ends true 0 z (by simp) a).2.2 h; omega
      have h4 : b.any (inE z) = false := by
        cases h : b.any (inE z) with
        | false => rfl
        | true => have := (dep_ends false 1 z (by simp) b).2.2 h; omega
      unfold setP
      rw [h3, h4, hk]
    have := lst_gap (setP keep a b) 0 (nxt 4097 l).toNat fun z _ h => hz z (by omega)
    rw [Nat.zero_add] at this
    exact this.symm
  · have h0 : 0 ≤ nxt 4097 l := by
      cases l with
      | nil => simp [nxt]
      | cons x r => exact (hr x (by simp)).1
    by_cases hx : nxt 4097 l = 0
    · exact .inl hx
    · right
      obtain ⟨z, hz⟩ : ∃ z : Nat, nxt 4097 l - 1 = z := ⟨(nxt 4097 l - 1).toNat, by omega⟩
      rw [hz]
      have ha : ∀ x ∈ l, (z : Int) < x.1 := fun x hx => by
        cases l with
        | nil => cases hx
        | cons y r =>
          have hz' : y.1 - 1 = z := hz
          rcases List.mem_cons.1 hx with h | h
          · subst h; omega
          · have := (List.pairwise_cons.1 hs).1 x h; omega
      have h1 := dep_above true z l ha
      have h2 := dep_above false z l ha
      rw [hd0] at h1
      rw [hd1] at h2
      have h3 : a.any (inE z) = false := by
        cases h : a.any (inE z) with
        | false => rfl
        | true => have := (dep_ends true 0 z (by simp) a).2.2 h; omega
      have h4 : b.any (inE z) = false := by
        cases h : b.any (inE z) with
        | false => rfl
        | true => have := (dep_ends false 1 z (by simp) b).2.2 h; omega
      unfold setP
      rw [h3, h4, hk]
end Go.Proofs.Ytniccdnhjbnaeaa

namespace Go.Proofs.Ytniccdnhjbnaeaa
open Go.Proofs Go.AL
set_option maxRecDepth 100000
set_option maxHeartbeats 1000000
set_option linter.unusedVariables false
set_option linter.unusedSimpArgs false
attribute [local irreducible] endA AW aops thenA blockA hold
attribute [local go_sem] dec_ltT dec_ltF dec_leT dec_leF beq_T beq_F bne_T bne_F encEn encExt


instance : RowEnc encEn 3 := ⟨fun _ => rfl, fun _ => rfl, fun a x hx => by
  simp only [encEn, List.mem_cons, List.not_mem_nil, or_false] at hx
  rcases hx with rfl | rfl | rfl <;> exact .c _⟩
def EvE (wv : AV) (m : Nat) (mb : Option Blk) (l : List En) : Prop :=
  (wv = .own m 0 l.length ∧ mb = some (.cells 148 3 (encL encEn l) true true)) ∨ (wv = .c (.slice none 0 0) ∧ mb = none ∧ l = [])
theorem EvE.mk {m n : Nat} {l : List En} (h : n = l.length) : EvE (.own m 0 n) m (some (.cells 148 3 (encL encEn l) true true)) l := .inl ⟨by rw [h], rfl⟩
theorem EvE.nil0 {m : Nat} : EvE (.c (.slice none 0 0)) m none [] := .inr ⟨rfl, rfl, rfl⟩
theorem en_snoc2 (a : List En) (x y z u v w : Int) : encL encEn a ++ [[zV x, zV y, zV z], [zV u, zV v, zV w]] = encL encEn (a ++ [(x, y, z), (u, v, w)]) := by simp [encL, encEn]
theorem ends_hit {i : Int} {l : List (Int × Int)} {k : Nat} (h : k < l.length) (h0 : (wIn (l.getD k zExt)).2.2 = true) : endsOf i (l.take (k + 1)) = endsOf i (l.take k) ++ [((wIn (l.getD k zExt)).1, i, 1), ((wIn (l.getD k zExt)).2.1, i, -1)] := by
  have h1 : (wIn l[k]).2.2 = true := by simpa [h] using h0
  unfold endsOf
  rw [List.take_succ_eq_append_getElem h, List.flatMap_append]
  simp [h, h1]
theorem ends_skip {i : Int} {l : List (Int × Int)} {k : Nat} (h : k < l.length) (h0 : (wIn (l.getD k zExt)).2.2 = false) : endsOf i (l.take (k + 1)) = endsOf i (l.take k) := by
  have h1 : (wIn l[k]).2.2 = false := by simpa [h] using h0
  unfold endsOf
  rw [List.take_succ_eq_append_getElem h, List.flatMap_append]
  simp [h, h1]
def preE (a b : List (Int × Int)) (i : Nat) : List En := (if 1 ≤ i then endsOf 0 a else []) ++ (if 2 ≤ i then endsOf 1 b else [])
def lE (a b : List (Int × Int)) (i : Nat) : List (Int × Int) := if i = 0 then a else b
theorem preE_len (a b : List (Int × Int)) (i : Nat) : (preE a b i).length ≤ 2 * a.length + 2 * b.length := by
  unfold preE
  have h1 := endsOf_len 0 a
  have h2 := endsOf_len 1 b
  rw [List.length_append]
  split <;> split <;> (try simp only [List.length_nil]) <;> omega
theorem preE_succ (a b : List (Int × Int)) (i : Nat) (h : i < 2) : preE a b (i + 1) = preE a b i ++ endsOf i (lE a b i) := by
  rcases (show i = 0 ∨ i = 1 by omega) with rfl | rfl <;> simp [preE, lE]
def HeadEo (a b : List (Int × Int)) (n : Nat) (env : List (Nat × Bool × AV)) (H : Heap) : Prop :=
  ∃ (i : Nat) (wv : AV) (m : Nat) (mb : Option Blk) (N : Nat), n = 2 - i ∧ i ≤ 2 ∧ EvE wv m mb (preE a b i) ∧ m < N ∧
    env = [(13, true, zV (i : Int)), (12, true, zV 2), (11, true, .snap [[.snap (encL encExt a)], [.snap (encL encExt b)]]), (3, true, wv)] ∧ H = ⟨N, tabG [(m, mb)]⟩
def HeadEi (a b : List (Int × Int)) (i : Nat) (n : Nat) (env : List (Nat × Bool × AV)) (H : Heap) : Prop :=
  ∃ (k : Nat) (wv : AV) (m : Nat) (mb : Option Blk) (N : Nat), n = (lE a b i).length - k ∧ k ≤ (lE a b i).length ∧ EvE wv m mb (preE a b i ++ endsOf i ((lE a b i).take k)) ∧ m < N ∧
    env = [(20, true, zV (k : Int)), (19, true, zV ((lE a b i).length : Int)), (18, true, .snap (encL encExt (lE a b i))), (4, true, zV (i : Int)), (13, true, zV (i : Int)), (12, true, zV 2), (11, true, .snap [[.snap (encL encExt a)], [.snap (encL encExt b)]]), (3, true, wv)] ∧ H = ⟨N, tabG [(m, mb)]⟩


theorem ends_p (srt : List En → List En) (hsrt : SortSaid srt) (hsrt0 : Sort0Said) (hs0 : srt [] = []) (a b : List (Int × Int)) (ha : ∀ x ∈ a, I64e x.1 ∧ I64e x.2) (hb : ∀ x ∈ b, I64e x.1 ∧ I64e x.2) (hal : a.length ≤ 400000) (hbl : b.length ≤ 400000) (hsl : ∀ l, (srt l).length = l.length) :
    PCall Try.prog 89 [.snap [[.snap (encL encExt a)], [.snap (encL encExt b)]]] (· = .snap (encL encEn (srt (endsOf 0 a ++ endsOf 1 b)))) := by
  refine PCall.wk ?_ (by rw [noId_snap, encL_noIdE]; trivial)
  refine pcall Try.func89 rfl (by kernel_rfl) (by simp [Try.ntmps89]) ?_
  rw [Try.ntmps89]
  repeat (first | (refine aw_seq ?_) | (apply w_region (by rfl); (next => (simp (maxSteps := 2000000) (disch := omega) only [go_sem] <;> exact rfl))) | (refine w_nil ?_) | (refine w_then ?_) | (refine aw_block ?_))
  refine w_loop (HeadEo a b) 2 ?_ ?_
  · refine ⟨_, _, ⟨0, _, 0, none, 1000, by omega, by omega, EvE.nil0, by omega, rfl, rfl⟩, ?_⟩
    refine holds_cons (by rfl) (holds_cons (by rfl) (holds_cons (by rfl) (holds_cons (by rfl) (holds_nil (by simp only []; omega) (sub_none (sub_nil))))))
  · rintro n env H ⟨i, wv, m, mb, N, rfl, hi, hwv, hmN, rfl, rfl⟩
    by_cases hi2 : i < 2
    · have hll : (lE a b i).length ≤ 400000 := by unfold lE; split <;> assumption
      have hrl : ∀ x ∈ lE a b i, I64e x.1 ∧ I64e x.2 := by unfold lE; split <;> assumption
      have hget : ([[AV.snap (encL encExt a)], [.snap (encL encExt b)]] : List (List AV))[i]? = some [.snap (encL encExt (lE a b i))] := by
        rcases (show i = 0 ∨ i = 1 by omega) with rfl | rfl <;> rfl
      · repeat (first | (refine aw_seq ?_) | (apply w_region (by rfl); (next => (simp (maxSteps := 2000000) (disch := omega) only [go_sem, hget] <;> exact rfl))) | (refine w_nil ?_) | (refine w_then ?_) | (refine aw_skip ?_) | (refine aw_block ?_) | (apply w_condT; (next => (simp (maxSteps := 2000000) (disch := omega) only [go_sem, hget] <;> done))))
        refine w_loop (HeadEi a b i) (lE a b i).length ?_ ?_
        · refine ⟨_, _, ⟨0, wv, m, mb, N, by omega, by omega, (by simpa [endsOf] using hwv), hmN, rfl, rfl⟩, ?_⟩
          refine holds_cons (by rfl) (holds_cons (by rfl) (holds_cons (by rfl) (holds_cons (by rfl) (holds_cons (by rfl) (holds_cons (by rfl) (holds_cons (by rfl) (holds_cons (by rfl) (holds_nil (by simp only []; omega) (sub_cons (by (first | rfl | (simp (disch := omega) only [go_sem, encD]; done) | (simp (disch := omega) only [go_sem, encD]; rfl))) (sub_nil))))))))))
        · rintro n' env H ⟨k, wv, m, mb, N, rfl, hk, hwv, hmN, rfl, rfl⟩
          have hpl := preE_len a b i
          have hel := endsOf_len i ((lE a b i).take k)
          have htl : ((lE a b i).take k).length ≤ k := by simp; omega
          by_cases hkl : k < (lE a b i).length
          · have hx := hrl _ (getD_mem' zExt hkl)
            have cw := within_p _ _ hx.1 hx.2
            cases hw : (wIn ((lE a b i).getD k zExt)).2.2
            · have hxh := ends_skip (i := i) hkl hw
              repeat (first | (refine aw_seq ?_) | (apply w_region (by rfl); (next => (simp (maxSteps := 2000000) (disch := omega) only [go_sem, (encL_get (f := encExt) zExt), hw] <;> exact rfl))) | (refine w_nil ?_) | (refine w_then ?_) | (refine w_blockN ?_) | (refine aw_skip ?_) | (refine aw_block ?_) | (apply w_condT; (next => (simp (maxSteps := 2000000) (disch := omega) only [go_sem, (encL_get (f := encExt) zExt), hw] <;> done))) | (apply w_condF; (next => (simp (maxSteps := 2000000) (disch := omega) only [go_sem, (encL_get (f := encExt) zExt), hw] <;> done))) | (apply w_callP (f := .func 56) (hop := rfl) (hg := rfl) (hp := cw); (next => (simp (maxSteps := 2000000) (disch := omega) only [go_sem, (encL_get (f := encExt) zExt), hw] <;> exact rfl)); (next => (simp [noId_c, noId_agg, noId_snap, noId_tup,encD,sec_noIdE,encL_noId,encL_noIdE,encCa,encOp,encExt,encEn]; done)); (next => (simp (maxSteps := 2000000) (disch := omega) only [go_sem, (encL_get (f := encExt) zExt), hw] <;> exact rfl))))
              refine ⟨(lE a b i).length - (k + 1), by omega, _, _, ⟨k + 1, wv, m, mb, N + 1000, rfl, by omega, (by rw [hxh]; exact hwv), by omega, rfl, rfl⟩, ?_⟩
              refine holds_cons (by rfl) (holds_cons (by rfl) (holds_cons (by rfl) (holds_cons (by rfl) (holds_cons (by rfl) (holds_cons (by rfl) (holds_cons (by rfl) (holds_cons (by rfl) (holds_nil (by simp only []; omega) (sub_cons (by (first | rfl | (simp (disch := omega) only [go_sem, encD]; done) | (simp (disch := omega) only [go_sem, encD]; rfl))) (sub_nil))))))))))
            · have hxh := ends_hit (i := i) hkl hw
              rcases hwv with ⟨rfl, rfl⟩ | ⟨rfl, rfl, hnil⟩
              · repeat (first | (refine aw_seq ?_) | (apply w_region (by rfl); (next => (simp (maxSteps := 2000000) (disch := omega) only [go_sem, (encL_get (f := encExt) zExt), hw, en_snoc2] <;> exact rfl))) | (refine w_nil ?_) | (refine w_then ?_) | (refine w_blockN ?_) | (refine aw_skip ?_) | (refine aw_block ?_) | (apply w_condT; (next => (simp (maxSteps := 2000000) (disch := omega) only [go_sem, (encL_get (f := encExt) zExt), hw, en_snoc2] <;> done))) | (apply w_callP (f := .func 56) (hop := rfl) (hg := rfl) (hp := cw); (next => (simp (maxSteps := 2000000) (disch := omega) only [go_sem, (encL_get (f := encExt) zExt), hw, en_snoc2] <;> exact rfl)); (next => (simp [noId_c, noId_agg, noId_snap, noId_tup,encD,sec_noIdE,encL_noId,encL_noIdE,encCa,encOp,encExt,encEn]; done)); (next => (simp (maxSteps := 2000000) (disch := omega) only [go_sem, (encL_get (f := encExt) zExt), hw, en_snoc2] <;> exact rfl))))
                refine ⟨(lE a b i).length - (k + 1), by omega, _, _, ⟨k + 1, .own (N + 1 + 1 + 1) 0 ((preE a b i).length + (endsOf i ((lE a b i).take k)).length + 2), N + 1 + 1 + 1, _, N + 1000, rfl, by omega, (by rw [hxh, ← List.append_assoc]; exact EvE.mk (by simp [Nat.add_assoc])), by omega, rfl, rfl⟩, ?_⟩
                refine holds_cons (by rfl) (holds_cons (by rfl) (holds_cons (by rfl) (holds_cons (by rfl) (holds_cons (by rfl) (holds_cons (by rfl) (holds_cons (by rfl) (holds_cons (by rfl) (holds_nil (by simp only []; omega) (sub_cons (by (first | rfl | (simp (disch := omega) only [go_sem, encD]; done) | (simp (disch := omega) only [go_sem, encD]; rfl))) (sub_nil))))))))))
              · repeat (first | (refine aw_seq ?_) | (apply w_region (by rfl); (next => (simp (maxSteps := 2000000) (disch := omega) only [go_sem, (encL_get (f := encExt) zExt), hw] <;> exact rfl))) | (refine w_nil ?_) | (refine w_then ?_) | (refine w_blockN ?_) | (refine aw_skip ?_) | (refine aw_block ?_) | (apply w_condT; (next => (simp (maxSteps := 2000000) (disch := omega) only [go_sem, (encL_get (f := encExt) zExt), hw] <;> done))) | (apply w_callP (f := .func 56) (hop := rfl) (hg := rfl) (hp := cw); (next => (simp (maxSteps := 2000000) (disch := omega) only [go_sem, (encL_get (f := encExt) zExt), hw] <;> exact rfl)); (next => (simp [noId_c, noId_agg, noId_snap, noId_tup,encD,sec_noIdE,encL_noId,encL_noIdE,encCa,encOp,encExt,encEn]; done)); (next => (simp (maxSteps := 2000000) (disch := omega) only [go_sem, (encL_get (f := encExt) zExt), hw] <;> exact rfl))))
                refine ⟨(lE a b i).length - (k + 1), by omega, _, _, ⟨k + 1, .own (N + 1 + 1 + 1) 0 2, N + 1 + 1 + 1, _, N + 1000, rfl, by omega, (by rw [hxh, ← List.append_assoc, hnil]; exact EvE.mk rfl), by omega, rfl, rfl⟩, ?_⟩
                refine holds_cons (by rfl) (holds_cons (by rfl) (holds_cons (by rfl) (holds_cons (by rfl) (holds_cons (by rfl) (holds_cons (by rfl) (holds_cons (by rfl) (holds_cons (by rfl) (holds_nil (by simp only []; omega) (sub_cons (by (first | rfl | (simp (disch := omega) only [go_sem, encD]; done) | (simp (disch := omega) only [go_sem, encD]; rfl))) (sub_nil))))))))))
          · obtain rfl : k = (lE a b i).length := by omega
            rw [List.take_length, ← preE_succ a b i hi2] at hwv
            repeat (first | (refine aw_seq ?_) | (apply w_region (by rfl); (next => (simp (maxSteps := 2000000) (disch := omega) only [go_sem] <;> exact rfl))) | (refine w_nil ?_) | (refine w_then ?_) | (refine w_thenE ?_) | (refine w_blockN ?_) | (refine w_blockE ?_) | (refine aw_exit ?_) | (apply w_condF; (next => (simp (maxSteps := 2000000) (disch := omega) only [go_sem] <;> done))))
            refine ⟨2 - (i + 1), by omega, _, _, ⟨i + 1, wv, m, mb, N + 1000, rfl, by omega, hwv, by omega, rfl, rfl⟩, ?_⟩
            refine holds_cons (by rfl) (holds_cons (by rfl) (holds_cons (by rfl) (holds_cons (by rfl) (holds_nil (by simp only []; omega) (sub_cons (by (first | rfl | (simp (disch := omega) only [go_sem, encD]; done) | (simp (disch := omega) only [go_sem, encD]; rfl))) (sub_nil))))))
    · obtain rfl : i = 2 := by omega
      have hpe : preE a b 2 = endsOf 0 a ++ endsOf 1 b := by simp [preE]
      have hpl := preE_len a b 2
      have hsl2 := hsl (preE a b 2)
      rw [hpe] at hwv hpl hsl2
      generalize endsOf 0 a ++ endsOf 1 b = L at hwv hpl hsl2
      rcases hwv with ⟨rfl, rfl⟩ | ⟨rfl, rfl, hnil⟩
      · repeat (first | (refine aw_seq ?_) | (apply w_region (by rfl); (next => (simp (maxSteps := 2000000) (disch := omega) only [go_sem] <;> exact rfl))) | (refine w_nil ?_) | (refine w_then ?_) | (refine w_thenE ?_) | (refine w_blockE ?_) | (refine aw_exit ?_) | (apply w_condF; (next => (simp (maxSteps := 2000000) (disch := omega) only [go_sem] <;> done))))
        refine w_callA (args := [.own m 0 L.length, .fn (.func 97) [] []]) (n := 96) rfl rfl ?hc (hsrt _ m true L (by omega) ?ha) ?hrest
        case hc => (first | rfl | (simp (disch := omega) only [go_sem, encD]; done) | (simp (disch := omega) only [go_sem, encD]; rfl))
        case ha => (first | rfl | (simp (disch := omega) only [go_sem, encD]; done) | (simp (disch := omega) only [go_sem, encD]; rfl))
        case hrest =>
          rintro r H' ⟨rfl, rfl⟩
          generalize hsrl : srt L = sl at hsl2 ⊢
          have hsl3 : L.length = sl.length := hsl2.symm
          apply w_go
          (next => (simp (maxSteps := 2000000) (disch := omega) only [go_sem] <;> exact rfl))
          repeat (first | (refine aw_seq ?_) | (apply w_region (by rfl); (next => (simp (maxSteps := 2000000) (disch := omega) only [go_sem, hsl3] <;> exact rfl))) | (refine w_nil ?_) | (refine w_hold2 ?_) | (refine w_then ?_) | (refine aw_ret ?_) | (apply w_end; (next => (simp (maxSteps := 2000000) (disch := omega) only [go_sem, hsl3, Try.f89] <;> exact rfl))))
          (simp (maxSteps := 2000000) (disch := omega) only [go_sem, noId_c, noId_agg, noId_tup, noId_snap, encL_noIdE, sec_noIdE, List.drop_zero, List.take_length]; (repeat (first | exact .refl _ | exact .nil | exact wks_nil | refine wks_cons ?_ ?_ | refine wk_tup ?_ | refine wk_agg ?_)))
      · subst hnil
        rw [hs0]
        repeat (first | (refine aw_seq ?_) | (apply w_region (by rfl); (next => (simp (maxSteps := 2000000) (disch := omega) only [go_sem] <;> exact rfl))) | (refine w_nil ?_) | (refine w_hold2 ?_) | (refine w_then ?_) | (refine w_thenE ?_) | (refine w_blockE ?_) | (refine aw_ret ?_) | (refine aw_exit ?_) | (apply w_end; (next => (simp (maxSteps := 2000000) (disch := omega) only [go_sem, Try.f89] <;> exact rfl))) | (apply w_condF; (next => (simp (maxSteps := 2000000) (disch := omega) only [go_sem] <;> done))) | (apply w_callP (f := .func 96) (hop := rfl) (hg := rfl) (hp := hsrt0); (next => (simp (maxSteps := 2000000) (disch := omega) only [go_sem] <;> exact rfl)); (next => (simp [noId_c, noId_agg, noId_snap, noId_tup,noId_fn]; done)); (next => (simp (maxSteps := 2000000) (disch := omega) only [go_sem] <;> exact rfl))))
        (simp (maxSteps := 2000000) (disch := omega) only [go_sem, noId_c, noId_agg, noId_tup, noId_snap, encL_noIdE, sec_noIdE, List.drop_zero, List.take_length]; (repeat (first | exact .refl _ | exact .nil | exact wks_nil | refine wks_cons ?_ ?_ | refine wk_tup ?_ | refine wk_agg ?_)))

end Go.Proofs.Ytniccdnhjbnaeaa

/- slices.SortFunc over the ends of the sweep. -/
namespace Go.Proofs.Ytniccdnhjbnaeaa
open Go.Proofs Go.AL Go.RowKit Go.Sort Go.Shelf Go.Lib
set_option linter.unusedVariables false
set_option linter.unusedSimpArgs false
shelf_lay_g SlLaysF0.n6 Slsf 6 at Try 96 as Try.sortE
shelf_lay_g SlLaysC2.n5 Slgc 5 at Try 98 as Try.cmpE

def encEv (x : En) : List Value := [.int .i64 x.1, .int .i64 x.2.1, .int .i64 x.2.2]
def cfE (x y : En) : Int := Lib.compareInt x.1 y.1
theorem ltE (x y : En) : ltOf cfE x y = decide (x.1 < y.1) := by
  unfold ltOf cfE Lib.compareInt
  by_cases h1 : x.1 < y.1
  · simp [h1]
  · by_cases h2 : y.1 < x.1 <;> simp [h1, h2]
theorem swoE : SWO (ltOf cfE) where
  irrefl x := by rw [ltE]; simp
  trans x y z h1 h2 := by rw [ltE] at *; simp at *; omega
  ntrans x y z h1 h2 := by rw [ltE] at *; simp at *; omega

/-- The ends, sorted as the program sorts them. -/
def srtE (l : List En) : List En := (pdq (ltOf cfE) l.toArray 0 l.length (Lib.bitLen l.length) true true).toList
theorem srtE_spec (l : List En) : (srtE l).length = l.length ∧ (srtE l).Perm l ∧ (srtE l).Pairwise (fun x y => x.1 ≤ y.1) := by
  have h := pdq_sorts (ltOf cfE) swoE l.toArray 0 l.length (Lib.bitLen l.length) true true (Nat.zero_le _) (Nat.le_refl _) (Or.inl rfl)
  unfold srtE
  generalize pdq (ltOf cfE) l.toArray 0 l.length (Lib.bitLen l.length) true true = d at h
  obtain ⟨⟨h1, _, h2⟩, h3⟩ := h
  have hs : d.size = l.length := by simpa using h1
  refine ⟨by simpa using h1, ?_, ?_⟩
  · have e1 : (d.extract 0 l.length) = d := by rw [← hs]; simp
    have e2 : (l.toArray.extract 0 l.length) = l.toArray := by simp
    rw [e1, e2] at h2
    exact h2
  · rw [List.pairwise_iff_getElem]
    intro i j hi hj hij
    have := h3 i j (Nat.zero_le _) hij (by simpa [hs] using hj)
    rw [ltE] at this
    have hi' : i < d.size := by simpa using hi
    have hj' : j < d.size := by simpa using hj
    rw [getElem!_pos d i hi', getElem!_pos d j hj'] at this
    simp only [decide_eq_false_iff_not, Array.getElem_toList] at this ⊢
    omega

set_option maxHeartbeats 1000000 in
theorem closureE (x y : En) (W : World) : Calls Try.prog 97 #[.agg #[.int .i64 x.1, .int .i64 x.2.1, .int .i64 x.2.2], .agg #[.int .i64 y.1, .int .i64 y.2.1, .int .i64 y.2.2]] W fun e w' => e = .returned (.int .i64 (cfE x y)) ∧ ∃ q os', w' = grow (W.drewN q) os' := by
  have hcon := fun W' => AnyG.cmp_Compare_int Try.cmpE x.1 y.1 W'
  change ∀ W', Calls Try.prog 98 _ _ _ at hcon
  unfold cfE
  generalize Lib.compareInt x.1 y.1 = r at hcon ⊢
  go_enter Try.func97, Try.ntmps97
  go_wp2_with (go_at_call 98; refine (hcon _).mono ?_; rintro e w' ⟨rfl, rfl⟩)
  go_ret
  exact ⟨rfl, 0, _, by rw [alloc_eq_grow, alloc_eq_grow, grow_grow]; rfl⟩

theorem cmpLaysE (blk off size : Nat) (w : World) : CmpLays Try.prog 97 #[] encEv 3 cfE blk off size w :=
  fun _ _ _ _ x y => closureE x y _

theorem heap_putRow {α : Type} [Inhabited α] (enc : α → Value) (w : World) (blk off : Nat) (d : Array α) (cur : Array Value) (e : TypeId) (f : Nat × Nat) (h : w.heap[blk]? = some (.cells cur e f)) (k : Nat) :
    (putRow enc w blk off d).heap[k]? = (w.setRow blk (putCells enc off d cur)).heap[k]? := by
  by_cases hk : k = blk
  · subst hk
    rw [setRow_heap w k cur _ e f h]
    show (w.heap.modify k _)[k]? = _
    rw [Array.getElem?_modify, if_pos rfl, h]
    rfl
  · rw [setRow_other w blk k _ hk]
    show (w.heap.modify blk _)[k]? = _
    rw [Array.getElem?_modify, if_neg (Ne.symm hk)]

theorem encL_row {l : List En} {i : Nat} {row : List AV} (h : (encL encEn l)[i]? = some row) : ∃ x, l[i]? = some x ∧ row = encEn x := by
  unfold encL at h
  rw [List.getElem?_map] at h
  cases hk : l[i]? with
  | none => rw [hk] at h; cases h
  | some q => rw [hk] at h; injection h with h; exact ⟨q, rfl, h.symm⟩
theorem encEn_cell {x : En} {j : Nat} {a : AV} (h : (encEn x)[j]? = some a) : j < 3 ∧ a = .c (encEv x)[j]! ∧ isAggV (encEv x)[j]! = false := by
  match j, h with
  | 0, h => injection h with h; exact ⟨by omega, h.symm, rfl⟩
  | 1, h => injection h with h; exact ⟨by omega, h.symm, rfl⟩
  | 2, h => injection h with h; exact ⟨by omega, h.symm, rfl⟩

theorem sort_a : SortSaid srtE := fun H id a l hl hg => by
  refine acallR (by kernel_rfl) hg fun E W vs cur hH hvs hcur hsize hcells hlen hsz => ?_
  obtain ⟨v1, v2, rfl⟩ : ∃ v1 v2, vs = [v1, v2] := by
    match vs, hvs.1 with
    | [v1, v2], _ => exact ⟨v1, v2, rfl⟩
  have hv1 := hvs.2 0 _ v1 rfl rfl
  have hv2 := hvs.2 1 _ v2 rfl rfl
  cases hv2 with
  | fn _ _ _ vf vc h1 h2 _ _ =>
  obtain rfl : vf = #[] := by apply Array.eq_empty_of_size_eq_zero; simpa using h1.symm
  obtain rfl : vc = #[] := by apply Array.eq_empty_of_size_eq_zero; simpa using h2.symm
  obtain ⟨s1, s2, s3⟩ := srtE_spec l
  have hLl : (encL encEn l).length = l.length := by simp [encL]
  -- none
  have hnone : l = [] → ∀ (p : Option Addr) (cap : Nat), Calls Try.prog 96 #[.slice p 0 cap, .func (.func 97) #[] #[]] W fun e W' => ∃ v, e = .returned v ∧ ∃ r cur' rows',
      cur'.size = cur.size ∧ rows'.length = (encL encEn l).length ∧ (∀ (i : Nat) row, rows'[i]? = some row → row.length = 3) ∧
      (∀ (i j : Nat) row x, rows'[i]? = some row → row[j]? = some x → ∃ v, cur'[i * 3 + j]? = some v ∧ RV E W x v) ∧
      Go.RowKit.Below W.heap.size (W.setRow (E.ι id) cur') W' ∧ RV E W' r v ∧ (r = .tup [] ∧ setB H id (some (.cells 148 3 rows' true a)) = setB H id (some (.cells 148 3 (encL encEn (srtE l)) true a))) := fun he p cap => by
    subst he
    have hs : srtE [] = [] := List.eq_nil_of_length_eq_zero s1
    refine (AnyF.slices_SortFunc_none (P := Try.prog) (ρ := Try.sortE_ren) { Try.sortE with } p cap (.func (.func 97) #[] #[]) W).mono ?_
    rintro e W' ⟨rfl, rfl⟩
    refine ⟨_, rfl, .tup [], cur, [], rfl, rfl, (fun i row h => by cases h), (fun i j row x h => by cases h), ⟨rfl, rfl, rfl, by simp, fun k hk => ?_⟩, ?_, rfl, by rw [hs]; rfl⟩
    · by_cases hkk : k = E.ι id
      · subst hkk; rw [setRow_heap W' _ cur cur 148 (0, 0) hcur]; exact hcur
      · rw [setRow_other W' _ k cur hkk]
    · exact .tup [] #[] rfl fun i x v h => by cases h
  generalize hn : l.length = n at hv1
  cases hv1 with
  | own0 _ _ p hU =>
    exact hnone (List.eq_nil_of_length_eq_zero hn) p 0
  | own _ _ _ cap hU hlc hsz2 =>
    subst hn
    by_cases h0 : l = []
    · have h5 : l.length = 0 := by rw [h0]; rfl
      have := hnone h0 (some ⟨E.ι id, 0 * E.sz id, none⟩) cap
      rw [h5]
      exact this
    · have hcell : ∀ t, t < l.length * 3 → cur[t]? = some (encEv l.toArray[t / 3]!)[t % 3]! := fun t ht => by
        have h6 : t / 3 < l.length := by omega
        have h7 : t % 3 < 3 := Nat.mod_lt _ (by omega)
        have h8 : (encL encEn l)[t / 3]? = some (encEn l[t / 3]) := by simp [encL, h6]
        have h9 : (encEn l[t / 3])[t % 3]? = some (.c (encEv l[t / 3])[t % 3]!) := by
          rcases (show t % 3 = 0 ∨ t % 3 = 1 ∨ t % 3 = 2 by omega) with h | h | h <;> rw [h] <;> rfl
        obtain ⟨v, h10, h11⟩ := hcells _ _ _ _ h8 h9
        cases h11
        rw [show t / 3 * 3 + t % 3 = t by omega] at h10
        rw [h10, getElem!_pos l.toArray (t / 3) (by simpa using h6)]
        rfl
      have hcs : l.length * 3 ≤ cur.size := by rw [hLl] at hsize; exact hsize
      have hH2 : HoldsK encEv 3 W (E.ι id) 0 l.toArray := fun t ht => by
        rw [size_flatK] at ht
        have ht' : t < l.length * 3 := by simpa using ht
        rw [get_flatK _ _ _ _ ht]
        refine ⟨?_, ?_⟩
        · rw [Nat.zero_add, cell_of_row W _ t cur 148 (0, 0) hcur]; exact hcell t ht'
        · unfold World.frozen?
          simp [hcur]
      have hU2 := hH.core.inW id hU
      have hcon := AnyQ.slices_SortFunc_eq Try.sortE 3 Try.isAgg148 Try.sizeOf148 encEv (fun _ => rfl) (fun x v hv => by simp [encEv] at hv; rcases hv with rfl | rfl | rfl <;> rfl) cfE swoE 97 #[] (E.ι id) 0 cap l.toArray W (enters_of Try.func97 (by kernel_rfl) rfl) (cmpLaysE _ _ _ W) hH2 hU2 (by simp; omega)
      have e0 : (0 * E.sz id) = 0 := Nat.zero_mul _
      rw [e0]
      change Calls Try.prog 96 _ _ _ at hcon
      have el : l.toArray.size = l.length := by simp
      rw [el] at hcon
      refine hcon.mono ?_
      rintro e W' ⟨rfl, n, os, hW⟩
      have hd : pdq (ltOf cfE) l.toArray 0 l.length (Lib.bitLen l.length) true true = (srtE l).toArray := by unfold srtE; simp
      rw [hd] at hW
      refine ⟨_, rfl, .tup [], putCells _root_.id 0 (flatK encEv 3 (srtE l).toArray) cur, encL encEn (srtE l), by simp [putCells], by simp [encL, s1], fun i row h => ?_, fun i j row x h h' => ?_, ⟨?_, ?_, ?_, ?_, fun k hk => ?_⟩, ?_, rfl, rfl⟩
      · obtain ⟨x, _, rfl⟩ := encL_row h; rfl
      · obtain ⟨q, hq, rfl⟩ := encL_row h
        obtain ⟨hj, rfl, hag⟩ := encEn_cell h'
        refine ⟨_, ?_, .c _ hag⟩
        have hi : i < (srtE l).length := (List.getElem?_eq_some_iff.1 hq).1
        have ht : i * 3 + j < l.length * 3 := by omega
        unfold putCells
        rw [Array.getElem?_mapIdx, Array.getElem?_eq_getElem (by omega : i * 3 + j < cur.size)]
        simp only [Option.map_some, Nat.sub_zero, Nat.zero_le, true_and, Nat.zero_add, size_flatK]
        rw [if_pos (by simp; omega), get_flatK _ _ _ _ (by simp; omega)]
        have h1 : (i * 3 + j) / 3 = i := by omega
        have h2 : (i * 3 + j) % 3 = j := by omega
        rw [h1, h2, getElem!_pos (srtE l).toArray i (by simpa using hi)]
        have h3 : (srtE l)[i] = q := by rw [List.getElem?_eq_getElem hi] at hq; injection hq
        simp [h3]
      · rw [hW]; rfl
      · rw [hW]; rfl
      · rw [hW]; rfl
      · rw [hW]
        simp only [sortWorldK, grow, Array.size_append, putRowK, size_putRow]
        have : (W.setRow (E.ι id) (putCells _root_.id 0 (flatK encEv 3 (srtE l).toArray) cur)).heap.size = W.heap.size := by simp
        rw [this]
        show W.heap.size ≤ W.heap.size + os.size
        omega
      · rw [hW]
        unfold sortWorldK grow
        show (_ ++ os)[k]? = _
        have hks : k < (putRowK encEv 3 (Go.Sort.ahead W n) (E.ι id) 0 (srtE l).toArray).heap.size := by
          unfold putRowK; rw [size_putRow]; exact hk
        rw [Array.getElem?_append_left hks]
        exact heap_putRow _root_.id (Go.Sort.ahead W n) (E.ι id) 0 _ cur 148 (0, 0) hcur k
      · exact .tup [] #[] rfl fun i x v h => by cases h
end Go.Proofs.Ytniccdnhjbnaeaa

namespace Go.Proofs.Ytniccdnhjbnaeaa
open Go.Proofs Go.AL
set_option maxRecDepth 100000
set_option maxHeartbeats 1000000
set_option linter.unusedVariables false
set_option linter.unusedSimpArgs false
attribute [local irreducible] endA AW aops thenA blockA hold
attribute [local go_sem] dec_ltT dec_ltF dec_leT dec_leF beq_T beq_F bne_T bne_F encEn encExt

theorem keepU_p (a b : Bool) : PCall Try.prog 75 [bV a, bV b] (· = bV (a || b)) := by
  refine pcall Try.func75 rfl (by kernel_rfl) (by simp [Try.ntmps75]) ?_
  rw [Try.ntmps75]
  cases a
  · repeat (first | (refine aw_seq ?_) | (apply w_region (by rfl); (next => (simp (maxSteps := 2000000) (disch := omega) only [go_sem] <;> exact rfl))) | (refine w_nil ?_) | (refine w_hold2 ?_) | (refine w_then ?_) | (refine aw_ret ?_) | (apply w_end; (next => (simp (maxSteps := 2000000) (disch := omega) only [go_sem, Try.f75] <;> exact rfl))))
    (simp (maxSteps := 2000000) (disch := omega) only [go_sem, noId_c, noId_agg, noId_tup, noId_snap, encL_noIdE, sec_noIdE, List.drop_zero, List.take_length]; (repeat (first | exact .refl _ | exact .nil | exact wks_nil | refine wks_cons ?_ ?_ | refine wk_tup ?_ | refine wk_agg ?_)))
  · repeat (first | (refine aw_seq ?_) | (apply w_region (by rfl); (next => (simp (maxSteps := 2000000) (disch := omega) only [go_sem] <;> exact rfl))) | (refine w_nil ?_) | (refine w_hold2 ?_) | (refine w_then ?_) | (refine aw_ret ?_) | (apply w_end; (next => (simp (maxSteps := 2000000) (disch := omega) only [go_sem, Try.f75] <;> exact rfl))))
    (simp (maxSteps := 2000000) (disch := omega) only [go_sem, noId_c, noId_agg, noId_tup, noId_snap, encL_noIdE, sec_noIdE, List.drop_zero, List.take_length]; (repeat (first | exact .refl _ | exact .nil | exact wks_nil | refine wks_cons ?_ ?_ | refine wk_tup ?_ | refine wk_agg ?_)))


abbrev zEn : En := (0, 0, 0)
theorem sweep_step (keep : Bool → Bool → Bool) (l : List En) (k : Nat) (hk : k < l.length) (d0 d1 st : Int) (ins : Bool) (out : List (Int × Int)) (e0 e1 : Int) (h0 : e0 = if (l.getD k zEn).2.1 = 0 then d0 + (l.getD k zEn).2.2 else d0) (h1 : e1 = if (l.getD k zEn).2.1 = 0 then d1 else d1 + (l.getD k zEn).2.2) :
    sweepL keep (l.drop k) d0 d1 st ins out = if k + 1 < l.length ∧ (l.getD (k + 1) zEn).1 = (l.getD k zEn).1 then sweepL keep (l.drop (k + 1)) e0 e1 st ins out
      else sweepL keep (l.drop (k + 1)) e0 e1 (if keep (decide (0 < e0)) (decide (0 < e1)) && !ins then (l.getD k zEn).1 else st) (keep (decide (0 < e0)) (decide (0 < e1))) (if !keep (decide (0 < e0)) (decide (0 < e1)) && ins then out ++ [(st, (l.getD k zEn).1 - st)] else out) := by
  have hg : l.getD k zEn = l[k] := by simp [hk]
  rw [hg] at h0 h1 ⊢
  rw [List.drop_eq_getElem_cons hk, sweepL.eq_2, ← h0, ← h1]
  have hs : same (l.drop (k + 1)) l[k].1 = decide (k + 1 < l.length ∧ (l.getD (k + 1) zEn).1 = l[k].1) := by
    by_cases h : k + 1 < l.length
    · rw [List.drop_eq_getElem_cons h]
      simp [same, h]
    · rw [List.drop_eq_nil_of_le (by omega)]
      simp [same, h]
  rw [hs]
  by_cases h : k + 1 < l.length ∧ (l.getD (k + 1) zEn).1 = l[k].1
  · rw [if_pos h, if_pos (by simpa using h)]
  · rw [if_neg h, if_neg (by simpa using h)]
def HeadSw (R : List (Nat × Bool × AV)) (A B : Code) (l : List En) (res : List (Int × Int)) (n : Nat) (env : List (Nat × Bool × AV)) (H : Heap) : Prop :=
  ∃ (k : Nat) (d0 d1 st : Int) (ins : Bool) (out : List (Int × Int)) (wv : AV) (m : Nat) (mb : Option Blk) (N : Nat), n = l.length - k ∧ k ≤ l.length ∧ Evv wv m mb out ∧ 7 ≤ m ∧ m < N ∧
    sweepL (fun x y => x || y) (l.drop k) d0 d1 st ins out = res ∧ (-(k : Int) ≤ d0 ∧ d0 ≤ k) ∧ (-(k : Int) ≤ d1 ∧ d1 ≤ k) ∧ (0 ≤ st ∧ st ≤ 4096) ∧ out.length ≤ k ∧
    env = [(18, true, zV (k : Int)), (17, true, zV (l.length : Int)), (16, true, .snap (encL encEn l)), (8, true, bV ins), (7, true, zV st), (6, true, .ptr 6 0 0), (5, true, .snap (encL encEn l)), (0, true, .yld 4), (3, true, .ptr 2 0 0)] ∧ H = ⟨N, tabG [(m, mb), (2, some (.cells 129 1 [[.fn (.func 75) [] []]] true false)), (3, some (.cells 72 1 [[wv]] true false)), (4, some (.rcd R 13 [7] A B .ready none)), (6, some (.cells 146 2 [[zV d0, zV d1]] true false))]⟩


theorem union_p (srt : List En → List En) (hsp : ∀ l, (srt l).length = l.length ∧ (srt l).Perm l ∧ (srt l).Pairwise (fun x y => x.1 ≤ y.1)) (a b : List (Int × Int)) (hal : a.length ≤ 400000) (hbl : b.length ≤ 400000)
    (hends : PCall Try.prog 89 [.snap [[.snap (encL encExt a)], [.snap (encL encExt b)]]] (· = .snap (encL encEn (srt (endsOf 0 a ++ endsOf 1 b))))) :
    PCall Try.prog 69 [.snap (encL encExt a), .snap (encL encExt b)] (· = .snap (encL encExt (lst (setP (fun x y => x || y) a b) 4097))) := by
  refine PCall.wk ?_ (by rw [noId_snap, encL_noIdE]; trivial)
  refine pcall Try.func69 rfl (by kernel_rfl) (by simp [Try.ntmps69]) ?_
  rw [Try.ntmps69]
  obtain ⟨hs1, hs2, hs3⟩ := hsp (endsOf 0 a ++ endsOf 1 b)
  have hsw := sweep_all (fun x y => x || y) rfl a b _ hs2 hs3
  have hrl : ∀ x ∈ srt (endsOf 0 a ++ endsOf 1 b), (0 ≤ x.1 ∧ x.1 ≤ 4096) ∧ (x.2.1 = 0 ∨ x.2.1 = 1) ∧ -1 ≤ x.2.2 ∧ x.2.2 ≤ 1 := fun x hx => by
    rcases List.mem_append.1 (hs2.mem_iff.1 hx) with h | h
    · have := endsOf_rng _ _ x h; omega
    · have := endsOf_rng _ _ x h; omega
  have hln : (srt (endsOf 0 a ++ endsOf 1 b)).length ≤ 1600000 := by
    have h1 := endsOf_len 0 a
    have h2 := endsOf_len 1 b
    rw [hs1, List.length_append]; omega
  generalize srt (endsOf 0 a ++ endsOf 1 b) = l at *
  generalize lst (setP (fun x y => x || y) a b) 4097 = res at *
  clear hs1 hs2 hs3 hsp
  repeat (first | (refine aw_seq ?_) | (apply w_region (by rfl); (next => (simp (maxSteps := 2000000) (disch := omega) only [go_sem] <;> exact rfl))) | (refine w_nil ?_) | (refine w_hold2 ?_) | (refine w_then ?_) | (refine aw_ret ?_) | (refine aw_block ?_) | (apply w_rangeF Try.func88 rfl (by kernel_rfl) Try.ntmps88; (next => (simp (maxSteps := 2000000) (disch := omega) only [go_sem] <;> exact rfl)); (next => (simp (maxSteps := 2000000) (disch := omega) only [go_sem] <;> exact rfl)); (next => (simp; done)); intro R A B hR hA hB; (try dsimp only at hR)) | (apply w_endI; (next => (simp (maxSteps := 2000000) (disch := omega) only [go_sem, Try.f69, Try.f74, Try.f73, Try.f87, Try.f88] <;> exact rfl)); (next => (simp (maxSteps := 2000000) (disch := omega) only [go_sem] <;> exact rfl))) | (apply w_callX (f := .func 89) (hop := rfl) (hg := rfl) (hp := hends); (next => (simp (maxSteps := 2000000) (disch := omega) only [go_sem] <;> exact rfl)); (next => (simp (maxSteps := 2000000) (disch := omega) only [go_sem] <;> exact rfl)); (next => (simp [noId_c, noId_agg, noId_snap, noId_tup,encD,sec_noIdE,encL_noId,encL_noIdE,encCa,encOp,encExt,encEn,noId_fn]; done)); (next => (simp (maxSteps := 2000000) (disch := omega) only [go_sem] <;> exact rfl)); (next => (simp (maxSteps := 2000000) (disch := omega) only [go_sem] <;> exact rfl))) | (apply w_callI Try.func74 rfl (by kernel_rfl) Try.ntmps74 (hop := rfl) (hg := rfl); (next => (simp (maxSteps := 2000000) (disch := omega) only [go_sem] <;> exact rfl)); (next => (simp; done))) | (apply w_callI Try.func73 rfl (by kernel_rfl) Try.ntmps73 (hop := rfl) (hg := rfl); (next => (simp (maxSteps := 2000000) (disch := omega) only [go_sem] <;> exact rfl)); (next => (simp; done))) | (apply w_callI Try.func87 rfl (by kernel_rfl) Try.ntmps87 (hop := rfl) (hg := rfl); (next => (simp (maxSteps := 2000000) (disch := omega) only [go_sem] <;> exact rfl)); (next => (simp; done))))
  clear hends
  refine w_loop (HeadSw R A B l res) l.length ?_ ?_
  · refine ⟨_, _, ⟨0, 0, 0, 0, false, [], _, 7, none, 1000, by omega, by omega, Evv.nil0, by omega, by omega, hsw, by omega, by omega, by omega, by simp, rfl, rfl⟩, ?_⟩
    refine holds_cons (by rfl) (holds_cons (by rfl) (holds_cons (by rfl) (holds_cons (by rfl) (holds_cons (by rfl) (holds_cons (by rfl) (holds_cons (by rfl) (holds_cons (by rfl) (holds_cons (by rfl) (holds_nil (by simp only []; omega) (sub_none (sub_cons (by (first | rfl | (simp (disch := omega) only [go_sem, encD]; done) | (simp (disch := omega) only [go_sem, encD]; rfl))) (sub_cons (by (first | rfl | (simp (disch := omega) only [go_sem, encD]; done) | (simp (disch := omega) only [go_sem, encD]; rfl))) (sub_cons (by (first | rfl | (simp (disch := omega) only [go_sem, encD]; done) | (simp (disch := omega) only [go_sem, encD]; rfl))) (sub_cons (by (first | rfl | (simp (disch := omega) only [go_sem, encD]; done) | (simp (disch := omega) only [go_sem, encD]; rfl))) (sub_nil)))))))))))))))
  · rintro n env H ⟨k, d0, d1, st, ins, out, wv, m, mb, N, rfl, hk, hwv, hm7, hmN, hsweep, hd0, hd1, hst, hout, rfl, rfl⟩
    by_cases hkl : k < l.length
    · have hx := hrl _ (getD_mem' zEn hkl)
      have hstep := sweep_step (fun x y => x || y) l k hkl d0 d1 st ins out _ _ rfl rfl
      rw [hsweep] at hstep
      have he0 : -((k : Int) + 1) ≤ (if (l.getD k zEn).2.1 = 0 then d0 + (l.getD k zEn).2.2 else d0) ∧ (if (l.getD k zEn).2.1 = 0 then d0 + (l.getD k zEn).2.2 else d0) ≤ k + 1 := by split <;> omega
      have he1 : -((k : Int) + 1) ≤ (if (l.getD k zEn).2.1 = 0 then d1 else d1 + (l.getD k zEn).2.2) ∧ (if (l.getD k zEn).2.1 = 0 then d1 else d1 + (l.getD k zEn).2.2) ≤ k + 1 := by split <;> omega
      generalize hf0 : (if (l.getD k zEn).2.1 = 0 then d0 + (l.getD k zEn).2.2 else d0) = e0 at *
      generalize hf1 : (if (l.getD k zEn).2.1 = 0 then d1 else d1 + (l.getD k zEn).2.2) = e1 at *
      repeat (first | (refine w_markR (id := 6) ?_) | (refine aw_seq ?_) | (apply w_region (by rfl); (next => (simp (maxSteps := 2000000) (disch := omega) only [go_sem, (encL_get (f := encEn) zEn)] <;> exact rfl))) | (refine w_nil ?_) | (refine w_then ?_) | (refine aw_skip ?_) | (refine aw_block ?_) | (apply w_condT; (next => (simp (maxSteps := 2000000) (disch := omega) only [go_sem, (encL_get (f := encEn) zEn)] <;> done))))
      refine w_join [(18, true, zV (k : Int)), (10, true, .ptr N 0 0), (9, true, zV (k : Int)), (17, true, zV (l.length : Int)), (16, true, .snap (encL encEn l)), (8, true, bV ins), (7, true, zV st), (6, true, .ptr 6 0 0), (5, true, .snap (encL encEn l)), (0, true, .yld 4), (3, true, .ptr 2 0 0)] ⟨N + 500, tabG [(m, mb), (2, some (.cells 129 1 [[.fn (.func 75) [] []]] true false)), (3, some (.cells 72 1 [[wv]] true false)), (4, some (.rcd R 13 [7] A B .ready none)), (6, some (.cells 146 2 [[zV e0, zV e1]] true false)), (N, some (.cells 148 3 [encEn (l.getD k zEn)] true false))]⟩ ?_ ?_
      · rcases hx.2.1 with h | h
        · rw [if_pos h] at hf0 hf1
          subst hf0
          subst hf1
          repeat (first | (apply w_draw (by kernel_rfl) (by kernel_rfl) (by rfl); (case hr => (apply d_run; (next => (simp (maxSteps := 2000000) (disch := omega) only [go_sem, (encL_get (f := encEn) zEn), h] <;> exact rfl)); exact d_nil)); (case hdyn => (simp (maxSteps := 2000000) (disch := omega) only [go_sem, nbeq_F, nbeq_T, (encL_get (f := encEn) zEn), h] <;> kernel_rfl))))
          refine joinQ_mk (by rfl) ?_
          refine holds_cons (by rfl) (holds_cons (by rfl) (holds_cons (by rfl) (holds_cons (by rfl) (holds_cons (by rfl) (holds_cons (by rfl) (holds_cons (by rfl) (holds_cons (by rfl) (holds_cons (by rfl) (holds_cons (by rfl) (holds_cons (by rfl) (holds_nil (by simp only []; omega) (sub_cons (by (first | rfl | (simp (disch := omega) only [go_sem, encD, h]; done) | (simp (disch := omega) only [go_sem, encD, h]; rfl))) (sub_cons (by (first | rfl | (simp (disch := omega) only [go_sem, encD, h]; done) | (simp (disch := omega) only [go_sem, encD, h]; rfl))) (sub_cons (by (first | rfl | (simp (disch := omega) only [go_sem, encD, h]; done) | (simp (disch := omega) only [go_sem, encD, h]; rfl))) (sub_cons (by (first | rfl | (simp (disch := omega) only [go_sem, encD, h]; done) | (simp (disch := omega) only [go_sem, encD, h]; rfl))) (sub_cons (by (first | rfl | (simp (disch := omega) only [go_sem, encD, h]; done) | (simp (disch := omega) only [go_sem, encD, h]; rfl))) (sub_cons (by (first | rfl | (simp (disch := omega) only [go_sem, encD, h]; done) | (simp (disch := omega) only [go_sem, encD, h]; rfl))) (sub_nil))))))))))))))))))
        · rw [if_neg (by omega)] at hf0 hf1
          subst hf0
          subst hf1
          repeat (first | (apply w_draw (by kernel_rfl) (by kernel_rfl) (by rfl); (case hr => (apply d_run; (next => (simp (maxSteps := 2000000) (disch := omega) only [go_sem, (encL_get (f := encEn) zEn), h] <;> exact rfl)); exact d_nil)); (case hdyn => (simp (maxSteps := 2000000) (disch := omega) only [go_sem, nbeq_F, nbeq_T, (encL_get (f := encEn) zEn), h] <;> kernel_rfl))))
          refine joinQ_mk (by rfl) ?_
          refine holds_cons (by rfl) (holds_cons (by rfl) (holds_cons (by rfl) (holds_cons (by rfl) (holds_cons (by rfl) (holds_cons (by rfl) (holds_cons (by rfl) (holds_cons (by rfl) (holds_cons (by rfl) (holds_cons (by rfl) (holds_cons (by rfl) (holds_nil (by simp only []; omega) (sub_cons (by (first | rfl | (simp (disch := omega) only [go_sem, encD, h]; done) | (simp (disch := omega) only [go_sem, encD, h]; rfl))) (sub_cons (by (first | rfl | (simp (disch := omega) only [go_sem, encD, h]; done) | (simp (disch := omega) only [go_sem, encD, h]; rfl))) (sub_cons (by (first | rfl | (simp (disch := omega) only [go_sem, encD, h]; done) | (simp (disch := omega) only [go_sem, encD, h]; rfl))) (sub_cons (by (first | rfl | (simp (disch := omega) only [go_sem, encD, h]; done) | (simp (disch := omega) only [go_sem, encD, h]; rfl))) (sub_cons (by (first | rfl | (simp (disch := omega) only [go_sem, encD, h]; done) | (simp (disch := omega) only [go_sem, encD, h]; rfl))) (sub_cons (by (first | rfl | (simp (disch := omega) only [go_sem, encD, h]; done) | (simp (disch := omega) only [go_sem, encD, h]; rfl))) (sub_nil))))))))))))))))))
      · clear hf0 hf1 hsweep
        by_cases hsame : k + 1 < l.length ∧ (l.getD (k + 1) zEn).1 = (l.getD k zEn).1
        · rw [if_pos hsame] at hstep
          obtain ⟨hs1, hs2⟩ := hsame
          repeat (first | (refine aw_seq ?_) | (apply w_region (by rfl); (next => (simp (maxSteps := 2000000) (disch := omega) only [go_sem, (encL_get (f := encEn) zEn), hs2] <;> exact rfl))) | (apply w_draw (by kernel_rfl) (by kernel_rfl) (by rfl); (case hr => (apply d_run; (next => (simp (maxSteps := 2000000) (disch := omega) only [go_sem, (encL_get (f := encEn) zEn), hs2] <;> exact rfl)); exact d_nil)); (case hdyn => (simp (maxSteps := 2000000) (disch := omega) only [go_sem, nbeq_F, nbeq_T, (encL_get (f := encEn) zEn), hs2] <;> kernel_rfl))) | (refine w_nil ?_) | (refine w_then ?_) | (refine w_thenE ?_) | (refine w_blockE ?_) | (refine aw_exit ?_) | (apply w_condT; (next => (simp (maxSteps := 2000000) (disch := omega) only [go_sem, (encL_get (f := encEn) zEn), hs2] <;> done))))
          refine ⟨l.length - (k + 1), by omega, _, _, ⟨k + 1, e0, e1, st, ins, out, wv, m, mb, N + 1000, rfl, by omega, hwv, by omega, by omega, hstep.symm, by omega, by omega, by omega, by omega, rfl, rfl⟩, ?_⟩
          refine holds_cons (by rfl) (holds_cons (by rfl) (holds_cons (by rfl) (holds_cons (by rfl) (holds_cons (by rfl) (holds_cons (by rfl) (holds_cons (by rfl) (holds_cons (by rfl) (holds_cons (by rfl) (holds_nil (by simp only []; omega) (sub_cons (by (first | rfl | (simp (disch := omega) only [go_sem, encD]; done) | (simp (disch := omega) only [go_sem, encD]; rfl))) (sub_cons (by (first | rfl | (simp (disch := omega) only [go_sem, encD]; done) | (simp (disch := omega) only [go_sem, encD]; rfl))) (sub_cons (by (first | rfl | (simp (disch := omega) only [go_sem, encD]; done) | (simp (disch := omega) only [go_sem, encD]; rfl))) (sub_cons (by (first | rfl | (simp (disch := omega) only [go_sem, encD]; done) | (simp (disch := omega) only [go_sem, encD]; rfl))) (sub_cons (by (first | rfl | (simp (disch := omega) only [go_sem, encD]; done) | (simp (disch := omega) only [go_sem, encD]; rfl))) (sub_nil)))))))))))))))
        · rw [if_neg hsame] at hstep
          repeat (first | (refine w_mark (id := 7) ?_))
          refine w_join [(18, true, zV (k : Int)), (10, true, .ptr N 0 0), (9, true, zV (k : Int)), (17, true, zV (l.length : Int)), (16, true, .snap (encL encEn l)), (8, true, bV ins), (7, true, zV st), (6, true, .ptr 6 0 0), (5, true, .snap (encL encEn l)), (0, true, .yld 4), (3, true, .ptr 2 0 0)] ⟨N + 900, tabG [(m, mb), (2, some (.cells 129 1 [[.fn (.func 75) [] []]] true false)), (3, some (.cells 72 1 [[wv]] true false)), (4, some (.rcd R 13 [7] A B .ready none)), (6, some (.cells 146 2 [[zV e0, zV e1]] true false)), (N, some (.cells 148 3 [encEn (l.getD k zEn)] true false))]⟩ ?_ ?_
          · by_cases hs1 : k + 1 < l.length
            · have hs2 : (l.getD (k + 1) zEn).1 ≠ (l.getD k zEn).1 := fun h => hsame ⟨hs1, h⟩
              repeat (first | (refine aw_seq ?_) | (apply w_draw (by kernel_rfl) (by kernel_rfl) (by rfl); (case hr => (apply d_run; (next => (simp (maxSteps := 2000000) (disch := omega) only [go_sem, (encL_get (f := encEn) zEn)] <;> exact rfl)); exact d_nil)); (case hdyn => (simp (maxSteps := 2000000) (disch := omega) only [go_sem, nbeq_F, nbeq_T, (encL_get (f := encEn) zEn)] <;> kernel_rfl))) | (refine w_then ?_) | (refine aw_skip ?_) | (apply w_condF; (next => (simp (maxSteps := 2000000) (disch := omega) only [go_sem, (encL_get (f := encEn) zEn)] <;> done))))
              refine joinQ_mk (by rfl) ?_
              refine holds_cons (by rfl) (holds_cons (by rfl) (holds_cons (by rfl) (holds_cons (by rfl) (holds_cons (by rfl) (holds_cons (by rfl) (holds_cons (by rfl) (holds_cons (by rfl) (holds_cons (by rfl) (holds_cons (by rfl) (holds_cons (by rfl) (holds_nil (by simp only []; omega) (sub_cons (by (first | rfl | (simp (disch := omega) only [go_sem, encD]; done) | (simp (disch := omega) only [go_sem, encD]; rfl))) (sub_cons (by (first | rfl | (simp (disch := omega) only [go_sem, encD]; done) | (simp (disch := omega) only [go_sem, encD]; rfl))) (sub_cons (by (first | rfl | (simp (disch := omega) only [go_sem, encD]; done) | (simp (disch := omega) only [go_sem, encD]; rfl))) (sub_cons (by (first | rfl | (simp (disch := omega) only [go_sem, encD]; done) | (simp (disch := omega) only [go_sem, encD]; rfl))) (sub_cons (by (first | rfl | (simp (disch := omega) only [go_sem, encD]; done) | (simp (disch := omega) only [go_sem, encD]; rfl))) (sub_cons (by (first | rfl | (simp (disch := omega) only [go_sem, encD]; done) | (simp (disch := omega) only [go_sem, encD]; rfl))) (sub_nil))))))))))))))))))
            · repeat (first | (refine aw_seq ?_) | (apply w_draw (by kernel_rfl) (by kernel_rfl) (by rfl); (case hr => (apply d_run; (next => (simp (maxSteps := 2000000) (disch := omega) only [go_sem, (encL_get (f := encEn) zEn)] <;> exact rfl)); exact d_nil)); (case hdyn => (simp (maxSteps := 2000000) (disch := omega) only [go_sem, nbeq_F, nbeq_T, (encL_get (f := encEn) zEn)] <;> kernel_rfl))) | (refine w_then ?_) | (refine aw_skip ?_) | (apply w_condF; (next => (simp (maxSteps := 2000000) (disch := omega) only [go_sem, (encL_get (f := encEn) zEn)] <;> done))))
              refine joinQ_mk (by rfl) ?_
              refine holds_cons (by rfl) (holds_cons (by rfl) (holds_cons (by rfl) (holds_cons (by rfl) (holds_cons (by rfl) (holds_cons (by rfl) (holds_cons (by rfl) (holds_cons (by rfl) (holds_cons (by rfl) (holds_cons (by rfl) (holds_cons (by rfl) (holds_nil (by simp only []; omega) (sub_cons (by (first | rfl | (simp (disch := omega) only [go_sem, encD]; done) | (simp (disch := omega) only [go_sem, encD]; rfl))) (sub_cons (by (first | rfl | (simp (disch := omega) only [go_sem, encD]; done) | (simp (disch := omega) only [go_sem, encD]; rfl))) (sub_cons (by (first | rfl | (simp (disch := omega) only [go_sem, encD]; done) | (simp (disch := omega) only [go_sem, encD]; rfl))) (sub_cons (by (first | rfl | (simp (disch := omega) only [go_sem, encD]; done) | (simp (disch := omega) only [go_sem, encD]; rfl))) (sub_cons (by (first | rfl | (simp (disch := omega) only [go_sem, encD]; done) | (simp (disch := omega) only [go_sem, encD]; rfl))) (sub_cons (by (first | rfl | (simp (disch := omega) only [go_sem, encD]; done) | (simp (disch := omega) only [go_sem, encD]; rfl))) (sub_nil))))))))))))))))))
          · clear hsame
            have ck := keepU_p (decide (0 < e0)) (decide (0 < e1))
            cases hnow : (decide (0 < e0) || decide (0 < e1))
            · rw [hnow] at ck hstep
              cases ins
              · repeat (first | (refine aw_seq ?_) | (apply w_region (by rfl); (next => (simp (maxSteps := 2000000) (disch := omega) only [go_sem, (encL_get (f := encEn) zEn)] <;> exact rfl))) | (refine w_nil ?_) | (refine w_then ?_) | (refine w_blockN ?_) | (refine aw_skip ?_) | (apply w_condF; (next => (simp (maxSteps := 2000000) (disch := omega) only [go_sem, (encL_get (f := encEn) zEn)] <;> done))) | (apply w_callP (hop := rfl) (hg := rfl) (hp := ck); (next => (simp (maxSteps := 2000000) (disch := omega) only [go_sem, (encL_get (f := encEn) zEn)] <;> exact rfl)); (next => (simp [noId_c, noId_agg, noId_snap, noId_tup,encD,sec_noIdE,encL_noId,encL_noIdE,encCa,encOp,encExt,encEn,noId_fn]; done)); (next => (simp (maxSteps := 2000000) (disch := omega) only [go_sem, (encL_get (f := encEn) zEn)] <;> exact rfl))) | (apply w_gF (hg := rfl); (next => (simp (maxSteps := 2000000) (disch := omega) only [go_sem, (encL_get (f := encEn) zEn)] <;> exact rfl)); (next => (simp (maxSteps := 2000000) (disch := omega) only [go_sem, (encL_get (f := encEn) zEn)] <;> exact rfl)); (next => (simp (maxSteps := 2000000) (disch := omega) only [go_sem, (encL_get (f := encEn) zEn)] <;> exact rfl))))
                refine ⟨l.length - (k + 1), by omega, _, _, ⟨k + 1, e0, e1, st, false, out, wv, m, mb, N + 2000, rfl, by omega, hwv, by omega, by omega, (by rw [hstep]; rfl), by omega, by omega, by omega, by omega, rfl, rfl⟩, ?_⟩
                refine holds_cons (by rfl) (holds_cons (by rfl) (holds_cons (by rfl) (holds_cons (by rfl) (holds_cons (by rfl) (holds_cons (by rfl) (holds_cons (by rfl) (holds_cons (by rfl) (holds_cons (by rfl) (holds_nil (by simp only []; omega) (sub_cons (by (first | rfl | (simp (disch := omega) only [go_sem, encD]; done) | (simp (disch := omega) only [go_sem, encD]; rfl))) (sub_cons (by (first | rfl | (simp (disch := omega) only [go_sem, encD]; done) | (simp (disch := omega) only [go_sem, encD]; rfl))) (sub_cons (by (first | rfl | (simp (disch := omega) only [go_sem, encD]; done) | (simp (disch := omega) only [go_sem, encD]; rfl))) (sub_cons (by (first | rfl | (simp (disch := omega) only [go_sem, encD]; done) | (simp (disch := omega) only [go_sem, encD]; rfl))) (sub_cons (by (first | rfl | (simp (disch := omega) only [go_sem, encD]; done) | (simp (disch := omega) only [go_sem, encD]; rfl))) (sub_nil)))))))))))))))
              · rcases hwv with ⟨w, rfl, rfl⟩ | ⟨rfl, rfl, hnil⟩
                · repeat (first | (refine aw_seq ?_) | (apply w_region (by rfl); (next => (simp (maxSteps := 2000000) (disch := omega) only [go_sem, (encL_get (f := encEn) zEn), ext_snocE] <;> exact rfl))) | (refine w_nil ?_) | (refine w_hold2 ?_) | (refine w_then ?_) | (refine w_blockN ?_) | (refine aw_skip ?_) | (refine aw_block ?_) | (apply w_yieldG (hop := rfl) (hg := rfl) (he := hR) (hA := hA); (next => (simp (maxSteps := 2000000) (disch := omega) only [go_sem, (encL_get (f := encEn) zEn), ext_snocE] <;> done)); (next => (simp (maxSteps := 2000000) (disch := omega) only [go_sem, (encL_get (f := encEn) zEn), ext_snocE] <;> exact rfl)); (next => (simp (maxSteps := 2000000) (disch := omega) only [go_sem, (encL_get (f := encEn) zEn), ext_snocE] <;> exact rfl)); (next => (simp (maxSteps := 2000000) (disch := omega) only [go_sem, (encL_get (f := encEn) zEn), ext_snocE] <;> exact rfl)); (next => (first | rfl | (simp; done))); (next => (first | rfl | (simp; done)))) | (apply w_endAs hB; (next => (simp (maxSteps := 2000000) (disch := omega) only [go_sem, (encL_get (f := encEn) zEn), ext_snocE] <;> exact rfl))) | (apply w_endBN; (next => (simp (maxSteps := 2000000) (disch := omega) only [go_sem, (encL_get (f := encEn) zEn), ext_snocE] <;> exact rfl)); (next => (simp (maxSteps := 2000000) (disch := omega) only [go_sem, (encL_get (f := encEn) zEn), ext_snocE] <;> exact rfl))) | (apply w_condF; (next => (simp (maxSteps := 2000000) (disch := omega) only [go_sem, (encL_get (f := encEn) zEn), ext_snocE] <;> done))) | (apply w_callP (hop := rfl) (hg := rfl) (hp := ck); (next => (simp (maxSteps := 2000000) (disch := omega) only [go_sem, (encL_get (f := encEn) zEn), ext_snocE] <;> exact rfl)); (next => (simp [noId_c, noId_agg, noId_snap, noId_tup,encD,sec_noIdE,encL_noId,encL_noIdE,encCa,encOp,encExt,encEn,noId_fn]; done)); (next => (simp (maxSteps := 2000000) (disch := omega) only [go_sem, (encL_get (f := encEn) zEn), ext_snocE] <;> exact rfl))))
                  refine ⟨l.length - (k + 1), by omega, _, _, ⟨k + 1, e0, e1, st, false, (out ++ [(st, (l.getD k zEn).1 - st)]), (.own (N + 900 + 1 + 1 + 1) 0 (out.length + 1)), (N + 900 + 1 + 1 + 1), _, N + 2000, rfl, by omega, (Evv.mk (w := w) (by simp)), by omega, by omega, (by rw [hstep]; rfl), by omega, by omega, by omega, (by simp; omega), rfl, rfl⟩, ?_⟩
                  refine holds_cons (by rfl) (holds_cons (by rfl) (holds_cons (by rfl) (holds_cons (by rfl) (holds_cons (by rfl) (holds_cons (by rfl) (holds_cons (by rfl) (holds_cons (by rfl) (holds_cons (by rfl) (holds_nil (by simp only []; omega) (sub_cons (by (first | rfl | (simp (disch := omega) only [go_sem, encD]; done) | (simp (disch := omega) only [go_sem, encD]; rfl))) (sub_cons (by (first | rfl | (simp (disch := omega) only [go_sem, encD]; done) | (simp (disch := omega) only [go_sem, encD]; rfl))) (sub_cons (by (first | rfl | (simp (disch := omega) only [go_sem, encD]; done) | (simp (disch := omega) only [go_sem, encD]; rfl))) (sub_cons (by (first | rfl | (simp (disch := omega) only [go_sem, encD]; done) | (simp (disch := omega) only [go_sem, encD]; rfl))) (sub_cons (by (first | rfl | (simp (disch := omega) only [go_sem, encD]; done) | (simp (disch := omega) only [go_sem, encD]; rfl))) (sub_nil)))))))))))))))
                · subst hnil
                  repeat (first | (refine aw_seq ?_) | (apply w_region (by rfl); (next => (simp (maxSteps := 2000000) (disch := omega) only [go_sem, (encL_get (f := encEn) zEn)] <;> exact rfl))) | (refine w_nil ?_) | (refine w_hold2 ?_) | (refine w_then ?_) | (refine w_blockN ?_) | (refine aw_skip ?_) | (refine aw_block ?_) | (apply w_yieldG (hop := rfl) (hg := rfl) (he := hR) (hA := hA); (next => (simp (maxSteps := 2000000) (disch := omega) only [go_sem, (encL_get (f := encEn) zEn)] <;> done)); (next => (simp (maxSteps := 2000000) (disch := omega) only [go_sem, (encL_get (f := encEn) zEn)] <;> exact rfl)); (next => (simp (maxSteps := 2000000) (disch := omega) only [go_sem, (encL_get (f := encEn) zEn)] <;> exact rfl)); (next => (simp (maxSteps := 2000000) (disch := omega) only [go_sem, (encL_get (f := encEn) zEn)] <;> exact rfl)); (next => (first | rfl | (simp; done))); (next => (first | rfl | (simp; done)))) | (apply w_endAs hB; (next => (simp (maxSteps := 2000000) (disch := omega) only [go_sem, (encL_get (f := encEn) zEn)] <;> exact rfl))) | (apply w_endBN; (next => (simp (maxSteps := 2000000) (disch := omega) only [go_sem, (encL_get (f := encEn) zEn)] <;> exact rfl)); (next => (simp (maxSteps := 2000000) (disch := omega) only [go_sem, (encL_get (f := encEn) zEn)] <;> exact rfl))) | (apply w_condF; (next => (simp (maxSteps := 2000000) (disch := omega) only [go_sem, (encL_get (f := encEn) zEn)] <;> done))) | (apply w_callP (hop := rfl) (hg := rfl) (hp := ck); (next => (simp (maxSteps := 2000000) (disch := omega) only [go_sem, (encL_get (f := encEn) zEn)] <;> exact rfl)); (next => (simp [noId_c, noId_agg, noId_snap, noId_tup,encD,sec_noIdE,encL_noId,encL_noIdE,encCa,encOp,encExt,encEn,noId_fn]; done)); (next => (simp (maxSteps := 2000000) (disch := omega) only [go_sem, (encL_get (f := encEn) zEn)] <;> exact rfl))))
                  refine ⟨l.length - (k + 1), by omega, _, _, ⟨k + 1, e0, e1, st, false, [(st, (l.getD k zEn).1 - st)], (.own (N + 900 + 1 + 1 + 1) 0 1), (N + 900 + 1 + 1 + 1), _, N + 2000, rfl, by omega, (Evv.mk (w := true) rfl), by omega, by omega, (by rw [hstep]; rfl), by omega, by omega, by omega, (by simp), rfl, rfl⟩, ?_⟩
                  refine holds_cons (by rfl) (holds_cons (by rfl) (holds_cons (by rfl) (holds_cons (by rfl) (holds_cons (by rfl) (holds_cons (by rfl) (holds_cons (by rfl) (holds_cons (by rfl) (holds_cons (by rfl) (holds_nil (by simp only []; omega) (sub_cons (by (first | rfl | (simp (disch := omega) only [go_sem, encD]; done) | (simp (disch := omega) only [go_sem, encD]; rfl))) (sub_cons (by (first | rfl | (simp (disch := omega) only [go_sem, encD]; done) | (simp (disch := omega) only [go_sem, encD]; rfl))) (sub_cons (by (first | rfl | (simp (disch := omega) only [go_sem, encD]; done) | (simp (disch := omega) only [go_sem, encD]; rfl))) (sub_cons (by (first | rfl | (simp (disch := omega) only [go_sem, encD]; done) | (simp (disch := omega) only [go_sem, encD]; rfl))) (sub_cons (by (first | rfl | (simp (disch := omega) only [go_sem, encD]; done) | (simp (disch := omega) only [go_sem, encD]; rfl))) (sub_nil)))))))))))))))
            · rw [hnow] at ck hstep
              cases ins
              · repeat (first | (refine aw_seq ?_) | (apply w_region (by rfl); (next => (simp (maxSteps := 2000000) (disch := omega) only [go_sem, (encL_get (f := encEn) zEn)] <;> exact rfl))) | (refine w_nil ?_) | (refine w_then ?_) | (refine w_blockN ?_) | (refine aw_skip ?_) | (apply w_condT; (next => (simp (maxSteps := 2000000) (disch := omega) only [go_sem, (encL_get (f := encEn) zEn)] <;> done))) | (apply w_condF; (next => (simp (maxSteps := 2000000) (disch := omega) only [go_sem, (encL_get (f := encEn) zEn)] <;> done))) | (apply w_callP (hop := rfl) (hg := rfl) (hp := ck); (next => (simp (maxSteps := 2000000) (disch := omega) only [go_sem, (encL_get (f := encEn) zEn)] <;> exact rfl)); (next => (simp [noId_c, noId_agg, noId_snap, noId_tup,encD,sec_noIdE,encL_noId,encL_noIdE,encCa,encOp,encExt,encEn,noId_fn]; done)); (next => (simp (maxSteps := 2000000) (disch := omega) only [go_sem, (encL_get (f := encEn) zEn)] <;> exact rfl))) | (apply w_gF (hg := rfl); (next => (simp (maxSteps := 2000000) (disch := omega) only [go_sem, (encL_get (f := encEn) zEn)] <;> exact rfl)); (next => (simp (maxSteps := 2000000) (disch := omega) only [go_sem, (encL_get (f := encEn) zEn)] <;> exact rfl)); (next => (simp (maxSteps := 2000000) (disch := omega) only [go_sem, (encL_get (f := encEn) zEn)] <;> exact rfl))))
                refine ⟨l.length - (k + 1), by omega, _, _, ⟨k + 1, e0, e1, (l.getD k zEn).1, true, out, wv, m, mb, N + 2000, rfl, by omega, hwv, by omega, by omega, (by rw [hstep]; rfl), by omega, by omega, by omega, by omega, rfl, rfl⟩, ?_⟩
                refine holds_cons (by rfl) (holds_cons (by rfl) (holds_cons (by rfl) (holds_cons (by rfl) (holds_cons (by rfl) (holds_cons (by rfl) (holds_cons (by rfl) (holds_cons (by rfl) (holds_cons (by rfl) (holds_nil (by simp only []; omega) (sub_cons (by (first | rfl | (simp (disch := omega) only [go_sem, encD]; done) | (simp (disch := omega) only [go_sem, encD]; rfl))) (sub_cons (by (first | rfl | (simp (disch := omega) only [go_sem, encD]; done) | (simp (disch := omega) only [go_sem, encD]; rfl))) (sub_cons (by (first | rfl | (simp (disch := omega) only [go_sem, encD]; done) | (simp (disch := omega) only [go_sem, encD]; rfl))) (sub_cons (by (first | rfl | (simp (disch := omega) only [go_sem, encD]; done) | (simp (disch := omega) only [go_sem, encD]; rfl))) (sub_cons (by (first | rfl | (simp (disch := omega) only [go_sem, encD]; done) | (simp (disch := omega) only [go_sem, encD]; rfl))) (sub_nil)))))))))))))))
              · repeat (first | (refine aw_seq ?_) | (apply w_region (by rfl); (next => (simp (maxSteps := 2000000) (disch := omega) only [go_sem, (encL_get (f := encEn) zEn)] <;> exact rfl))) | (refine w_nil ?_) | (refine w_then ?_) | (refine w_blockN ?_) | (refine aw_skip ?_) | (apply w_condF; (next => (simp (maxSteps := 2000000) (disch := omega) only [go_sem, (encL_get (f := encEn) zEn)] <;> done))) | (apply w_callP (hop := rfl) (hg := rfl) (hp := ck); (next => (simp (maxSteps := 2000000) (disch := omega) only [go_sem, (encL_get (f := encEn) zEn)] <;> exact rfl)); (next => (simp [noId_c, noId_agg, noId_snap, noId_tup,encD,sec_noIdE,encL_noId,encL_noIdE,encCa,encOp,encExt,encEn,noId_fn]; done)); (next => (simp (maxSteps := 2000000) (disch := omega) only [go_sem, (encL_get (f := encEn) zEn)] <;> exact rfl))) | (apply w_gF (hg := rfl); (next => (simp (maxSteps := 2000000) (disch := omega) only [go_sem, (encL_get (f := encEn) zEn)] <;> exact rfl)); (next => (simp (maxSteps := 2000000) (disch := omega) only [go_sem, (encL_get (f := encEn) zEn)] <;> exact rfl)); (next => (simp (maxSteps := 2000000) (disch := omega) only [go_sem, (encL_get (f := encEn) zEn)] <;> exact rfl))))
                refine ⟨l.length - (k + 1), by omega, _, _, ⟨k + 1, e0, e1, st, true, out, wv, m, mb, N + 2000, rfl, by omega, hwv, by omega, by omega, (by rw [hstep]; rfl), by omega, by omega, by omega, by omega, rfl, rfl⟩, ?_⟩
                refine holds_cons (by rfl) (holds_cons (by rfl) (holds_cons (by rfl) (holds_cons (by rfl) (holds_cons (by rfl) (holds_cons (by rfl) (holds_cons (by rfl) (holds_cons (by rfl) (holds_cons (by rfl) (holds_nil (by simp only []; omega) (sub_cons (by (first | rfl | (simp (disch := omega) only [go_sem, encD]; done) | (simp (disch := omega) only [go_sem, encD]; rfl))) (sub_cons (by (first | rfl | (simp (disch := omega) only [go_sem, encD]; done) | (simp (disch := omega) only [go_sem, encD]; rfl))) (sub_cons (by (first | rfl | (simp (disch := omega) only [go_sem, encD]; done) | (simp (disch := omega) only [go_sem, encD]; rfl))) (sub_cons (by (first | rfl | (simp (disch := omega) only [go_sem, encD]; done) | (simp (disch := omega) only [go_sem, encD]; rfl))) (sub_cons (by (first | rfl | (simp (disch := omega) only [go_sem, encD]; done) | (simp (disch := omega) only [go_sem, encD]; rfl))) (sub_nil)))))))))))))))
    · obtain rfl : k = l.length := by omega
      rw [List.drop_length] at hsweep
      have hsweep' : out = res := hsweep
      subst hsweep'
      rcases hwv with ⟨w, rfl, rfl⟩ | ⟨rfl, rfl, hnil⟩
      · repeat (first | (refine aw_seq ?_) | (apply w_region (by rfl); (next => (simp (maxSteps := 2000000) (disch := omega) only [go_sem] <;> exact rfl))) | (refine w_nil ?_) | (refine w_hold2 ?_) | (refine w_then ?_) | (refine w_thenE ?_) | (refine w_blockN ?_) | (refine w_blockE ?_) | (refine aw_ret ?_) | (refine aw_exit ?_) | (apply w_endFN; (next => (simp (maxSteps := 2000000) (disch := omega) only [go_sem, Try.f69, Try.f74, Try.f73, Try.f87, Try.f88] <;> exact rfl)); (next => (simp (maxSteps := 2000000) (disch := omega) only [go_sem] <;> exact rfl))) | (apply w_endI; (next => (simp (maxSteps := 2000000) (disch := omega) only [go_sem, Try.f69, Try.f74, Try.f73, Try.f87, Try.f88] <;> exact rfl)); (next => (simp (maxSteps := 2000000) (disch := omega) only [go_sem] <;> exact rfl))) | (apply w_end; (next => (simp (maxSteps := 2000000) (disch := omega) only [go_sem, Try.f69, Try.f74, Try.f73, Try.f87, Try.f88] <;> exact rfl))) | (apply w_condF; (next => (simp (maxSteps := 2000000) (disch := omega) only [go_sem] <;> done))))
        (simp (maxSteps := 2000000) (disch := omega) only [go_sem, noId_c, noId_agg, noId_tup, noId_snap, encL_noIdE, sec_noIdE, List.drop_zero, List.take_length]; (repeat (first | exact .refl _ | exact .nil | exact wks_nil | refine wks_cons ?_ ?_ | refine wk_tup ?_ | refine wk_agg ?_)))
      · subst hnil
        repeat (first | (refine aw_seq ?_) | (apply w_region (by rfl); (next => (simp (maxSteps := 2000000) (disch := omega) only [go_sem] <;> exact rfl))) | (refine w_nil ?_) | (refine w_hold2 ?_) | (refine w_then ?_) | (refine w_thenE ?_) | (refine w_blockN ?_) | (refine w_blockE ?_) | (refine aw_ret ?_) | (refine aw_exit ?_) | (apply w_endFN; (next => (simp (maxSteps := 2000000) (disch := omega) only [go_sem, Try.f69, Try.f74, Try.f73, Try.f87, Try.f88] <;> exact rfl)); (next => (simp (maxSteps := 2000000) (disch := omega) only [go_sem] <;> exact rfl))) | (apply w_endI; (next => (simp (maxSteps := 2000000) (disch := omega) only [go_sem, Try.f69, Try.f74, Try.f73, Try.f87, Try.f88] <;> exact rfl)); (next => (simp (maxSteps := 2000000) (disch := omega) only [go_sem] <;> exact rfl))) | (apply w_end; (next => (simp (maxSteps := 2000000) (disch := omega) only [go_sem, Try.f69, Try.f74, Try.f73, Try.f87, Try.f88] <;> exact rfl))) | (apply w_condF; (next => (simp (maxSteps := 2000000) (disch := omega) only [go_sem] <;> done))))
        (simp (maxSteps := 2000000) (disch := omega) only [go_sem, noId_c, noId_agg, noId_tup, noId_snap, encL_noIdE, sec_noIdE, List.drop_zero, List.take_length]; (repeat (first | exact .refl _ | exact .nil | exact wks_nil | refine wks_cons ?_ ?_ | refine wk_tup ?_ | refine wk_agg ?_)))

end Go.Proofs.Ytniccdnhjbnaeaa
