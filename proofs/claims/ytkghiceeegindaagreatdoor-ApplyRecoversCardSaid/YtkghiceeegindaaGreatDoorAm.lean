/- Apply: contracts of its functions (Am). No condition but those named. -/
import Derived.Test.YtkghiceeegindaaGreatDoorAi
namespace Go.Proofs.YtkghiceeegindaaGreatDoor
open Go.Proofs Go.AL
set_option maxRecDepth 100000
set_option linter.unusedVariables false
set_option linter.unusedSimpArgs false
theorem gb_val {n : Int} (h : 0 ≤ n) : gb n 0 = n % 256 ∧ gb n 1 = n / 256 % 256 ∧ gb n 2 = n / 65536 % 256 ∧ gb n 3 = n / 16777216 % 256 := by
  unfold gb
  simp only [IntKind.wrap_u8]
  refine ⟨?_, ?_, ?_, ?_⟩ <;> rw [Int.fdiv_eq_ediv_of_nonneg _ (by decide)]
  · simp
  · rfl
  · rfl
  · rfl
theorem genS_sec {n : Int} (h0 : 0 ≤ n) (h1 : n < 4294967296) (D : List Int) (k : Nat) : genS (secOf n D k) = n := by
  obtain ⟨g0, g1, g2, g3⟩ := gb_val h0
  simp only [genS, secOf, g0, g1, g2, g3]
  omega
theorem genS_put {n : Int} (h0 : 0 ≤ n) (h1 : n < 4294967296) (p : List Int) : ∀ s ∈ putS n p, genS s = n := by
  intro s hs
  simp only [putS, List.mem_cons, List.not_mem_nil, or_false] at hs
  rcases hs with rfl | rfl | rfl | rfl | rfl | rfl | rfl | rfl <;> exact genS_sec h0 h1 _ _
theorem dataS_put (n : Int) {p : List Int} (hp : p.length ≤ 31) : dataS (putS n p) = dat p := by
  obtain ⟨d0, d1, d2, d3, d4, d5, d6, d7, d8, d9, d10, d11, d12, d13, d14, d15, d16, d17, d18, d19, d20, d21, d22, d23, d24, d25, d26, d27, d28, d29, d30, d31, h⟩ := split32 (dat_len hp)
  unfold putS
  rw [h]
  rfl
theorem putS_len (n : Int) (p : List Int) : (putS n p).length = 8 := rfl
theorem parse_put {n : Int} (h0 : 0 ≤ n) (h1 : n < 4294967296) {p : List Int} (hp : p.length ≤ 31) : parseS (putS n p) = (p, n) := by
  have hg := genS_put h0 h1 p
  have hs : sameG (putS n p) = true := by
    unfold sameG
    rw [List.all_eq_true]
    intro s hs
    rw [hg s hs, hg _ (getD_mem' zSec (by rw [putS_len]; decide))]
    simp
  have hd : (dataS (putS n p)).getD 0 0 = (p.length : Int) := by rw [dataS_put n hp]; rfl
  unfold parseS
  rw [if_pos hs, hd, if_neg (by omega), dataS_put n hp, hg _ (getD_mem' zSec (by rw [putS_len]; decide))]
  have hdr : (dat p).drop (p.length + 1) = List.replicate (31 - p.length) 0 := by
    unfold dat
    rw [List.drop_succ_cons, List.drop_left]
  have htk : ((dat p).drop 1).take p.length = p := by
    unfold dat
    rw [List.drop_succ_cons, List.drop_zero, List.take_left]
  simp only [Int.toNat_natCast, hdr, htk]
  rw [if_pos (by rw [List.all_eq_true]; intro x hx; rw [(List.mem_replicate.1 hx).2]; rfl)]
theorem getD_mid {α : Type} (a : List α) (x z : α) (b : List α) : (a ++ x :: b).getD a.length z = x := by simp
theorem numG_vg : ∀ (f m : Nat) (acc : Int) (pre rest : List Int), (m ≠ 0 ∨ pre.length = 0) → 1 ≤ f → m < 128 ^ f → acc + (m : Int) * 2 ^ (7 * pre.length) ≤ 9007199254740991 →
    numG f (pre ++ (vg m ++ rest)) pre.length acc = (acc + (m : Int) * 2 ^ (7 * pre.length), pre.length + (vg m).length, 0)
  | 0, m, acc, pre, rest, _, h, _, _ => by omega
  | f + 1, m, acc, pre, rest, h0, _, hm, hb => by
    have hp := pow7_pos pre.length
    rw [numG_succ]
    by_cases h : m < 128
    · rw [vg_lt h]
      have hg : (pre ++ ([(m : Int)] ++ rest)).getD pre.length 0 = (m : Int) := getD_mid pre _ 0 rest
      have e : (m : Int) % 128 = m := by omega
      rw [if_pos (by simp), hg, if_neg (by omega), e, if_neg (by
        rintro (⟨h1, h2⟩ | h1)
        · rcases h0 with h0 | h0 <;> omega
        · omega)]
      rfl
    · rw [vg_ge h]
      have hg : (pre ++ ((((m % 128 + 128 : Nat) : Int) :: vg (m / 128)) ++ rest)).getD pre.length 0 = ((m % 128 + 128 : Nat) : Int) := getD_mid pre _ 0 _
      have e : (((m % 128 + 128 : Nat) : Int)) % 128 = ((m % 128 : Nat) : Int) := by omega
      have hs : pre ++ ((((m % 128 + 128 : Nat) : Int) :: vg (m / 128)) ++ rest) = (pre ++ [((m % 128 + 128 : Nat) : Int)]) ++ (vg (m / 128) ++ rest) := by simp
      have hl : (pre ++ [((m % 128 + 128 : Nat) : Int)]).length = pre.length + 1 := by simp
      have hpw := pow7 pre.length
      have hmd : ((m % 128 : Nat) : Int) * 2 ^ (7 * pre.length) + ((m / 128 : Nat) : Int) * 2 ^ (7 * (pre.length + 1)) = (m : Int) * 2 ^ (7 * pre.length) := by
        rw [hpw, ← Int.mul_assoc, ← Int.add_mul]
        congr 1
        omega
      have hf : 1 ≤ f := by
        rcases f with _ | f
        · simp at hm; omega
        · omega
      have ih := numG_vg f (m / 128) (acc + ((m % 128 : Nat) : Int) * 2 ^ (7 * pre.length)) (pre ++ [((m % 128 + 128 : Nat) : Int)]) rest (.inl (by omega)) hf (by rw [Nat.pow_succ] at hm; omega) (by rw [hl]; omega)
      rw [if_pos (by simp), hg, if_pos (by omega), e, hs, ← hl, ih, hl]
      simp only [List.length_cons, Prod.mk.injEq, and_true]
      refine ⟨by omega, by omega⟩
theorem intE_vint {n : Int} (h0 : 0 ≤ n) (h1 : n ≤ 1073741824) (rest : List Int) : intE (vint n ++ rest) = (n, rest, 0) := by
  have hc : clampN n = n.toNat := by unfold clampN; rw [if_neg (by omega)]
  have h := numG_vg 8 n.toNat 0 [] rest (.inr rfl) (by decide) (by have : (128 : Nat) ^ 8 = 72057594037927936 := by decide
                                                                   omega) (by simp only [List.length_nil]; omega)
  simp only [List.nil_append, List.length_nil, Nat.mul_zero, Int.pow_zero, Int.mul_one, Nat.zero_add, Int.zero_add] at h
  have e : ((n.toNat : Nat) : Int) = n := by omega
  unfold intE vint
  rw [hc, h, if_pos rfl]
  simp only [e, List.drop_left]
theorem nums_rep {r : Rep} (h1 : timeB r.epoch = true) (h2 : timeB r.applied = true) (h3 : timeB r.applying = true) : numsE (repV r) = ((r.epoch, r.applied, r.applying), 0) := by
  simp only [timeB, Bool.and_eq_true, decide_eq_true_eq] at h1 h2 h3
  have e1 : intE (repV r) = (r.epoch, vint r.applied ++ vint r.applying, 0) := by
    unfold repV
    rw [List.append_assoc]
    exact intE_vint h1.1 h1.2 _
  have e2 : intE (vint r.applied ++ vint r.applying) = (r.applied, vint r.applying, 0) := intE_vint h2.1 h2.2 _
  have e3 : intE (vint r.applying) = (r.applying, [], 0) := by
    have := intE_vint h3.1 h3.2 []
    rw [List.append_nil] at this
    exact this
  unfold numsE
  simp only [e1, e2, e3, if_true, List.length_nil, Nat.lt_irrefl, if_false]
structure Cur (X Y : List Sec) (p : List Int) (K : Int) : Prop where
  lX : X.length = 8
  lY : Y.length = 8
  okX : ∀ s ∈ X, SecOK s
  okY : ∀ s ∈ Y, SecOK s
  gX : ∀ s ∈ X, genS s ≤ K
  gY : ∀ s ∈ Y, genS s ≤ K
  cur : ∃ g, 1 ≤ g ∧ parseS X = (p, g) ∧ (parseS Y).2 < g
def SBx (A B : List Sec) (p : List Int) (K : Int) : Prop := Cur A B p K ∨ Cur B A p K
theorem Cur.mono {X Y : List Sec} {p : List Int} {K L : Int} (h : Cur X Y p K) (hl : K ≤ L) : Cur X Y p L :=
  ⟨h.lX, h.lY, h.okX, h.okY, fun s hs => by have := h.gX s hs; omega, fun s hs => by have := h.gY s hs; omega, h.cur⟩
theorem SBx.mono {X Y : List Sec} {p : List Int} {K L : Int} (h : SBx X Y p K) (hl : K ≤ L) : SBx X Y p L := h.elim (fun h => .inl (h.mono hl)) fun h => .inr (h.mono hl)
theorem parse_gen (l : List Sec) : (parseS l).2 = 0 ∨ ((parseS l).2 = genS (l.getD 0 zSec) ∧ sameG l = true) := by
  unfold parseS
  split
  · rename_i hs
    split
    · exact .inl rfl
    · split
      · exact .inr ⟨rfl, hs⟩
      · exact .inl rfl
  · exact .inl rfl
theorem half_mix {H N O : List Sec} {t : Int} (lH : H.length = 8) (lN : N.length = 8) (lO : O.length = 8) (hm : ∀ j, j < 8 → H.getD j zSec = N.getD j zSec ∨ H.getD j zSec = O.getD j zSec) (hN : ∀ s ∈ N, genS s = t) (hO : ∀ s ∈ O, genS s < t) :
    H = N ∨ H = O ∨ (parseS H).2 = 0 := by
  have gN : ∀ j, j < 8 → genS (N.getD j zSec) = t := fun j hj => hN _ (getD_mem' zSec (by omega))
  have gO : ∀ j, j < 8 → genS (O.getD j zSec) < t := fun j hj => hO _ (getD_mem' zSec (by omega))
  have ext : ∀ L : List Sec, L.length = 8 → (∀ j, j < 8 → H.getD j zSec = L.getD j zSec) → H = L := fun L hL h => by
    refine List.ext_getElem (by omega) fun i h1 h2 => ?_
    have := h i (by omega)
    simpa [h1, h2] using this
  by_cases c1 : ∀ j, j < 8 → H.getD j zSec = N.getD j zSec
  · exact .inl (ext N lN c1)
  by_cases c2 : ∀ j, j < 8 → H.getD j zSec = O.getD j zSec
  · exact .inr (.inl (ext O lO c2))
  refine .inr (.inr ?_)
  rcases parse_gen H with h | ⟨_, hs⟩
  · exact h
  exfalso
  rw [Classical.not_forall] at c1 c2
  obtain ⟨a, c1⟩ := c1
  obtain ⟨b, c2⟩ := c2
  rw [Classical.not_imp] at c1 c2
  have a1 := (hm a c1.1).resolve_left c1.2
  have b1 := (hm b c2.1).resolve_right c2.2
  unfold sameG at hs
  rw [List.all_eq_true] at hs
  have ha := hs _ (getD_mem' zSec (show a < H.length by omega))
  have hb := hs _ (getD_mem' zSec (show b < H.length by omega))
  simp only [beq_iff_eq] at ha hb
  have := gN b c2.1
  have := gO a c1.1
  rw [a1] at ha
  rw [b1] at hb
  omega
theorem Cur.mix {X Y H : List Sec} {p q : List Int} {K t : Int} (h : Cur X Y p K) (ht0 : ∀ s ∈ X ++ Y, genS s < t) (ht : t ≤ K + 1) (ht1 : t < 4294967296) (hq : q.length ≤ 31) (hqb : ∀ x ∈ q, ByteOK x) (lH : H.length = 8)
    (hm : ∀ j, j < 8 → H.getD j zSec = (putS t q).getD j zSec ∨ H.getD j zSec = Y.getD j zSec) : (H ≠ putS t q ∧ Cur X H p (K + 1)) ∨ (H = putS t q ∧ Cur H X q (K + 1)) := by
  obtain ⟨g, g1, g2, g3⟩ := h.cur
  have hgX : g = genS (X.getD 0 zSec) := by
    rcases parse_gen X with e | ⟨e, _⟩
    · rw [g2] at e; simp only [] at e; omega
    · rw [g2] at e; exact e
  have hgt : g < t := by
    rw [hgX]
    exact ht0 _ (List.mem_append_left _ (getD_mem' zSec (by rw [h.lX]; decide)))
  have hN := genS_put (p := q) (show 0 ≤ t by omega) ht1
  have hNo := putS_ok t hqb hq
  have hmem : ∀ s ∈ H, s ∈ putS t q ∨ s ∈ Y := fun s hs => by
    obtain ⟨j, hj, rfl⟩ := List.mem_iff_getElem.1 hs
    have := hm j (by omega)
    rw [List.getD_eq_getElem?_getD, List.getElem?_eq_getElem hj, Option.getD_some] at this
    rcases this with e | e
    · rw [e]; exact .inl (getD_mem' zSec (by rw [putS_len]; omega))
    · rw [e]; exact .inr (getD_mem' zSec (by rw [h.lY]; omega))
  have okH : ∀ s ∈ H, SecOK s := fun s hs => (hmem s hs).elim (hNo s) (h.okY s)
  have gH : ∀ s ∈ H, genS s ≤ K + 1 := fun s hs => (hmem s hs).elim (fun e => by rw [hN s e]; exact ht) fun e => by have := h.gY s e; omega
  have gX' : ∀ s ∈ X, genS s ≤ K + 1 := fun s hs => by have := h.gX s hs; omega
  by_cases c : H = putS t q
  · refine .inr ⟨c, lH, h.lX, okH, h.okX, gH, gX', t, by omega, ?_, ?_⟩
    · rw [c]; exact parse_put (by omega) ht1 hq
    · rw [g2]; exact hgt
  refine .inl ⟨c, ?_⟩
  rcases half_mix lH (putS_len t q) h.lY hm hN (fun s hs => ht0 s (List.mem_append_right _ hs)) with e | e | e
  · exact absurd e c
  · rw [e]; exact h.mono (by omega)
  · exact ⟨h.lX, lH, h.okX, okH, gX', gH, g, g1, g2, by omega⟩
end Go.Proofs.YtkghiceeegindaaGreatDoor
namespace Go.Proofs.YtkghiceeegindaaGreatDoor
open Go.Proofs Go.AL
set_option maxRecDepth 100000
set_option linter.unusedVariables false
set_option linter.unusedSimpArgs false
theorem newL_app (st : List Sec) (a b : List (Int × Sec)) : newL st (a ++ b) = newL (newL st a) b := by unfold newL; rw [List.foldl_append]
theorem newL_over : ∀ (l l' P Q : List Sec), l'.length = l.length → newL (P ++ (l' ++ Q)) (putC (P.length : Int) l) = P ++ (l ++ Q)
  | [], [], P, Q, _ => rfl
  | [], _ :: _, P, Q, h => by simp at h
  | _ :: _, [], P, Q, h => by simp at h
  | s :: l, s' :: l', P, Q, h => by
    have ih := newL_over l l' (P ++ [s]) Q (by simpa using h)
    have e : (P ++ (s' :: l' ++ Q)).set P.length s = (P ++ [s]) ++ (l' ++ Q) := by
      rw [List.set_append_right _ _ (Nat.le_refl _), Nat.sub_self]; simp
    show newL ((P ++ (s' :: l' ++ Q)).set (P.length : Int).toNat s) (putC ((P.length : Int) + 1) l) = _
    rw [Int.toNat_natCast, e]
    have e2 : ((P.length : Int) + 1) = (((P ++ [s]).length : Nat) : Int) := by simp
    rw [e2, ih]; simp
theorem getD_set {α : Type} (l : List α) (i j : Nat) (x z : α) : (l.set i x).getD j z = if i = j ∧ j < l.length then x else l.getD j z := by
  by_cases h : i = j
  · subst h
    by_cases h2 : i < l.length
    · rw [if_pos ⟨rfl, h2⟩]; exact getD_set_same z x h2
    · rw [if_neg (fun q => h2 q.2), List.getD_eq_getElem?_getD, List.getElem?_eq_none (by rw [List.length_set]; omega), List.getD_eq_getElem?_getD, List.getElem?_eq_none (by omega)]
  · rw [if_neg (fun q => h q.1)]; exact getD_set_ne z x h
theorem newL_agree : ∀ (ca : List (Int × Sec)) (a b : List Sec), a.length = b.length → (∀ i, i < a.length → a.getD i zSec = b.getD i zSec ∨ ∃ c ∈ ca, c.1.toNat = i) → newL a ca = newL b ca
  | [], a, b, h, h2 => by
    show a = b
    refine List.ext_getElem h fun i h1 h3 => ?_
    rcases h2 i h1 with e | ⟨c, hc, _⟩
    · simpa [h1, h3] using e
    · simp at hc
  | c :: ca, a, b, h, h2 => by
    show newL (a.set c.1.toNat c.2) ca = newL (b.set c.1.toNat c.2) ca
    refine newL_agree ca _ _ (by simp [h]) fun i hi => ?_
    rw [List.length_set] at hi
    rw [getD_set, getD_set]
    by_cases g : c.1.toNat = i
    · rw [if_pos ⟨g, hi⟩, if_pos ⟨g, by omega⟩]; exact .inl rfl
    · rw [if_neg (fun q => g q.1), if_neg (fun q => g q.1)]
      rcases h2 i hi with e | ⟨x, hx, e⟩
      · exact .inl e
      · rcases List.mem_cons.1 hx with rfl | hx
        · exact absurd e g
        · exact .inr ⟨x, hx, e⟩
theorem newL_keep : ∀ (ca : List (Int × Sec)) (a : List Sec) (i : Nat), (∀ c ∈ ca, c.1.toNat ≠ i) → (newL a ca).getD i zSec = a.getD i zSec
  | [], a, i, _ => rfl
  | c :: ca, a, i, h => by
    show (newL (a.set c.1.toNat c.2) ca).getD i zSec = _
    rw [newL_keep ca _ i fun x hx => h x (List.mem_cons_of_mem _ hx), getD_set, if_neg (fun q => h c (List.mem_cons_self ..) q.1)]
theorem mem_putC : ∀ (l : List Sec) (a : Int) (c : Int × Sec), c ∈ putC a l → ∃ j, j < l.length ∧ c.1 = a + j ∧ c.2 = l.getD j zSec
  | [], a, c, h => by simp [putC] at h
  | s :: l, a, c, h => by
    simp only [putC, List.mem_cons] at h
    rcases h with rfl | h
    · exact ⟨0, by simp, by simp, rfl⟩
    · obtain ⟨j, h1, h2, h3⟩ := mem_putC l (a + 1) c h
      exact ⟨j + 1, by simp; exact h1, by rw [h2]; omega, by rw [h3]; simp⟩
def ru : List Opr → Dsk → Option Dsk
  | [], d => some d
  | o :: r, d => if o.1 = 0 then (if insB d o.2.1 o.2.2.length = true then ru r ⟨d.st, d.ca ++ putC o.2.1 o.2.2⟩ else none) else if o.1 = 1 then ru r ⟨newL d.st d.ca, []⟩ else none
theorem ru_ok : ∀ (ops : List Opr) (d d' : Dsk) (i : Nat), dskE d = 0 → ru ops d = some d' → runG ops d i = (d', ((i + ops.length : Nat) : Int), 0) ∧ dskE d' = 0 ∧ d'.st.length = d.st.length
  | [], d, d', i, h, h2 => by
    simp only [ru, Option.some.injEq] at h2
    subst h2
    exact ⟨rfl, h, rfl⟩
  | o :: r, d, d', i, h, h2 => by
    simp only [ru] at h2
    simp only [runG]
    split at h2
    · rename_i h3
      split at h2
      · rename_i h4
        have hw : writeE d o.2.1 o.2.2 = (⟨d.st, d.ca ++ putC o.2.1 o.2.2⟩, 0) := by unfold writeE; rw [if_pos h, if_pos h4]
        obtain ⟨q1, q2, q3⟩ := ru_ok r _ d' (i + 1) (dskE_put h h4) h2
        rw [if_pos h3, hw]
        simp only [if_true]
        exact ⟨by rw [q1]; simp only [List.length_cons, Prod.mk.injEq, and_true, true_and]; omega, q2, q3⟩
      · cases h2
    · rename_i h3
      split at h2
      · rename_i h4
        obtain ⟨q1, q2, q3⟩ := ru_ok r _ d' (i + 1) (dskE_len (dskE_ok h).1 (newL_len _ _)) h2
        rw [if_neg h3, if_pos h4]
        exact ⟨by rw [q1]; simp only [List.length_cons, Prod.mk.injEq, and_true, true_and]; omega, q2, by rw [q3]; exact newL_len _ _⟩
      · cases h2
theorem ru_run {ops : List Opr} {d d' : Dsk} (h : dskE d = 0) (h2 : ru ops d = some d') : runE d ops = (d', (ops.length : Int), 0) := by
  unfold runE
  rw [if_pos h, (ru_ok ops d d' 0 h h2).1, Nat.zero_add]
theorem ru_app : ∀ (a b : List Opr) (d d' : Dsk), ru a d = some d' → ru (a ++ b) d = ru b d'
  | [], b, d, d', h => by
    simp only [ru, Option.some.injEq] at h
    subst h; rfl
  | o :: r, b, d, d', h => by
    simp only [ru, List.cons_append] at h ⊢
    split at h
    · rename_i h3
      split at h
      · rename_i h4
        rw [if_pos h3, if_pos h4]; exact ru_app r b _ d' h
      · cases h
    · rename_i h3
      split at h
      · rename_i h4
        rw [if_neg h3, if_pos h4]; exact ru_app r b _ d' h
      · cases h
def Aft (Gd : Dsk → Prop) (d : Dsk) : Prop := ∀ c, Gd (crashS d c).1
def Path (Gd : Dsk → Prop) (ops : List Opr) (d : Dsk) : Prop := ∀ k, k ≤ ops.length → ∃ d', ru (ops.take k) d = some d' ∧ Aft Gd d'
theorem Path.app {Gd : Dsk → Prop} {a b : List Opr} {d d1 : Dsk} (h : ru a d = some d1) (ha : Path Gd a d) (hb : Path Gd b d1) : Path Gd (a ++ b) d := by
  intro k hk
  by_cases hle : k ≤ a.length
  · rw [List.take_append_of_le_length hle]; exact ha k hle
  · rw [List.take_append, List.take_of_length_le (by omega), ru_app a _ d d1 h]
    exact hb (k - a.length) (by rw [List.length_append] at hk; omega)
theorem Path.mono {G1 G2 : Dsk → Prop} {a : List Opr} {d : Dsk} (h : ∀ e, G1 e → G2 e) (ha : Path G1 a d) : Path G2 a d := fun k hk => by
  obtain ⟨d', h1, h2⟩ := ha k hk
  exact ⟨d', h1, fun c => h _ (h2 c)⟩
theorem crash_mem (ca : List (Int × Sec)) (st : List Sec) (c : List Int) : ∀ k, ∀ i, (crashTo ca st c k).1.getD i zSec = st.getD i zSec ∨ ((i : Int), (crashTo ca st c k).1.getD i zSec) ∈ ca
  | 0, i => .inl rfl
  | k + 1, i => by
    have ih := crash_mem ca st c k i
    rw [crashTo_succ]
    unfold crashStep
    by_cases h0 : (versS ca (k : Int)).length = 0
    · rw [if_pos h0]; exact ih
    · rw [if_neg h0]
      obtain ⟨r1, r2⟩ := decN_rng (crashTo ca st c k).2 (show (0 : Int) < ((versS ca (k : Int)).length : Int) + 1 by omega)
      by_cases h1 : 0 < (decN (crashTo ca st c k).2 ((versS ca (k : Int)).length + 1)).1
      · simp only [if_pos h1]
        rw [getD_set]
        by_cases h2 : k = i ∧ i < (crashTo ca st c k).1.length
        · rw [if_pos h2]
          obtain ⟨rfl, _⟩ := h2
          refine .inr ?_
          have hm : (versS ca (k : Int)).getD ((decN (crashTo ca st c k).2 ((versS ca (k : Int)).length + 1)).1 - 1).toNat zSec ∈ versS ca (k : Int) := getD_mem' zSec (by omega)
          generalize (versS ca (k : Int)).getD ((decN (crashTo ca st c k).2 ((versS ca (k : Int)).length + 1)).1 - 1).toNat zSec = x at hm ⊢
          unfold versS at hm
          obtain ⟨y, hy, rfl⟩ := List.mem_map.1 hm
          obtain ⟨hy1, hy2⟩ := List.mem_filter.1 hy
          obtain ⟨y1, y2⟩ := y
          simp only [beq_iff_eq] at hy2
          rw [← hy2]; exact hy1
        · rw [if_neg h2]; exact ih
      · simp only [if_neg h1]; exact ih
theorem crash_mix {d : Dsk} (h : dskE d = 0) (c : List Int) : ∃ st', (crashS d c).1 = ⟨st', []⟩ ∧ st'.length = d.st.length ∧ ∀ i : Nat, st'.getD i zSec = d.st.getD i zSec ∨ ((i : Int), st'.getD i zSec) ∈ d.ca := by
  unfold crashS
  rw [if_pos h]
  exact ⟨_, rfl, crashTo_len _ _ _ _, crash_mem _ _ _ _⟩
theorem crash_clean {st : List Sec} (h : dskE ⟨st, []⟩ = 0) (c : List Int) : (crashS ⟨st, []⟩ c).1 = ⟨st, []⟩ := by
  obtain ⟨st', h1, h2, h3⟩ := crash_mix h c
  rw [h1]
  congr 1
  refine List.ext_getElem h2 fun i a b => ?_
  rcases h3 i with e | e
  · simpa [a, b] using e
  · simp at e
theorem split_mix {P O Q st' : List Sec} {ca : List (Int × Sec)} (hl : st'.length = (P ++ (O ++ Q)).length) (hc : ∀ c ∈ ca, (P.length : Int) ≤ c.1 ∧ c.1 < P.length + O.length)
    (h : ∀ i : Nat, st'.getD i zSec = (P ++ (O ++ Q)).getD i zSec ∨ ((i : Int), st'.getD i zSec) ∈ ca) :
    ∃ H, st' = P ++ (H ++ Q) ∧ H.length = O.length ∧ ∀ j, j < O.length → H.getD j zSec = O.getD j zSec ∨ (((P.length + j : Nat) : Int), H.getD j zSec) ∈ ca := by
  have hl2 : st'.length = P.length + (O.length + Q.length) := by rw [hl]; simp
  have e1 : st'.take P.length = P := by
    refine List.ext_getElem (by rw [List.length_take]; omega) fun i a b => ?_
    rcases h i with e | e
    · rw [List.getD_eq_getElem?_getD, List.getD_eq_getElem?_getD, List.getElem?_append_left b] at e
      rw [List.getElem_take]
      simpa [show i < st'.length by omega, b] using e
    · have := (hc _ e).1; simp only [] at this; omega
  have e2 : st'.drop (P.length + O.length) = Q := by
    refine List.ext_getElem (by rw [List.length_drop]; omega) fun i a b => ?_
    rcases h (P.length + O.length + i) with e | e
    · rw [List.getD_eq_getElem?_getD, List.getD_eq_getElem?_getD, List.getElem?_append_right (by omega), List.getElem?_append_right (by omega)] at e
      rw [List.getElem_drop]
      rw [show P.length + O.length + i - P.length - O.length = i by omega] at e
      simpa [show P.length + O.length + i < st'.length by omega, b] using e
    · have := (hc _ e).2; simp only [] at this; omega
  refine ⟨(st'.drop P.length).take O.length, ?_, by rw [List.length_take, List.length_drop]; omega, fun j hj => ?_⟩
  · have h1 := (List.take_append_drop P.length st').symm
    have h2 := (List.take_append_drop O.length (st'.drop P.length)).symm
    rw [List.drop_drop, e2] at h2
    rw [e1, h2] at h1
    exact h1.trans (by rw [← h2])
  · have e3 : ((st'.drop P.length).take O.length).getD j zSec = st'.getD (P.length + j) zSec := by
      rw [List.getD_eq_getElem?_getD, List.getElem?_take_of_lt hj, List.getElem?_drop, ← List.getD_eq_getElem?_getD]
    rw [e3]
    rcases h (P.length + j) with e | e
    · refine .inl ?_
      rw [e, List.getD_eq_getElem?_getD, List.getElem?_append_right (by omega), List.getElem?_append_left (by omega), ← List.getD_eq_getElem?_getD]
      congr 1; omega
    · exact .inr e
end Go.Proofs.YtkghiceeegindaaGreatDoor
namespace Go.Proofs.YtkghiceeegindaaGreatDoor
open Go.Proofs Go.AL
set_option maxRecDepth 100000
set_option linter.unusedVariables false
set_option linter.unusedSimpArgs false
theorem foldmax_ge : ∀ (l : List Sec) (m : Int), m ≤ l.foldl (fun m s => max m (genS s)) m ∧ ∀ s ∈ l, genS s ≤ l.foldl (fun m s => max m (genS s)) m
  | [], m => ⟨by simp, fun s hs => by simp at hs⟩
  | x :: l, m => by
    obtain ⟨h1, h2⟩ := foldmax_ge l (max m (genS x))
    refine ⟨by simp only [List.foldl_cons]; omega, fun s hs => ?_⟩
    simp only [List.foldl_cons]
    rcases List.mem_cons.1 hs with rfl | hs
    · omega
    · exact h2 s hs
theorem foldmax_le : ∀ (l : List Sec) (m K : Int), m ≤ K → (∀ s ∈ l, genS s ≤ K) → l.foldl (fun m s => max m (genS s)) m ≤ K
  | [], m, K, h, _ => h
  | x :: l, m, K, h, h2 => foldmax_le l (max m (genS x)) K (by have := h2 x (by simp); omega) fun s hs => h2 s (by simp [hs])
theorem Cur.pos {X Y : List Sec} {p : List Int} {K : Int} (h : Cur X Y p K) : 1 ≤ K := by
  obtain ⟨g, g1, g2, g3⟩ := h.cur
  rcases parse_gen X with e | ⟨e, _⟩
  · rw [g2] at e; simp only [] at e; omega
  · rw [g2] at e
    simp only [] at e
    have := h.gX _ (getD_mem' zSec (show 0 < X.length by rw [h.lX]; decide))
    omega
theorem sbL_st {A B R : List Sec} (hA : A.length = 8) (hB : B.length = 8) : sbL ⟨A ++ (B ++ R), []⟩ 0 = A ++ B := by
  have e : (A ++ B).length = 16 := by simp [hA, hB]
  show ((A ++ (B ++ R)).drop 0).take 16 = A ++ B
  rw [List.drop_zero, ← List.append_assoc, ← e, List.take_left]
theorem dsk_st {A B R : List Sec} (hA : A.length = 8) (hB : B.length = 8) (hR : 16 + R.length ≤ 4096) : dskE ⟨A ++ (B ++ R), []⟩ = 0 := dskE_len (st := List.replicate 16 zSec ++ R) (by simp; omega) (by simp [hA, hB]; omega)
theorem find_st {A B R : List Sec} {p : List Int} {K : Int} (h : SBx A B p K) (hR : 16 + R.length ≤ 4096) :
    ∃ i g, findE ⟨A ++ (B ++ R), []⟩ 0 = (A ++ B, i, p, g, 0) ∧ ((i = 0 ∧ Cur A B p K) ∨ (i = 1 ∧ Cur B A p K)) := by
  have lA : A.length = 8 := h.elim (·.lX) (·.lY)
  have lB : B.length = 8 := h.elim (·.lY) (·.lX)
  have e1 : (A ++ B).take 8 = A := by rw [← lA, List.take_left]
  have e2 : (A ++ B).drop 8 = B := by rw [← lA, List.drop_left]
  unfold findE
  rw [if_pos (dsk_st lA lB hR), if_neg (by simp only [List.length_append]; omega), sbL_st lA lB, e1, e2]
  rcases h with h | h
  · obtain ⟨g, g1, g2, g3⟩ := h.cur
    rw [g2]
    rw [if_neg (by simp only []; omega), if_neg (by simp only []; omega)]
    exact ⟨0, g, rfl, .inl ⟨rfl, h⟩⟩
  · obtain ⟨g, g1, g2, g3⟩ := h.cur
    rw [g2]
    rw [if_neg (by simp only []; omega), if_pos (by simp only []; omega)]
    exact ⟨1, g, rfl, .inr ⟨rfl, h⟩⟩
theorem take2 {α : Type} (a b : α) (k : Nat) : k ≤ 2 → ([a, b].take k = [] ∧ k = 0) ∨ ([a, b].take k = [a] ∧ k = 1) ∨ ([a, b].take k = [a, b] ∧ k = 2) := by
  intro h
  match k, h with
  | 0, _ => exact .inl ⟨rfl, rfl⟩
  | 1, _ => exact .inr (.inl ⟨rfl, rfl⟩)
  | 2, _ => exact .inr (.inr ⟨rfl, rfl⟩)
theorem over_path {P O Q N : List Sec} {Gd : Dsk → Prop} {a : Int} (ha : a = (P.length : Int)) (hO : O.length = N.length) (hl : (P ++ (O ++ Q)).length ≤ 4096)
    (hg : ∀ H, H.length = O.length → (∀ j, j < O.length → H.getD j zSec = N.getD j zSec ∨ H.getD j zSec = O.getD j zSec) → Gd ⟨P ++ (H ++ Q), []⟩) :
    ru [(0, a, N), (1, 0, [])] ⟨P ++ (O ++ Q), []⟩ = some ⟨P ++ (N ++ Q), []⟩ ∧ Path Gd [(0, a, N), (1, 0, [])] ⟨P ++ (O ++ Q), []⟩ := by
  subst ha
  have h0 : dskE ⟨P ++ (O ++ Q), []⟩ = 0 := dskE_len hl rfl
  have hi : insB ⟨P ++ (O ++ Q), []⟩ (P.length : Int) N.length = true := by
    unfold insB
    simp only [Bool.and_eq_true, decide_eq_true_eq, List.length_append]
    omega
  have h1 : ru [(0, (P.length : Int), N)] ⟨P ++ (O ++ Q), []⟩ = some ⟨P ++ (O ++ Q), putC (P.length : Int) N⟩ := by
    simp only [ru, if_true, hi, List.nil_append]
  have h2 : ru [(0, (P.length : Int), N), (1, 0, [])] ⟨P ++ (O ++ Q), []⟩ = some ⟨P ++ (N ++ Q), []⟩ := by
    simp only [ru, if_true, hi, List.nil_append, newL_over N O P Q hO]
    rfl
  refine ⟨h2, fun k hk => ?_⟩
  rcases take2 ((0, (P.length : Int), N) : Opr) ((1, 0, []) : Opr) k hk with ⟨e, _⟩ | ⟨e, _⟩ | ⟨e, _⟩
  · refine ⟨_, by rw [e]; rfl, fun c => ?_⟩
    rw [crash_clean h0]
    exact hg O rfl fun j _ => .inr rfl
  · refine ⟨_, by rw [e]; exact h1, fun c => ?_⟩
    have h3 : dskE ⟨P ++ (O ++ Q), putC (P.length : Int) N⟩ = 0 := by
      have := dskE_put h0 hi
      exact this
    obtain ⟨st', q1, q2, q3⟩ := crash_mix h3 c
    rw [q1]
    obtain ⟨H, r1, r2, r3⟩ := split_mix (ca := putC (P.length : Int) N) q2 (fun c hc => by
      obtain ⟨j, j1, j2, _⟩ := mem_putC _ _ _ hc
      omega) q3
    rw [r1]
    refine hg H r2 fun j hj => ?_
    rcases r3 j hj with e | e
    · exact .inr e
    · obtain ⟨i, i1, i2, i3⟩ := mem_putC _ _ _ e
      simp only [] at i2 i3
      obtain rfl : j = i := by omega
      exact .inl i3
  · refine ⟨_, by rw [e]; exact h2, fun c => ?_⟩
    have h4 : dskE ⟨P ++ (N ++ Q), []⟩ = 0 := dskE_len hl (by simp [hO])
    rw [crash_clean h4]
    exact hg N hO.symm fun j _ => .inl rfl
theorem store_path {A B R : List Sec} {p q : List Int} {K : Int} (h : SBx A B p K) (hR : 16 + R.length ≤ 4096) (hK : K + 1 < 4294967296) (hq : q.length ≤ 31) (hqb : ∀ x ∈ q, ByteOK x) :
    ∃ ops A2 B2, storeE ⟨A ++ (B ++ R), []⟩ 0 q = (ops, 0) ∧ ops.length = 2 ∧ ru ops ⟨A ++ (B ++ R), []⟩ = some ⟨A2 ++ (B2 ++ R), []⟩ ∧ SBx A2 B2 q (K + 1) ∧
      Path (fun e => ∃ A' B', e = ⟨A' ++ (B' ++ R), []⟩ ∧ (SBx A' B' p (K + 1) ∨ SBx A' B' q (K + 1))) ops ⟨A ++ (B ++ R), []⟩ := by
  have lA : A.length = 8 := h.elim (·.lX) (·.lY)
  have lB : B.length = 8 := h.elim (·.lY) (·.lX)
  have gAB : ∀ s ∈ A ++ B, genS s ≤ K := fun s hs => by
    rcases h with h | h <;> rcases List.mem_append.1 hs with e | e
    · exact h.gX s e
    · exact h.gY s e
    · exact h.gY s e
    · exact h.gX s e
  have hp : 1 ≤ K := h.elim (·.pos) (·.pos)
  have t1 : topS (A ++ B) ≤ K := foldmax_le _ 0 K (by omega) gAB
  have t2 : ∀ s ∈ A ++ B, genS s < topS (A ++ B) + 1 := fun s hs => by
    have := (foldmax_ge (A ++ B) 0).2 s hs
    have e : topS (A ++ B) = (A ++ B).foldl (fun m s => max m (genS s)) 0 := rfl
    omega
  obtain ⟨i, g, hf, hc⟩ := find_st h hR
  have hst : storeE ⟨A ++ (B ++ R), []⟩ 0 q = ([(0, 0 + 8 - 8 * i, putS (topS (A ++ B) + 1) q), (1, 0, [])], 0) := by
    unfold storeE
    rw [hf]
    simp only [if_true]
    rw [if_neg (by omega), sbL_st lA lB, if_neg (by omega)]
  rw [hst]
  have t4 : topS (A ++ B) + 1 ≤ K + 1 := by omega
  generalize topS (A ++ B) + 1 = t at *
  have lN : (putS t q).length = 8 := putS_len t q
  have ll : (A ++ (B ++ R)).length ≤ 4096 := by simp only [List.length_append]; omega
  rcases hc with ⟨rfl, hc⟩ | ⟨rfl, hc⟩
  · have hm := fun H lH hm => hc.mix (H := H) t2 (by omega) (by omega) hq hqb lH hm
    obtain ⟨r1, r2⟩ := over_path (P := A) (O := B) (Q := R) (N := putS t q) (a := 0 + 8 - 8 * 0) (Gd := fun e => ∃ A' B', e = ⟨A' ++ (B' ++ R), []⟩ ∧ (SBx A' B' p (K + 1) ∨ SBx A' B' q (K + 1))) (by rw [lA]; decide) (by rw [lB, lN]) ll (fun H lH hH => ⟨A, H, rfl, by
      rcases hm H (by omega) (by rw [lB] at hH; exact hH) with ⟨_, e⟩ | ⟨_, e⟩
      · exact .inl (.inl e)
      · exact .inr (.inr e)⟩)
    refine ⟨_, _, _, rfl, rfl, r1, ?_, r2⟩
    rcases hm (putS t q) lN (fun j _ => .inl rfl) with ⟨e, _⟩ | ⟨_, e⟩
    · exact absurd rfl e
    · exact .inr e
  · have t3 : ∀ s ∈ B ++ A, genS s < t := fun s hs => t2 s (by rcases List.mem_append.1 hs with e | e <;> simp [e])
    have hm := fun H lH hm => hc.mix (H := H) t3 (by omega) (by omega) hq hqb lH hm
    obtain ⟨r1, r2⟩ := over_path (P := []) (O := A) (Q := B ++ R) (N := putS t q) (a := 0 + 8 - 8 * 1) (Gd := fun e => ∃ A' B', e = ⟨A' ++ (B' ++ R), []⟩ ∧ (SBx A' B' p (K + 1) ∨ SBx A' B' q (K + 1))) (by decide) (by rw [lA, lN]) ll (fun H lH hH => ⟨H, B, rfl, by
      rcases hm H (by omega) (by rw [lA] at hH; exact hH) with ⟨_, e⟩ | ⟨_, e⟩
      · exact .inl (.inr e)
      · exact .inr (.inl e)⟩)
    refine ⟨_, _, _, rfl, rfl, r1, ?_, r2⟩
    rcases hm (putS t q) lN (fun j _ => .inl rfl) with ⟨e, _⟩ | ⟨_, e⟩
    · exact absurd rfl e
    · exact .inl e
end Go.Proofs.YtkghiceeegindaaGreatDoor
namespace Go.Proofs.YtkghiceeegindaaGreatDoor
open Go.Proofs Go.AL
set_option maxRecDepth 100000
set_option linter.unusedVariables false
set_option linter.unusedSimpArgs false
theorem sum_sz : ∀ im : List (List Sec), sum (szOf im) = (im.flatten.length : Int)
  | [] => rfl
  | v :: im => by
    show sum ((v.length : Int) :: szOf im) = _
    rw [sum_cons, sum_sz im]; simp
theorem szOf_take (im : List (List Sec)) (v : Nat) : szOf (im.take v) = (szOf im).take v := by simp [szOf, List.map_take]
theorem copyO_at {r : Rep} {w : Wrt} (hr : repE r = 0) (hf : fitE r.sizes w = 0) : ∃ n : Nat, (copyO r w).2.1 = (n : Int) ∧ (n : Int) = r.data + sum (r.sizes.take w.1.toNat) + w.2.1 ∧ r.data ≤ (n : Int) ∧ (n : Int) + w.2.2.length ≤ r.data + sum r.sizes := by
  obtain ⟨y1, y2, y3, y4, y5, y6⟩ := layE_ok (repE_ok hr)
  obtain ⟨z1, z2, z3⟩ := sizes_ok y1
  have hs := sum_ok y1
  unfold fitE at hf
  by_cases g1 : w.1 < 0 ∨ (r.sizes.length : Int) ≤ w.1
  · rw [if_pos g1] at hf; exact absurd hf (by decide)
  rw [if_neg g1] at hf
  by_cases g2 : w.2.2.length = 0
  · rw [if_pos g2] at hf; exact absurd hf (by decide)
  rw [if_neg g2] at hf
  by_cases g3 : w.2.1 < 0 ∨ r.sizes.getD w.1.toNat 0 - w.2.2.length < w.2.1
  · rw [if_pos g3] at hf; exact absurd hf (by decide)
  have hv : w.1.toNat < r.sizes.length := by omega
  obtain ⟨s1, s2, s3⟩ := sum_take (l := r.sizes) z3 hv
  have hp := placeE_in hr (Nat.le_of_lt hv)
  have e : (copyO r w).2.1 = r.data + sum (r.sizes.take w.1.toNat) + w.2.1 := by
    show IntKind.i64.wrap (placeE r w.1.toNat + w.2.1) = _
    rw [hp]
    exact IntWalk.i64_in _ (by omega)
  refine ⟨(r.data + sum (r.sizes.take w.1.toNat) + w.2.1).toNat, ?_, ?_, ?_, ?_⟩
  · rw [e]; omega
  · omega
  · omega
  · omega
def wca (r : Rep) (ws : List Wrt) : List (Int × Sec) := ws.flatMap fun w => putC (copyO r w).2.1 w.2.2
theorem wca_cons (r : Rep) (w : Wrt) (l : List Wrt) : wca r (w :: l) = putC (copyO r w).2.1 w.2.2 ++ wca r l := rfl
theorem wca_in {r : Rep} (hr : repE r = 0) : ∀ (ws : List Wrt), (∀ w ∈ ws, fitE r.sizes w = 0) → ∀ c ∈ wca r ws, r.data ≤ c.1 ∧ c.1 < r.data + sum r.sizes
  | [], _, c, hc => by simp [wca] at hc
  | w :: l, h, c, hc => by
    rw [wca_cons] at hc
    rcases List.mem_append.1 hc with hc | hc
    · obtain ⟨j, j1, j2, _⟩ := mem_putC _ _ _ hc
      obtain ⟨n, n1, n2, n3, n4⟩ := copyO_at hr (h w (by simp))
      rw [n1] at j2
      omega
    · exact wca_in hr l (fun x hx => h x (by simp [hx])) c hc
theorem wca_take (r : Rep) (ws : List Wrt) (k : Nat) : ∀ c ∈ wca r (ws.take k), c ∈ wca r ws := by
  intro c hc
  simp only [wca, List.mem_flatMap] at hc ⊢
  obtain ⟨w, hw, hc⟩ := hc
  exact ⟨w, List.mem_of_mem_take hw, hc⟩
theorem ru_ws {r : Rep} (hr : repE r = 0) : ∀ (ws : List Wrt) (st : List Sec) (ca : List (Int × Sec)), (∀ w ∈ ws, fitE r.sizes w = 0) → r.data + sum r.sizes ≤ (st.length : Int) → ru (ws.map (copyO r)) ⟨st, ca⟩ = some ⟨st, ca ++ wca r ws⟩
  | [], st, ca, _, _ => by simp [ru, wca]
  | w :: l, st, ca, h, hl => by
    obtain ⟨n, n1, n2, n3, n4⟩ := copyO_at hr (h w (by simp))
    obtain ⟨_, y2, _, y4, _, _⟩ := layE_ok (repE_ok hr)
    have hi : insB ⟨st, ca⟩ (copyO r w).2.1 (copyO r w).2.2.length = true := by
      have e : (copyO r w).2.2 = w.2.2 := rfl
      unfold insB
      rw [e, n1]
      simp only [Bool.and_eq_true, decide_eq_true_eq]
      omega
    have h0 : (copyO r w).1 = 0 := rfl
    rw [List.map_cons]
    unfold ru
    rw [if_pos h0, if_pos hi, ru_ws hr l st _ (fun x hx => h x (by simp [hx])) hl, wca_cons, ← List.append_assoc]
    rfl
def Reach (r : Rep) (ws : List Wrt) (D D2 : List Sec) : Prop := (D.length : Int) = sum r.sizes ∧ D2.length = D.length ∧ ∀ P Q : List Sec, (P.length : Int) = r.data → newL (P ++ (D ++ Q)) (wca r ws) = P ++ (D2 ++ Q)
theorem getD_mid2 {P D Q : List Sec} {j : Nat} (hj : j < D.length) : (P ++ (D ++ Q)).getD (P.length + j) zSec = D.getD j zSec := by
  rw [List.getD_eq_getElem?_getD, List.getElem?_append_right (by omega), List.getElem?_append_left (by omega), ← List.getD_eq_getElem?_getD]
  congr 1; omega
theorem Reach.part {r : Rep} {ws : List Wrt} {D D2 D' : List Sec} (h : Reach r ws D D2) (hl : D'.length = D.length) (h2 : ∀ (n j : Nat), (n : Int) = r.data → j < D.length → D'.getD j zSec = D.getD j zSec ∨ ∃ c ∈ wca r ws, c.1.toNat = n + j) : Reach r ws D' D2 := by
  refine ⟨by rw [hl]; exact h.1, by rw [hl]; exact h.2.1, fun P Q hP => ?_⟩
  rw [← h.2.2 P Q hP]
  refine newL_agree _ _ _ (by simp [hl]) fun i hi => ?_
  simp only [List.length_append] at hi
  by_cases c1 : i < P.length
  · rw [List.getD_eq_getElem?_getD, List.getD_eq_getElem?_getD, List.getElem?_append_left c1, List.getElem?_append_left c1]; exact .inl rfl
  · by_cases c2 : i < P.length + D.length
    · obtain ⟨j, rfl⟩ : ∃ j, i = P.length + j := ⟨i - P.length, by omega⟩
      rw [getD_mid2 (by omega), getD_mid2 (by omega)]
      exact h2 P.length j hP (by omega)
    · rw [List.getD_eq_getElem?_getD, List.getD_eq_getElem?_getD, List.getElem?_append_right (by omega), List.getElem?_append_right (by omega), List.getElem?_append_right (by omega), List.getElem?_append_right (by omega), hl]; exact .inl rfl
theorem Reach.self {r : Rep} {ws : List Wrt} {D D2 : List Sec} (h : Reach r ws D D2) : Reach r ws D2 D2 := by
  refine h.part h.2.1 fun n j hn hj => ?_
  by_cases c : ∃ c ∈ wca r ws, c.1.toNat = n + j
  · exact .inr c
  · refine .inl ?_
    have hk := newL_keep (wca r ws) (List.replicate n zSec ++ (D ++ [])) (n + j) fun x hx e => c ⟨x, hx, e⟩
    rw [h.2.2 _ _ (by simp; exact hn)] at hk
    have e1 := getD_mid2 (P := List.replicate n zSec) (D := D2) (Q := []) (j := j) (by rw [h.2.1]; exact hj)
    have e2 := getD_mid2 (P := List.replicate n zSec) (D := D) (Q := []) (j := j) hj
    rw [List.length_replicate] at e1 e2
    rw [e1, e2] at hk
    exact hk
theorem newL_write {r : Rep} {im : List (List Sec)} {w : Wrt} {P Q : List Sec} (hr : repE r = 0) (hs : szOf im = r.sizes) (hf : fitE r.sizes w = 0) (hP : (P.length : Int) = r.data) :
    newL (P ++ (im.flatten ++ Q)) (putC (copyO r w).2.1 w.2.2) = P ++ ((putW im w).flatten ++ Q) := by
  obtain ⟨n, n1, n2, n3, n4⟩ := copyO_at hr hf
  rw [← hs] at hf
  obtain ⟨f1, f2, f3, f4, f5⟩ := fitE_in hf
  obtain ⟨v, t, d⟩ := w
  simp only [] at *
  obtain ⟨V, rfl⟩ := Int.eq_ofNat_of_zero_le f1
  obtain ⟨T, rfl⟩ := Int.eq_ofNat_of_zero_le f4
  simp only [Int.toNat_natCast] at *
  have e1 : im = im.take V ++ im.getD V [] :: im.drop (V + 1) := by
    conv => lhs; rw [← List.take_append_drop V im, List.drop_eq_getElem_cons f2]
    simp [f2]
  have e2 : putW im ((V : Int), (T : Int), d) = im.take V ++ putV (im.getD V []) T d :: im.drop (V + 1) := by
    unfold putW
    simp only [Int.toNat_natCast]
    rw [List.set_eq_take_append_cons_drop, if_pos f2]
  have e3 : im.flatten = (im.take V).flatten ++ (im.getD V [] ++ (im.drop (V + 1)).flatten) := by
    conv => lhs; rw [e1]
    simp
  have e4 : (putW im ((V : Int), (T : Int), d)).flatten = (im.take V).flatten ++ (putV (im.getD V []) T d ++ (im.drop (V + 1)).flatten) := by
    rw [e2]; simp
  have hsz : sum (r.sizes.take V) = ((im.take V).flatten.length : Int) := by rw [← hs, ← szOf_take, sum_sz]
  generalize im.getD V [] = x at *
  generalize (im.take V).flatten = I1 at *
  generalize (im.drop (V + 1)).flatten = I2 at *
  have e5 : x = x.take T ++ ((x.drop T).take d.length ++ x.drop (T + d.length)) := by
    conv => lhs; rw [← List.take_append_drop T x, ← List.take_append_drop d.length (x.drop T), List.drop_drop]
  have lx : (x.take T).length = T := by rw [List.length_take]; omega
  have lm : ((x.drop T).take d.length).length = d.length := by rw [List.length_take, List.length_drop]; omega
  have e6 : P ++ (I1 ++ (x ++ I2) ++ Q) = (P ++ I1 ++ x.take T) ++ ((x.drop T).take d.length ++ (x.drop (T + d.length) ++ I2 ++ Q)) := by
    conv => lhs; rw [e5]
    simp only [List.append_assoc]
  have e7 : (n : Int) = (((P ++ I1 ++ x.take T).length : Nat) : Int) := by
    simp only [List.length_append, lx]; omega
  rw [e3, e4, n1, e6, e7, newL_over _ _ _ _ lm]
  unfold putV
  simp only [List.append_assoc]
theorem Reach.image {r : Rep} (hr : repE r = 0) : ∀ (ws : List Wrt) (im im2 : List (List Sec)) (i : Nat), szOf im = r.sizes → apG ws im i = (im2, 0, 0) → Reach r ws im.flatten im2.flatten
  | [], im, im2, i, hs, h => by
    simp only [apG, Prod.mk.injEq, and_true] at h
    subst h
    exact ⟨by rw [← hs, sum_sz], rfl, fun P Q _ => rfl⟩
  | w :: l, im, im2, i, hs, h => by
    unfold apG at h
    by_cases g : fitE (szOf im) w = 0
    · rw [if_pos g] at h
      have hs2 := putW_szs g
      have ih := Reach.image hr l _ im2 (i + 1) (hs2.trans hs) h
      have hl : ((putW im w).flatten.length : Int) = (im.flatten.length : Int) := by rw [← sum_sz, ← sum_sz, hs2]
      refine ⟨by rw [← hs, sum_sz], by rw [ih.2.1]; omega, fun P Q hP => ?_⟩
      rw [wca_cons, newL_app, newL_write hr hs (by rw [← hs]; exact g) hP]
      exact ih.2.2 P Q hP
    · rw [if_neg g] at h
      simp only [Prod.mk.injEq] at h
      exact absurd h.2.2 g
theorem apG_fits : ∀ (ws : List Wrt) (im im2 : List (List Sec)) (i : Nat) , apG ws im i = (im2, 0, 0) → ∀ w ∈ ws, fitE (szOf im) w = 0
  | [], im, im2, i, _, w, hw => by simp at hw
  | x :: l, im, im2, i, h, w, hw => by
    unfold apG at h
    by_cases g : fitE (szOf im) x = 0
    · rw [if_pos g] at h
      rcases List.mem_cons.1 hw with rfl | hw
      · exact g
      · have := apG_fits l _ im2 (i + 1) h w hw
        rw [putW_szs g] at this; exact this
    · rw [if_neg g] at h
      simp only [Prod.mk.injEq] at h
      exact absurd h.2.2 g
theorem apG_all : ∀ (ws : List Wrt) (im : List (List Sec)) (i : Nat), (∀ w ∈ ws, fitE (szOf im) w = 0) → ∃ im2, apG ws im i = (im2, 0, 0)
  | [], im, i, _ => ⟨im, rfl⟩
  | x :: l, im, i, h => by
    have g := h x (by simp)
    obtain ⟨im2, h2⟩ := apG_all l (putW im x) (i + 1) fun w hw => by rw [putW_szs g]; exact h w (by simp [hw])
    exact ⟨im2, by unfold apG; rw [if_pos g]; exact h2⟩
theorem data_path {r : Rep} {ws : List Wrt} {D D2 P Q : List Sec} (hr : repE r = 0) (hf : ∀ w ∈ ws, fitE r.sizes w = 0) (hR : Reach r ws D D2) (hP : (P.length : Int) = r.data) (hl : (P ++ (D ++ Q)).length ≤ 4096) :
    ru (ws.map (copyO r) ++ [(1, 0, [])]) ⟨P ++ (D ++ Q), []⟩ = some ⟨P ++ (D2 ++ Q), []⟩ ∧ Path (fun e => ∃ D', e = ⟨P ++ (D' ++ Q), []⟩ ∧ Reach r ws D' D2) (ws.map (copyO r) ++ [(1, 0, [])]) ⟨P ++ (D ++ Q), []⟩ := by
  have hst : r.data + sum r.sizes ≤ ((P ++ (D ++ Q)).length : Int) := by
    have := hR.1
    simp only [List.length_append]; omega
  have h0 : dskE ⟨P ++ (D ++ Q), []⟩ = 0 := dskE_len hl rfl
  have h1 := ru_ws hr ws (P ++ (D ++ Q)) [] hf hst
  have h2 : ru (ws.map (copyO r) ++ [(1, 0, [])]) ⟨P ++ (D ++ Q), []⟩ = some ⟨P ++ (D2 ++ Q), []⟩ := by
    rw [ru_app _ _ _ _ h1]
    simp only [ru, List.nil_append, hR.2.2 P Q hP]
    rfl
  refine ⟨h2, fun k hk => ?_⟩
  simp only [List.length_append, List.length_map, List.length_cons, List.length_nil] at hk
  by_cases hlt : k ≤ ws.length
  · have e : (ws.map (copyO r) ++ [((1 : Int), (0 : Int), ([] : List Sec))]).take k = (ws.take k).map (copyO r) := by
      rw [List.take_append_of_le_length (by rw [List.length_map]; exact hlt), List.map_take]
    have h3 := ru_ws hr (ws.take k) (P ++ (D ++ Q)) [] (fun w hw => hf w (List.mem_of_mem_take hw)) hst
    refine ⟨_, by rw [e]; exact h3, fun c => ?_⟩
    have h4 : dskE ⟨P ++ (D ++ Q), [] ++ wca r (ws.take k)⟩ = 0 := (ru_ok _ _ _ 0 h0 h3).2.1
    obtain ⟨st', q1, q2, q3⟩ := crash_mix h4 c
    rw [q1]
    obtain ⟨H, r1, r2, r3⟩ := split_mix (ca := wca r (ws.take k)) q2 (fun c hc => by
      have := wca_in hr _ (fun w hw => hf w (List.mem_of_mem_take hw)) c hc
      have := hR.1
      omega) q3
    refine ⟨H, by rw [r1], hR.part r2 fun n j hn hj => ?_⟩
    rcases r3 j hj with e | e
    · exact .inl e
    · refine .inr ⟨_, wca_take _ _ _ _ e, ?_⟩
      simp only [Int.toNat_natCast]; omega
  · refine ⟨_, by rw [List.take_of_length_le (by simp; omega)]; exact h2, fun c => ?_⟩
    have h5 : dskE ⟨P ++ (D2 ++ Q), []⟩ = 0 := dskE_len hl (by simp [hR.2.1])
    rw [crash_clean h5]
    exact ⟨D2, rfl, hR.self⟩
end Go.Proofs.YtkghiceeegindaaGreatDoor
