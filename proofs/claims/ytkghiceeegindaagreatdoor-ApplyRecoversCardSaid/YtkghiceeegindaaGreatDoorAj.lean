/- Apply: contracts of its functions (Aj). No condition but those named. -/
import Derived.Test.YtkghiceeegindaaGreatDoorAi
namespace Go.Proofs.YtkghiceeegindaaGreatDoor
open Go.Proofs Go.AL
set_option maxRecDepth 100000
set_option linter.unusedVariables false
set_option linter.unusedSimpArgs false
abbrev Pl := Int × Int
def ltP (a b : Pl) : Bool := decide (a.1 < b.1) || (decide (a.1 = b.1) && decide (a.2 < b.2))
theorem ltP_iff {a b : Pl} : ltP a b = true ↔ a.1 < b.1 ∨ (a.1 = b.1 ∧ a.2 < b.2) := by simp [ltP]
abbrev Ef := List (Pl × Sec)
def putP (k : Pl) (x : Sec) : Ef → Ef
  | [] => [(k, x)]
  | (k', y) :: r => if k' = k then (k', x) :: r else (k', y) :: putP k x r
def lookP (k : Pl) : Ef → Option Sec
  | [] => none
  | (k', x) :: r => if k' = k then some x else lookP k r
def putSecs : Ef → Int → Int → List Sec → Ef
  | m, _, _, [] => m
  | m, v, s, x :: l => putSecs (putP (v, s) x m) v (s + 1) l
def effG (m : Ef) (ws : List Wrt) : Ef := ws.foldl (fun m w => putSecs m w.1 w.2.1 w.2.2) m
theorem putSecs_snoc : ∀ (l : List Sec) (m : Ef) (v s : Int) (x : Sec), putSecs m v s (l ++ [x]) = putP (v, s + l.length) x (putSecs m v s l)
  | [], m, v, s, x => by simp [putSecs]
  | y :: l, m, v, s, x => by
    simp only [List.cons_append, putSecs]
    rw [putSecs_snoc l]
    congr 2
    simp only [List.length_cons]; omega
theorem putSecs_succ {l : List Sec} {j : Nat} (m : Ef) (v s : Int) (h : j < l.length) : putSecs m v s (l.take (j + 1)) = putP (v, s + j) (l.getD j zSec) (putSecs m v s (l.take j)) := by
  rw [List.take_succ_eq_append_getElem h, putSecs_snoc]
  simp [h, Nat.min_eq_left (Nat.le_of_lt h)]
theorem effG_succ {ws : List Wrt} {k : Nat} (h : k < ws.length) : effG [] (ws.take (k + 1)) = putSecs (effG [] (ws.take k)) (ws.getD k zWr).1 (ws.getD k zWr).2.1 (ws.getD k zWr).2.2 := by
  rw [List.take_succ_eq_append_getElem h]
  unfold effG
  rw [List.foldl_append]
  simp [h]
theorem putP_mem : ∀ {m : Ef} {k : Pl} {x : Sec} {p : Pl × Sec}, p ∈ putP k x m → p = (k, x) ∨ p ∈ m
  | [], k, x, p, h => by simpa [putP] using h
  | (k', y) :: r, k, x, p, h => by
    unfold putP at h
    split at h
    · rename_i e
      subst e
      rcases List.mem_cons.1 h with rfl | h
      · exact .inl rfl
      · exact .inr (by simp [h])
    · rcases List.mem_cons.1 h with rfl | h
      · exact .inr (by simp)
      · rcases putP_mem h with h | h
        · exact .inl h
        · exact .inr (by simp [h])
theorem putP_keys : ∀ (m : Ef) (k : Pl) (x : Sec), (putP k x m).map (·.1) = if k ∈ m.map (·.1) then m.map (·.1) else m.map (·.1) ++ [k]
  | [], k, x => by simp [putP]
  | (k', y) :: r, k, x => by
    unfold putP
    by_cases e : k' = k
    · subst e; simp
    · rw [if_neg e, List.map_cons, putP_keys r k x]
      by_cases h : k ∈ r.map (·.1)
      · rw [if_pos h, if_pos (by simp only [List.map_cons, List.mem_cons]; exact .inr h)]; rfl
      · rw [if_neg h, if_neg (by simp only [List.map_cons, List.mem_cons, not_or]; exact ⟨fun q => e q.symm, h⟩)]; rfl
theorem putP_len : ∀ (m : Ef) (k : Pl) (x : Sec), (putP k x m).length ≤ m.length + 1
  | [], k, x => by simp [putP]
  | (k', y) :: r, k, x => by
    unfold putP
    split
    · simp
    · have := putP_len r k x
      simp only [List.length_cons]; omega
structure EfOK (V : Pl → Prop) (m : Ef) : Prop where
  nd : (m.map (·.1)).Nodup
  ok : ∀ p ∈ m, V p.1 ∧ SecOK p.2
theorem EfOK.nil {V : Pl → Prop} : EfOK V [] := ⟨List.nodup_nil, fun p h => by simp at h⟩
theorem EfOK.put {V : Pl → Prop} {m : Ef} (h : EfOK V m) {k : Pl} {x : Sec} (hk : V k) (hx : SecOK x) : EfOK V (putP k x m) := by
  refine ⟨?_, fun p hp => ?_⟩
  · rw [putP_keys]
    split
    · exact h.nd
    · rename_i hn
      refine List.nodup_append.2 ⟨h.nd, by simp, fun a ha b hb => ?_⟩
      simp at hb; subst hb
      exact fun e => hn (e ▸ ha)
  · rcases putP_mem hp with rfl | hp
    · exact ⟨hk, hx⟩
    · exact h.ok p hp
theorem EfOK.secs {V : Pl → Prop} : ∀ {l : List Sec} {m : Ef} {v s : Int}, EfOK V m → (∀ j : Nat, j < l.length → V (v, s + j)) → (∀ x ∈ l, SecOK x) → EfOK V (putSecs m v s l)
  | [], m, v, s, h, _, _ => h
  | x :: l, m, v, s, h, hv, hx => by
    show EfOK V (putSecs (putP (v, s) x m) v (s + 1) l)
    refine EfOK.secs (l := l) (h.put (by have := hv 0 (by simp); simpa using this) (hx x (by simp))) (fun j hj => ?_) fun y hy => hx y (by simp [hy])
    have := hv (j + 1) (by simp; omega)
    rwa [show s + ((j + 1 : Nat) : Int) = s + 1 + j by omega] at this
theorem putSecs_len : ∀ (l : List Sec) (m : Ef) (v s : Int), (putSecs m v s l).length ≤ m.length + l.length
  | [], m, v, s => by simp [putSecs]
  | x :: l, m, v, s => by
    have := putSecs_len l (putP (v, s) x m) v (s + 1)
    have := putP_len m (v, s) x
    simp only [putSecs, List.length_cons]; omega
def WrOK (V : Pl → Prop) (w : Wrt) : Prop := (∀ j : Nat, j < w.2.2.length → V (w.1, w.2.1 + j)) ∧ ∀ x ∈ w.2.2, SecOK x
theorem EfOK.eff {V : Pl → Prop} : ∀ {ws : List Wrt} {m : Ef}, EfOK V m → (∀ w ∈ ws, WrOK V w) → EfOK V (effG m ws)
  | [], m, h, _ => h
  | w :: l, m, h, hw => EfOK.eff (ws := l) (h.secs (hw w (by simp)).1 (hw w (by simp)).2) fun x hx => hw x (by simp [hx])
theorem effG_len : ∀ (ws : List Wrt) (m : Ef) (n : Nat), (∀ w ∈ ws, w.2.2.length ≤ n) → (effG m ws).length ≤ m.length + ws.length * n
  | [], m, n, _ => by simp [effG]
  | w :: l, m, n, h => by
    have h1 := effG_len l (putSecs m w.1 w.2.1 w.2.2) n fun x hx => h x (by simp [hx])
    have h2 := putSecs_len w.2.2 m w.1 w.2.1
    have h3 := h w (by simp)
    have e : effG m (w :: l) = effG (putSecs m w.1 w.2.1 w.2.2) l := rfl
    rw [e, List.length_cons, Nat.add_mul, Nat.one_mul]; omega
theorem look_mem : ∀ {m : Ef} {k : Pl}, k ∈ m.map (·.1) → ∃ x, lookP k m = some x ∧ (k, x) ∈ m
  | [], k, h => by simp at h
  | (k', y) :: r, k, h => by
    unfold lookP
    by_cases e : k' = k
    · rw [if_pos e]; subst e; exact ⟨y, rfl, by simp⟩
    · rw [if_neg e]
      simp only [List.map_cons, List.mem_cons] at h
      obtain ⟨x, h1, h2⟩ := look_mem (h.resolve_left fun q => e q.symm)
      exact ⟨x, h1, by simp [h2]⟩
def valP (m : Ef) (k : Pl) : Sec := (lookP k m).getD zSec
theorem valP_ok {V : Pl → Prop} {m : Ef} (h : EfOK V m) {k : Pl} (hk : k ∈ m.map (·.1)) : SecOK (valP m k) := by
  obtain ⟨x, h1, h2⟩ := look_mem hk
  unfold valP
  rw [h1]
  exact (h.ok _ h2).2
def canG (m : Ef) : List Pl → List Wrt → Wrt → List Wrt
  | [], done, w => done ++ [w]
  | k :: r, done, w => if k = (w.1, w.2.1 + (w.2.2.length : Int)) then canG m r done (w.1, w.2.1, w.2.2 ++ [valP m k]) else canG m r (done ++ [w]) (k.1, k.2, [valP m k])
def canP (m : Ef) : List Pl → List Wrt
  | [] => []
  | k :: r => canG m r [] (k.1, k.2, [valP m k])
theorem cwG_snoc {sz : List Int} : ∀ (l : List Wrt) (p : Option Wrt) (w : Wrt), cwG sz p l = 0 → fitE sz w = 0 → (∀ x, (l.getLast?.or p) = some x → ordB x w = false) → cwG sz p (l ++ [w]) = 0
  | [], p, w, h, hf, ho => by
    simp only [List.nil_append, cwG]
    rw [if_pos hf]
    cases p with
    | none => rfl
    | some x =>
      simp only [ho x rfl, Bool.false_eq_true, if_false]
  | y :: l, p, w, h, hf, ho => by
    simp only [List.cons_append]
    unfold cwG at h ⊢
    by_cases g : fitE sz y = 0
    · rw [if_pos g] at h ⊢
      have ho2 : ∀ x, (l.getLast?.or (some y)) = some x → ordB x w = false := fun x hx => ho x (by
        cases l with
        | nil => simpa using hx
        | cons z l =>
          rw [List.getLast?_eq_some_getLast (by simp)] at hx ⊢
          rw [List.getLast_cons (by simp)]
          exact hx)
      cases p with
      | none => exact cwG_snoc l (some y) w h hf ho2
      | some x =>
        simp only [] at h ⊢
        by_cases g2 : ordB x y = true
        · rw [if_pos g2] at h; exact absurd h (by decide)
        · rw [if_neg g2] at h ⊢; exact cwG_snoc l (some y) w h hf ho2
    · rw [if_neg g] at h; exact absurd h g
theorem cwG_unsnoc {sz : List Int} : ∀ (l : List Wrt) (p : Option Wrt) (w : Wrt), cwG sz p (l ++ [w]) = 0 → cwG sz p l = 0 ∧ fitE sz w = 0 ∧ (∀ x, (l.getLast?.or p) = some x → ordB x w = false)
  | [], p, w, h => by
    simp only [List.nil_append, cwG] at h
    by_cases g : fitE sz w = 0
    · rw [if_pos g] at h
      refine ⟨rfl, g, fun x hx => ?_⟩
      have hx : p = some x := by simpa using hx
      subst hx
      simp only [] at h
      by_cases g2 : ordB x w = true
      · rw [if_pos g2] at h; exact absurd h (by decide)
      · simpa using g2
    · rw [if_neg g] at h; exact absurd h g
  | y :: l, p, w, h => by
    simp only [List.cons_append] at h
    unfold cwG at h ⊢
    by_cases g : fitE sz y = 0
    · rw [if_pos g] at h ⊢
      have key : cwG sz (some y) (l ++ [w]) = 0 := by
        cases p with
        | none => exact h
        | some x =>
          simp only [] at h
          by_cases g2 : ordB x y = true
          · rw [if_pos g2] at h; exact absurd h (by decide)
          · rw [if_neg g2] at h; exact h
      obtain ⟨h1, h2, h3⟩ := cwG_unsnoc l (some y) w key
      refine ⟨?_, h2, fun x hx => h3 x ?_⟩
      · cases p with
        | none => exact h1
        | some x =>
          simp only [] at h ⊢
          by_cases g2 : ordB x y = true
          · rw [if_pos g2] at h; exact absurd h (by decide)
          · rw [if_neg g2]; exact h1
      · cases l with
        | nil => simpa using hx
        | cons z l =>
          rw [List.getLast?_eq_some_getLast (by simp)] at hx ⊢
          rw [List.getLast_cons (by simp)] at hx
          exact hx
    · rw [if_neg g] at h; exact absurd h g
def InSz (sz : List Int) (k : Pl) : Prop := 0 ≤ k.1 ∧ k.1 < (sz.length : Int) ∧ 0 ≤ k.2 ∧ k.2 < sz.getD k.1.toNat 0
theorem fitE_inv {sz : List Int} {w : Wrt} (h : fitE sz w = 0) : 0 ≤ w.1 ∧ w.1 < (sz.length : Int) ∧ w.2.2.length ≠ 0 ∧ 0 ≤ w.2.1 ∧ w.2.1 + w.2.2.length ≤ sz.getD w.1.toNat 0 := by
  unfold fitE at h
  by_cases g1 : w.1 < 0 ∨ (sz.length : Int) ≤ w.1
  · rw [if_pos g1] at h; exact absurd h (by decide)
  rw [if_neg g1] at h
  by_cases g2 : w.2.2.length = 0
  · rw [if_pos g2] at h; exact absurd h (by decide)
  rw [if_neg g2] at h
  by_cases g3 : w.2.1 < 0 ∨ sz.getD w.1.toNat 0 - w.2.2.length < w.2.1
  · rw [if_pos g3] at h; exact absurd h (by decide)
  omega
theorem fitE_mk {sz : List Int} {w : Wrt} (h1 : 0 ≤ w.1) (h2 : w.1 < (sz.length : Int)) (h3 : w.2.2.length ≠ 0) (h4 : 0 ≤ w.2.1) (h5 : w.2.1 + w.2.2.length ≤ sz.getD w.1.toNat 0) : fitE sz w = 0 := by
  unfold fitE
  rw [if_neg (by omega), if_neg h3, if_neg (by omega)]
theorem canG_ok {sz : List Int} (m : Ef) : ∀ (r : List Pl) (done : List Wrt) (w : Wrt), cwG sz none (done ++ [w]) = 0 → (∀ k ∈ r, InSz sz k) → r.Pairwise (fun a b => ltP a b = true) → (∀ k ∈ r, ltP (w.1, w.2.1 + (w.2.2.length : Int) - 1) k = true) → cwG sz none (canG m r done w) = 0
  | [], done, w, h, _, _, _ => h
  | k :: r, done, w, h, hv, hp, hl => by
    obtain ⟨h1, h2, h3⟩ := cwG_unsnoc _ _ _ h
    obtain ⟨f1, f2, f3, f4, f5⟩ := fitE_inv h2
    obtain ⟨v1, v2, v3, v4⟩ := hv k (by simp)
    have hk := ltP_iff.1 (hl k (by simp))
    simp only [] at hk
    have hr := (List.pairwise_cons.1 hp).2
    have hkr := (List.pairwise_cons.1 hp).1
    unfold canG
    by_cases g : k = (w.1, w.2.1 + (w.2.2.length : Int))
    · rw [if_pos g]
      rw [g] at v1 v2 v3 v4
      simp only [] at v1 v2 v3 v4
      refine canG_ok m r done _ (cwG_snoc _ _ _ h1 (fitE_mk f1 f2 (by simp) f4 (by simp only [List.length_append, List.length_cons, List.length_nil]; omega)) fun x hx => ?_) (fun q hq => hv q (by simp [hq])) hr fun q hq => ?_
      · exact h3 x hx
      · have := hkr q hq
        rw [g] at this
        simp only [List.length_append, List.length_cons, List.length_nil]
        rw [ltP_iff] at this ⊢
        simp only [] at this ⊢
        omega
    · rw [if_neg g]
      have g' : ¬(k.1 = w.1 ∧ k.2 = w.2.1 + (w.2.2.length : Int)) := fun q => g (Prod.ext q.1 q.2)
      refine canG_ok m r (done ++ [w]) _ (cwG_snoc _ _ _ h (fitE_mk v1 v2 (by simp) v3 (by simp only [List.length_cons, List.length_nil]; omega)) fun x hx => ?_) (fun q hq => hv q (by simp [hq])) hr fun q hq => ?_
      · have hx : w = x := by simpa using hx
        subst hx
        unfold ordB
        rw [Bool.or_eq_false_iff, Bool.and_eq_false_iff]
        simp only [decide_eq_false_iff_not]
        omega
      · have := hkr q hq
        rw [ltP_iff] at this ⊢
        simp only [List.length_cons, List.length_nil] at this ⊢
        omega
theorem canP_ok {sz : List Int} (m : Ef) (ks : List Pl) (hv : ∀ k ∈ ks, InSz sz k) (hp : ks.Pairwise (fun a b => ltP a b = true)) : cwG sz none (canP m ks) = 0 := by
  cases ks with
  | nil => rfl
  | cons k r =>
    obtain ⟨v1, v2, v3, v4⟩ := hv k (by simp)
    refine canG_ok m r [] _ (cwG_snoc [] none _ rfl (fitE_mk v1 v2 (by simp) v3 (by simp only [List.length_cons, List.length_nil]; omega)) fun x hx => by simp at hx) (fun q hq => hv q (by simp [hq])) (List.pairwise_cons.1 hp).2 fun q hq => ?_
    have := (List.pairwise_cons.1 hp).1 q hq
    rw [ltP_iff] at this ⊢
    simp only [List.length_cons, List.length_nil] at this ⊢
    omega
theorem canG_mem {V : Pl → Prop} {m : Ef} (hm : EfOK V m) : ∀ (r : List Pl) (done : List Wrt) (w : Wrt), (∀ k ∈ r, k ∈ m.map (·.1)) → (∀ x ∈ done ++ [w], ∀ s ∈ x.2.2, SecOK s) → ∀ x ∈ canG m r done w, ∀ s ∈ x.2.2, SecOK s
  | [], done, w, _, h => h
  | k :: r, done, w, hk, h => by
    have hv := valP_ok hm (hk k (by simp))
    unfold canG
    split
    · refine canG_mem hm r _ _ (fun q hq => hk q (by simp [hq])) fun x hx s hs => ?_
      rcases List.mem_append.1 hx with hx | hx
      · exact h x (by simp [hx]) s hs
      · simp at hx; subst hx
        rcases List.mem_append.1 hs with hs | hs
        · exact h w (by simp) s hs
        · simp at hs; subst hs; exact hv
    · refine canG_mem hm r _ _ (fun q hq => hk q (by simp [hq])) fun x hx s hs => ?_
      rcases List.mem_append.1 hx with hx | hx
      · exact h x hx s hs
      · simp at hx; subst hx
        simp at hs; subst hs; exact hv
theorem canP_mem {V : Pl → Prop} {m : Ef} (hm : EfOK V m) {ks : List Pl} (hk : ∀ k ∈ ks, k ∈ m.map (·.1)) : ∀ x ∈ canP m ks, ∀ s ∈ x.2.2, SecOK s := by
  cases ks with
  | nil => intro x hx; simp [canP] at hx
  | cons k r =>
    refine canG_mem hm r [] _ (fun q hq => hk q (by simp [hq])) fun x hx s hs => ?_
    simp at hx; subst hx
    simp at hs; subst hs
    exact valP_ok hm (hk k (by simp))
theorem cwG_len {sz : List Int} (hz : ∀ x ∈ sz, 1 ≤ x ∧ x ≤ 4096) : ∀ (l : List Wrt) (x : Wrt), fitE sz x = 0 → cwG sz (some x) l = 0 → sum (sz.take x.1.toNat) + x.2.1 + 1 + l.length ≤ sum sz
  | [], x, hf, _ => by
    obtain ⟨f1, f2, f3, f4, f5⟩ := fitE_inv hf
    have := sum_take hz (show x.1.toNat < sz.length by omega)
    simp only [List.length_nil]; omega
  | w :: l, x, hf, h => by
    obtain ⟨f1, f2, f3, f4, f5⟩ := fitE_inv hf
    unfold cwG at h
    by_cases g : fitE sz w = 0
    · rw [if_pos g] at h
      simp only [] at h
      by_cases g2 : ordB x w = true
      · rw [if_pos g2] at h; exact absurd h (by decide)
      rw [if_neg g2] at h
      have ih := cwG_len hz l w g h
      obtain ⟨e1, e2, e3, e4, e5⟩ := fitE_inv g
      have g3 : ordB x w = false := by simpa using g2
      unfold ordB at g3
      rw [Bool.or_eq_false_iff, Bool.and_eq_false_iff] at g3
      simp only [decide_eq_false_iff_not] at g3
      by_cases hv : w.1 = x.1
      · rw [hv] at ih
        simp only [List.length_cons]; omega
      · have hlt : x.1.toNat + 1 ≤ w.1.toNat := by omega
        have hs : sum (sz.take x.1.toNat) + sz.getD x.1.toNat 0 ≤ sum (sz.take w.1.toNat) := by
          have e : sz.take x.1.toNat = (sz.take w.1.toNat).take x.1.toNat := by rw [List.take_take, Nat.min_eq_left (by omega)]
          have e2 : sz.getD x.1.toNat 0 = (sz.take w.1.toNat).getD x.1.toNat 0 := by
            rw [List.getD_eq_getElem?_getD, List.getD_eq_getElem?_getD, List.getElem?_take_of_lt (by omega)]
          rw [e, e2]
          exact (sum_take (l := sz.take w.1.toNat) (fun y hy => hz y (List.mem_of_mem_take hy)) (by rw [List.length_take]; omega)).2.1
        simp only [List.length_cons]; omega
    · rw [if_neg g] at h; exact absurd h g
theorem cw_len {sz : List Int} (hz : ∀ x ∈ sz, 1 ≤ x ∧ x ≤ 4096) (l : List Wrt) (h : cwG sz none l = 0) : (l.length : Int) ≤ sum sz := by
  cases l with
  | nil => simpa using sum_nonneg fun x hx => (hz x hx).1
  | cons w l =>
    unfold cwG at h
    by_cases g : fitE sz w = 0
    · rw [if_pos g] at h
      have := cwG_len hz l w g h
      obtain ⟨f1, f2, f3, f4, f5⟩ := fitE_inv g
      have h0 := sum_nonneg (l := sz.take w.1.toNat) fun y hy => (hz y (List.mem_of_mem_take hy)).1
      simp only [List.length_cons]; omega
    · rw [if_neg g] at h; exact absurd h g
end Go.Proofs.YtkghiceeegindaaGreatDoor
