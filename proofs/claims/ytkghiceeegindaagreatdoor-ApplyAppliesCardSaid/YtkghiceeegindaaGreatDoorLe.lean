/- A layer over the walks, fifth part: rules that find their own side conditions. No condition. -/
import Derived.Test.YtkghiceeegindaaGreatDoorLc
/- A layer over the walks: execution by reckoning: whole codes, where nothing is open. -/
namespace Go.AL
set_option linter.unusedVariables false
set_option linter.unusedSimpArgs false

/-- A function that is walked from no blocks at all; what it answers may lead to blocks as deep as k. -/
theorem pcallD (k : Nat) {P : Program} {n : FuncId} {fn : Func} {c : Code} {args : List AV} {Q : AV → Prop} (hf : P.funcs[n]? = some fn) (hb : fn.body = some c) (hnm : (fn.name == "runtime.NumGoroutine") = false) (hlen : args.length ≤ fn.ntmps)
    (h : AW P c ⟨envOf 0 args, ⟨0, tabG []⟩, fn.ntmps⟩ (hold (endA P fn.results.toList (hold (fun a H' => NoId (expoD H'.get k a) ∧ Q (expoD H'.get k a)) ⟨⟩)) ⟨⟩)) : PCall P n args Q := by
  have hA := acall hf hb hnm hlen h
  refine ⟨hA.1, fun L W vs hL hr => ?_⟩
  have hRH : RH (Env0 L) W ⟨0, tabG []⟩ := ⟨fun id h => h.elim, hL, fun id h => h.elim, fun id b h => by cases h⟩
  refine (hA.2 (Env0 L) W vs hRH hr).mono fun e W' ⟨v, he, E', r, H', hv, hH, hrv, hno, hq⟩ => ?_
  refine ⟨v, he, expoD H'.get k r, fun b => if b < W.heap.size then L b else max (E'.L b) (match W'.heap[b]? with | some (.cells cur _ _) => cur.size | _ => 0), ⟨hv.os, hv.tape, hv.output, hv.size, fun k hk => hv.foreign k hk fun id h => h.elim⟩, fun b hb' => ?_, fun b hb' => ?_, ?_, hno, hq⟩
  · simp [hb']
  · have h1 : ¬ b < W.heap.size := by have := hv.size; omega
    simp [h1, hH.core.lim b hb', Array.getElem?_eq_none hb']
  · refine expoD_ok hH.core (fun b => ?_) (fun id hU cur e f hc => ?_) k hrv hno
    · by_cases hb' : b < W.heap.size
      · rw [hv.still b hb' fun id h => h.elim]
        simp [hb', Env0]
      · simp [hb']; omega
    · have h1 : ¬ E'.ι id < W.heap.size := by
        rcases hv.fresh id (fun h => h) hU with h2 | ⟨id0, h2, _⟩
        · omega
        · exact h2.elim
      simp [h1, hc]; omega

/-- The same, where nothing that it answers lies in old memory. -/
theorem fcallD (k : Nat) {P : Program} {n : FuncId} {fn : Func} {c : Code} {args : List AV} {r : AV} (hf : P.funcs[n]? = some fn) (hb : fn.body = some c) (hnm : (fn.name == "runtime.NumGoroutine") = false) (hlen : args.length ≤ fn.ntmps)
    (h : AW P c ⟨envOf 0 args, ⟨0, tabG []⟩, fn.ntmps⟩ (hold (endA P fn.results.toList (hold (fun a H' => NoId (expoD H'.get k a) ∧ fresh H'.get k a = true ∧ expoD H'.get k a = r) ⟨⟩)) ⟨⟩)) : FCall P n args r := by
  have hA := acall hf hb hnm hlen h
  refine ⟨hA.1, fun L W vs hL hr => ?_⟩
  have hRH : RH (Env0 L) W ⟨0, tabG []⟩ := ⟨fun id h => h.elim, hL, fun id h => h.elim, fun id b h => by cases h⟩
  refine (hA.2 (Env0 L) W vs hRH hr).mono fun e W' ⟨v, he, E', a, H', hv, hH, hrv, hno, hfr, hq⟩ => ?_
  subst hq
  refine ⟨v, he, fun b => if b < W.heap.size then 0 else (match W'.heap[b]? with | some (.cells cur _ _) => cur.size | _ => 0), ⟨hv.os, hv.tape, hv.output, hv.size, fun k hk => hv.foreign k hk fun id h => h.elim⟩, fun b hb' => ?_, fun b hb' => ?_, ?_, hno⟩
  · simp [hb']
  · have h1 : ¬ b < W.heap.size := by have := hv.size; omega
    simp [h1, Array.getElem?_eq_none hb']
  · refine expoD_fresh hH.core (fun id hU cur e f hc => ?_) k hrv hfr
    have h1 : ¬ E'.ι id < W.heap.size := by
      rcases hv.fresh id (fun h => h) hU with h2 | ⟨id0, h2, _⟩
      · omega
      · exact h2.elim
    simp [h1, hc]

theorem nbF {a b : Nat} (h : ¬ a = b) : Nat.beq a b = false := by
  cases hb : Nat.beq a b
  · rfl
  · exact absurd (Nat.eq_of_beq_eq_true hb) h
theorem nbT {a b : Nat} (h : a = b) : Nat.beq a b = true := by subst h; exact Nat.beq_refl a
set_option linter.constructorNameAsVariable false
/-- Things in a tree, by the digits of their names. -/
inductive Tr (α : Type) where
  | e
  | n (l : Tr α) (v : Option α) (r : Tr α)
section
variable {α : Type}
def Tr.l : Tr α → Tr α
  | .e => .e
  | .n l _ _ => l
def Tr.v : Tr α → Option α
  | .e => none
  | .n _ v _ => v
def Tr.r : Tr α → Tr α
  | .e => .e
  | .n _ _ r => r
noncomputable def Tr.at (t : Tr α) : Nat → Option α :=
  Tr.rec (fun _ => none) (fun _ v _ il ir k => cond (Nat.beq k 0) v (cond (Nat.beq (Nat.mod k 2) 1) (il (Nat.div k 2)) (ir (Nat.sub (Nat.div k 2) 1)))) t
noncomputable def Tr.putF (f : Nat) : Tr α → Nat → Option α → Tr α :=
  Nat.rec (fun t _ _ => t) (fun _ ih t k b => cond (Nat.beq k 0) (.n t.l b t.r) (cond (Nat.beq (Nat.mod k 2) 1) (.n (ih t.l (Nat.div k 2) b) t.v t.r) (.n t.l t.v (ih t.r (Nat.sub (Nat.div k 2) 1) b)))) f
noncomputable def Tr.put (t : Tr α) (k : Nat) (b : Option α) : Tr α := Tr.putF (k + 1) t k b
theorem Tr.at_eq (t : Tr α) (k : Nat) : t.at k = if k = 0 then t.v else if k % 2 = 1 then t.l.at (k / 2) else t.r.at (k / 2 - 1) := by
  cases t with
  | e => simp [Tr.at, Tr.v, Tr.l, Tr.r]
  | n l v r =>
    show cond (Nat.beq k 0) v (cond (Nat.beq (k % 2) 1) (l.at (k / 2)) (r.at (k / 2 - 1))) = _
    simp only [Tr.v, Tr.l, Tr.r]
    by_cases h0 : k = 0
    · subst h0; rfl
    · rw [nbF h0, if_neg h0]
      by_cases h2 : k % 2 = 1
      · rw [nbT h2, if_pos h2]; rfl
      · rw [nbF h2, if_neg h2]; rfl
theorem Tr.putF_succ (f : Nat) (t : Tr α) (k : Nat) (b : Option α) : Tr.putF (f + 1) t k b = cond (Nat.beq k 0) (.n t.l b t.r) (cond (Nat.beq (k % 2) 1) (.n (Tr.putF f t.l (k / 2) b) t.v t.r) (.n t.l t.v (Tr.putF f t.r (k / 2 - 1) b))) := rfl
theorem Tr.at_putF : ∀ (f : Nat) (t : Tr α) (k j : Nat) (b : Option α), k < f → (Tr.putF f t k b).at j = if j = k then b else t.at j
  | 0, t, k, j, b, h => by omega
  | f + 1, t, k, j, b, h => by
    rw [Tr.at_eq t j, Tr.putF_succ]
    by_cases h0 : k = 0
    · subst h0
      rw [nbT rfl, Tr.at_eq]
      simp only [cond, Tr.v, Tr.l, Tr.r]
      by_cases hj : j = 0
      · simp [hj]
      · simp only [hj, if_false]
    · by_cases h2 : k % 2 = 1
      · rw [nbF h0, nbT h2, Tr.at_eq]
        simp only [cond, Tr.v, Tr.l, Tr.r]
        by_cases hj : j = 0
        · simp [hj, Ne.symm h0]
        · simp only [hj, if_false]
          by_cases hj2 : j % 2 = 1
          · simp only [hj2, if_true]
            rw [Tr.at_putF f _ _ _ _ (by omega)]
            by_cases hjk : j = k
            · subst hjk; simp
            · have : ¬ j / 2 = k / 2 := by omega
              simp [hjk, this]
          · have : ¬ j = k := by intro h; subst h; exact hj2 h2
            simp [hj2, this]
      · rw [nbF h0, nbF h2, Tr.at_eq]
        simp only [cond, Tr.v, Tr.l, Tr.r]
        by_cases hj : j = 0
        · simp [hj, Ne.symm h0]
        · simp only [hj, if_false]
          by_cases hj2 : j % 2 = 1
          · have : ¬ j = k := by intro h; subst h; exact h2 hj2
            simp [hj2, this]
          · simp only [hj2, if_false]
            rw [Tr.at_putF f _ _ _ _ (by omega)]
            by_cases hjk : j = k
            · subst hjk; simp
            · have : ¬ j / 2 - 1 = k / 2 - 1 := by omega
              simp [hjk, this]
theorem Tr.at_put (t : Tr α) (k j : Nat) (b : Option α) : (t.put k b).at j = if j = k then b else t.at j := Tr.at_putF (k + 1) t k j b (Nat.lt_succ_self k)
end
noncomputable def tabT (t : Tr Blk) : Nat → Option Blk := t.at
theorem tabT_put (t : Tr Blk) (i : Nat) (b : Option Blk) : (fun k => if k = i then b else tabT t k) = tabT (t.put i b) := by
  funext k
  exact (Tr.at_put t i k b).symm

abbrev HL := Tr Blk × Nat
noncomputable def HL.to (h : HL) : Heap := ⟨h.2, tabT h.1⟩
noncomputable def puts : Tr Blk → List (Nat × Option Blk) → Tr Blk
  | l, [] => l
  | l, (i, b) :: r => puts (l.put i b) r
theorem upd_puts : ∀ (wr : List (Nat × Option Blk)) (l : Tr Blk), upd (tabT l) wr = tabT (puts l wr)
  | [], l => rfl
  | (i, b) :: r, l => by
    show upd (fun k => if k = i then b else tabT l k) r = _
    rw [tabT_put, upd_puts r]; rfl

/-- The slots as a tree, and back. -/
noncomputable def ofL : List (Nat × Bool × AV) → Tr (Bool × AV)
  | [] => .e
  | (t, a) :: r => (ofL r).put t (some a)
theorem ofL_at : ∀ (l : List (Nat × Bool × AV)) (t : Nat), (ofL l).at t = lk l t
  | [], t => rfl
  | (i, a) :: r, t => by
    simp only [ofL, Tr.at_put, lk, ofL_at r]
noncomputable def toLN (e : Tr (Bool × AV)) : Nat → List (Nat × Bool × AV)
  | 0 => []
  | n + 1 => match e.at n with
    | some a => (n, a) :: toLN e n
    | none => toLN e n
theorem toLN_lk (e : Tr (Bool × AV)) : ∀ (n t : Nat) (a : Bool × AV), lk (toLN e n) t = some a → e.at t = some a
  | 0, t, a, h => by simp [toLN, lk] at h
  | n + 1, t, a, h => by
    simp only [toLN] at h
    split at h
    · rename_i b hb
      simp only [lk] at h
      split at h
      · rename_i ht; subst ht; rw [hb, h]
      · exact toLN_lk e n t a h
    · exact toLN_lk e n t a h

/-! Values are reckoned at once. -/
def fNat {α : Type} (n : Nat) (k : Nat → α) : α :=
  match n with
  | 0 => k 0
  | m + 1 => k (m + 1)
theorem fNat_eq {α : Type} (n : Nat) (k : Nat → α) : fNat n k = k n := by cases n <;> rfl
def fInt {α : Type} (n : Int) (k : Int → α) : α :=
  match n with
  | .ofNat m => fNat m fun m => k (.ofNat m)
  | .negSucc m => fNat m fun m => k (.negSucc m)
theorem fInt_eq {α : Type} (n : Int) (k : Int → α) : fInt n k = k n := by cases n <;> simp [fInt, fNat_eq]
def fVal {α : Type} (v : Value) (k : Value → α) : α :=
  match v with
  | .int kd n => fInt n fun n => k (.int kd n)
  | .bool b => cond b (k (.bool true)) (k (.bool false))
  | v => k v
theorem fVal_eq {α : Type} (v : Value) (k : Value → α) : fVal v k = k v := by
  unfold fVal
  split
  · rw [fInt_eq]
  · rename_i b; cases b <;> rfl
  · rfl
mutual
def fAV {α : Type} : AV → (AV → α) → α
  | .c v, k => fVal v fun v => k (.c v)
  | .agg xs, k => fAVs xs fun xs => k (.agg xs)
  | .tup xs, k => fAVs xs fun xs => k (.tup xs)
  | .own id off len, k => fNat id fun id => fNat off fun off => fNat len fun len => k (.own id off len)
  | .ptr id off len, k => fNat id fun id => fNat off fun off => fNat len fun len => k (.ptr id off len)
  | .sub id i o n, k => fNat id fun id => fNat i fun i => fNat o fun o => fNat n fun n => k (.sub id i o n)
  | .fn f xs ys, k => fAVs xs fun xs => fAVs ys fun ys => k (.fn f xs ys)
  | a, k => k a
def fAVs {α : Type} : List AV → (List AV → α) → α
  | [], k => k []
  | x :: r, k => fAV x fun x => fAVs r fun r => k (x :: r)
end
mutual
theorem fAV_eq {α : Type} : ∀ (a : AV) (k : AV → α), fAV a k = k a
  | .c v, k => by simp only [fAV, fVal_eq]
  | .agg xs, k => by simp only [fAV]; rw [fAVs_eq]
  | .tup xs, k => by simp only [fAV]; rw [fAVs_eq]
  | .own id off len, k => by simp only [fAV, fNat_eq]
  | .ptr id off len, k => by simp only [fAV, fNat_eq]
  | .sub id i o n, k => by simp only [fAV, fNat_eq]
  | .fn f xs ys, k => by simp only [fAV]; rw [fAVs_eq, fAVs_eq]
  | .snap _, k => by simp only [fAV]
  | .sptr _ _ _, k => by simp only [fAV]
  | .omap _, k => by simp only [fAV]
  | .yld _, k => by simp only [fAV]
theorem fAVs_eq {α : Type} : ∀ (xs : List AV) (k : List AV → α), fAVs xs k = k xs
  | [], k => by simp only [fAVs]
  | x :: r, k => by simp only [fAVs]; rw [fAV_eq, fAVs_eq]
end
def fRows {α : Type} : List (List AV) → (List (List AV) → α) → α
  | [], k => k []
  | x :: r, k => fAVs x fun x => fRows r fun r => k (x :: r)
theorem fRows_eq {α : Type} : ∀ (xs : List (List AV)) (k : List (List AV) → α), fRows xs k = k xs
  | [], k => rfl
  | x :: r, k => by simp only [fRows, fAVs_eq]; rw [fRows_eq r]
def fWr {α : Type} : List (Nat × Option Blk) → (List (Nat × Option Blk) → α) → α
  | [], k => k []
  | (i, some (.cells e s rows w a)) :: r, k => fNat i fun i => fRows rows fun rows => fWr r fun r => k ((i, some (.cells e s rows w a)) :: r)
  | (i, b) :: r, k => fNat i fun i => fWr r fun r => k ((i, b) :: r)
theorem fWr_eq {α : Type} : ∀ (wr : List (Nat × Option Blk)) (k : List (Nat × Option Blk) → α), fWr wr k = k wr
  | [], k => by simp only [fWr]
  | (i, some (.cells e s rows w a)) :: r, k => by simp only [fWr, fNat_eq, fRows_eq]; rw [fWr_eq r]
  | (i, some (.map es)) :: r, k => by simp only [fWr, fNat_eq]; rw [fWr_eq r]
  | (i, some (.rcd ..)) :: r, k => by simp only [fWr, fNat_eq]; rw [fWr_eq r]
  | (i, none) :: r, k => by simp only [fWr, fNat_eq]; rw [fWr_eq r]

/-- A state. -/
structure XS where
  env : Tr (Bool × AV)
  l : Tr Blk
  next : Nat
  nt : Nat
/-- It says what σ says. -/
structure Is (s : XS) (σ : AS) : Prop where
  env : ∀ t, lk σ.env t = s.env.at t
  next : σ.H.next = s.next
  get : σ.H.get = tabT s.l
  nt : σ.nt = s.nt
noncomputable def XS.get (s : XS) (c : Bool) : Operand → Option AV
  | .tmp t => match s.env.at t with
    | some (c', a) => cond (impB c c') (some a) none
    | none => none
  | .const v => ofV v
  | .global g => some (.c (.pointer (some ⟨g, 0, none⟩)))
  | .func f => some (.fn (.func f) [] [])
theorem Is.getE {s : XS} {σ : AS} (h : Is s σ) (c : Bool) : s.get c = σ.get c := by
  funext x
  cases x with
  | tmp t =>
    simp only [XS.get, AS.get, h.env]
    cases h : s.env.at t with
    | none => rfl
    | some p =>
      obtain ⟨c', a⟩ := p
      simp only []
      cases hc : impB c c' <;> rfl
  | _ => rfl
noncomputable def XS.put (s : XS) (dst : Option Tmp) (c : Bool) (a : AV) : XS :=
  match dst with
  | none => s
  | some d => { s with env := s.env.put d (some (c, a)) }
theorem Is.put {s : XS} {σ : AS} (h : Is s σ) {dst : Option Tmp} {c : Bool} {a : AV} : Is (s.put dst c a) (σ.put dst c a) := by
  cases dst with
  | none => exact h
  | some d => exact ⟨fun t => by simp only [AS.put, XS.put, lk, Tr.at_put, h.env], h.next, h.get, h.nt⟩
theorem Is.heap {s : XS} {σ : AS} (h : Is s σ) (l : Tr Blk) (nx : Nat) : Is { s with l := l, next := nx } { σ with H := ⟨nx, tabT l⟩ } := ⟨h.env, rfl, rfl, h.nt⟩
noncomputable def XS.app (s : XS) (wr : List (Nat × Option Blk)) : XS := { s with l := puts s.l wr, next := match wr with | [] => s.next | _ => s.next + 1 }
theorem Is.app {s : XS} {σ : AS} (h : Is s σ) {wr : List (Nat × Option Blk)} : Is (s.app wr) ({ σ with H := σ.H.app wr } : AS) :=
  ⟨h.env, by cases wr <;> simp [Heap.app, XS.app, h.next], by simp only [Heap.app, XS.app, h.get, upd_puts], h.nt⟩
noncomputable def XS.appE (s : XS) (dst : Option Tmp) (e : Entry) : XS := ({ s with l := puts s.l e.wr } : XS).put dst e.c e.a
theorem Is.appE {s : XS} {σ : AS} (h : Is s σ) {dst : Option Tmp} {e : Entry} : Is (s.appE dst e) (σ.app dst e) := by
  unfold XS.appE AS.app
  exact Is.put (s := { s with l := puts s.l e.wr }) (σ := { σ with H := ⟨σ.H.next, upd σ.H.get e.wr⟩ }) ⟨h.env, h.next, by simp only [h.get, upd_puts], h.nt⟩
theorem Is.H {s : XS} {σ : AS} (h : Is s σ) : σ.H = HL.to (s.l, s.next) := by
  obtain ⟨env, ⟨nx, get⟩, nt⟩ := σ
  have h1 := h.next
  have h2 := h.get
  simp only at h1 h2
  subst h1; subst h2
  rfl
/-- A state is reckoned. -/
def fXS {α : Type} (s : XS) (k : XS → α) : α :=
  match s with
  | ⟨env, l, nx, nt⟩ => fNat nx fun nx => k ⟨env, l, nx, nt⟩
theorem fXS_eq {α : Type} (s : XS) (k : XS → α) : fXS s k = k s := by cases s; simp [fXS, fNat_eq]
noncomputable def XS.gv (s : XS) (ops : List Oper) (j : Nat) : Option (Bool × AV) :=
  match ops[j]? with
  | some o => match o.dst with
    | some t => s.env.at t
    | none => none
  | none => none
theorem Is.gv {s : XS} {σ : AS} (h : Is s σ) (ops : List Oper) (j : Nat) : s.gv ops j = gval ops j σ.env := by
  unfold XS.gv gval
  simp only [h.env]
  cases ops[j]? with
  | none => rfl
  | some o => cases o.dst <;> rfl

noncomputable def xOne (P : Program) (s : XS) : ResultVar → Option AV
  | .tmp t => s.get true (.tmp t)
  | .cell t ty => match s.get true (.tmp t) with
    | some p => match deref (tabT s.l) p with
      | some (row, o, _) => partA P ty row o
      | none => none
    | none => none
noncomputable def xAll (P : Program) (s : XS) : List ResultVar → Option (List AV)
  | [] => some []
  | r :: rs => match xOne P s r, xAll P s rs with
    | some a, some l => some (a :: l)
    | _, _ => none
noncomputable def xOut (P : Program) (s : XS) (rs : List ResultVar) : Option AV :=
  match xAll P s rs with
  | some [a] => some a
  | some l => some (.tup l)
  | none => none
theorem Is.out {P : Program} {s : XS} {σ : AS} (h : Is s σ) (rs : List ResultVar) : xOut P s rs = outA P σ rs := by
  have h1 : ∀ r, xOne P s r = resOne P σ r := fun r => by
    cases r with
    | tmp t => simp only [xOne, resOne, h.getE]
    | cell t ty =>
      simp only [xOne, resOne, h.getE, h.get]
      rfl
  have h2 : ∀ rs, xAll P s rs = resAll P σ rs := fun rs => by
    induction rs with
    | nil => rfl
    | cons r rs ih => simp only [xAll, resAll, h1, ih]; rfl
  unfold xOut outA
  rw [h2]
  rfl

/-- Calls that are known. -/
structure Orc (P : Program) where
  a : FuncId → List AV → HL → Option (AV × HL)
  aok : ∀ {n args h r h'}, a n args h = some (r, h') → ACall P n args h.to fun x H' => x = r ∧ H' = h'.to
  p : FuncId → List AV → Option AV
  pok : ∀ {n args r}, p n args = some r → PCall P n args (· = r)

section
variable (P : Program) (cl : FuncId → List AV → HL → Option (AV × HL)) (yl : Nat → List AV → HL → Option (Bool × HL))

noncomputable def xCall (s : XS) (dst : Option Tmp) : Option AV → Option (List AV) → Option XS
  | some (.fn (.func n) first cap), some as => match cl n (first ++ as ++ cap) (s.l, s.next) with
    | some (r, l, nx) => some (({ s with l := l, next := nx } : XS).put dst true r)
    | none => none
  | some (.yld id), some as => match yl id as (s.l, s.next) with
    | some (b, l, nx) => some (({ s with l := l, next := nx } : XS).put dst true (.c (.bool b)))
    | none => none
  | _, _ => none

noncomputable def xPick (s : XS) (dst : Option Tmp) (x y : Operand) : Option Bool → Option XS
  | some b0 => match pairB (asB (s.get b0 x)) (asB (s.get (!b0) y)) with
    | some (p, q) => some (s.put dst true (.c (.bool (cond b0 p q))))
    | none => match s.get true (cond b0 x y) with
      | some a => some (s.put dst true a)
      | none => none
  | none => none

noncomputable def xRes (s : XS) (dst : Option Tmp) : Option Res → Option XS
  | some (a, wr, _) => fAV a fun a => fWr wr fun wr => fXS (s.app wr) fun s => some (s.put dst true a)
  | none => none

noncomputable def xOpx (o : Oper) (s : XS) : Option XS :=
  match o.op with
  | .call ⟨.value f, as, _⟩ => xCall cl yl s o.dst (s.get true f) (getsA (s.get true) as.toList)
  | .pick b x y => xPick s o.dst x y (asB (s.get true b))
  | _ => xRes s o.dst (res P (s.get true) (tabT s.l) s.next o)

noncomputable def xOp (ops : List Oper) (o : Oper) (s : XS) : Option XS :=
  match o.guard with
  | none => xOpx P cl yl o s
  | some (j, want) => match gcond (s.gv ops j) want with
    | some true => xOpx P cl yl o s
    | some false => some (s.put o.dst false (.c (.bool false)))
    | none => none

noncomputable def xOps (ops : List Oper) : List Oper → XS → Option XS
  | [], s => some s
  | o :: r, s => match xOp P cl yl ops o s with
    | some s' => xOps ops r s'
    | none => none

variable {P cl yl}
def ClOK (P : Program) (cl : FuncId → List AV → HL → Option (AV × HL)) : Prop := ∀ n args h r h', cl n args h = some (r, h') → ACall P n args h.to fun x H' => x = r ∧ H' = h'.to
def YlOK (P : Program) (yl : Nat → List AV → HL → Option (Bool × HL)) : Prop := ∀ id args (h : HL) b h', yl id args h = some (b, h') → ∀ (σ : AS) (K : Bool → Heap → Prop), σ.H = h.to → K b (HL.to h') → YieldX P σ (some (.yld id)) (some args) K

theorem xOpx_ok (hc : ClOK P cl) (hy : YlOK P yl) {o : Oper} {s s' : XS} {σ : AS} (hi : Is s σ) {K : AS → Prop} (h : xOpx P cl yl o s = some s') (hk : ∀ σ', Is s' σ' → K σ') : aopx P o σ K := by
  unfold xOpx at h
  simp only [hi.getE] at h
  unfold aopx
  split at h
  · rename_i f as ts hop
    simp only [hop]
    unfold xCall at h
    split at h
    · rename_i n first cap as' hf has
      split at h
      · rename_i r l nx hcl
        injection h with h
        subst h
        refine .inl ?_
        rw [hf, has]
        simp only [calleeA, bindK_some, hold]
        rw [hi.H]
        exact (hc _ _ _ _ _ hcl).mono fun x H' ⟨h1, h2⟩ => by subst h1; subst h2; exact hk _ (hi.heap l nx).put
      · cases h
    · rename_i id as' hf has
      split at h
      · rename_i b l nx hyl
        injection h with h
        subst h
        refine .inr ?_
        rw [hf, has]
        exact hy _ _ _ _ _ hyl _ _ hi.H (hk _ (hi.heap l nx).put)
      · cases h
    · cases h
  · rename_i b x y hop
    simp only [hop]
    unfold xPick at h
    simp only [hi.getE] at h
    split at h
    · rename_i b0 hb
      rw [hb, bindK_some]
      simp only [hold]
      split at h
      · rename_i p q hpq
        injection h with h
        subst h
        rw [hpq]
        exact hk _ hi.put
      · rename_i hpq
        rw [hpq]
        split at h
        · rename_i a ha
          injection h with h
          subst h
          refine ⟨fun hb => ?_, fun hb => ?_⟩
          · subst hb
            simp only [cond] at ha
            rw [ha]; exact hk _ hi.put
          · subst hb
            simp only [cond] at ha
            rw [ha]; exact hk _ hi.put
        · cases h
    · cases h
  · rename_i hn1 hn2
    unfold xRes at h
    split at h
    · rename_i a wr rd hres
      simp only [fAV_eq, fWr_eq, fXS_eq] at h
      injection h with h
      subst h
      split
      · rename_i f as ts hop; exact absurd hop (hn1 _ _ _)
      · rename_i b x y hop; exact absurd hop (hn2 _ _ _)
      · have : res P (σ.get true) σ.H.get σ.H.next o = some (a, wr, rd) := by rw [hi.get, hi.next]; exact hres
        rw [this]; exact hk _ hi.app.put
    · cases h

theorem xOps_ok (hc : ClOK P cl) (hy : YlOK P yl) {ops : Array Oper} {K : AS → Prop} : ∀ (l : List Oper) {s s' : XS} {σ : AS}, Is s σ → xOps P cl yl ops.toList l s = some s' → (∀ σ', Is s' σ' → K σ') → aops P true ops l σ K
  | [], s, s', σ, hi, h, hk => by simp only [xOps] at h; injection h with h; subst h; exact hk _ hi
  | o :: r, s, s', σ, hi, h, hk => by
    simp only [xOps] at h
    split at h
    · rename_i s1 h1
      have ih : ∀ σ', Is s1 σ' → aops P true ops r σ' K := fun σ' h' => xOps_ok hc hy (K := K) r h' h hk
      show aop P true ops o σ _
      unfold xOp at h1
      unfold aop
      split at h1
      · rename_i hg
        simp only [hg]
        exact xOpx_ok hc hy hi h1 ih
      · rename_i j want hg
        simp only [hg]
        rw [← hi.gv]
        split at h1
        · rename_i hw
          rw [hw, bindK_some]
          simp only [hold]
          exact .inl (.inr ⟨rfl, xOpx_ok hc hy hi h1 ih⟩)
        · rename_i hw
          rw [hw, bindK_some]
          injection h1 with h1
          subst h1
          exact .inl (.inl ⟨rfl, ih _ hi.put⟩)
        · cases h1
    · cases h
end

section
variable (P : Program) (cp cf : FuncId → List AV → Option AV) (co : FuncId → List AV → Option FO)

noncomputable def xCallF (s : XS) (n : FuncId) (args0 : List AV) : Option Entry :=
  if noIdBs (args0.map (expo2 (tabT s.l))) then match cp n (args0.map (expo2 (tabT s.l))) with
    | some a => some ⟨true, a, ((idsAll ids2 args0).filter (fun id => unfz (tabT s.l id))).map (fun id => (id, frzB (tabT s.l id))), idsAll ids2 args0⟩
    | none => none
  else none

noncomputable def xCallO (s : XS) (nid : Nat) (n : FuncId) (args0 args : List AV) (ids : List Nat) : Option Entry :=
  match co n args with
  | some f => fAV (renO nid f.a) fun a => fRows f.rows fun rows => some ⟨true, a, [(nid, some (.cells f.el f.k rows true f.ap))], ids⟩
  | none => match cf n args with
    | some a => some ⟨true, a, [], ids⟩
    | none => xCallF cp s n args0

noncomputable def xCallD (s : XS) (nid : Nat) : Option (FuncId × List AV) → Option Entry
  | some (n, args0) => if noIdBs (args0.map (expoD (tabT s.l) 8)) then xCallO cp cf co s nid n args0 (args0.map (expoD (tabT s.l) 8)) (args0.flatMap (idsD (tabT s.l) 8)) else xCallF cp s n args0
  | none => none

noncomputable def gOf (ops : List Oper) (o : Oper) (s : XS) : Option Bool :=
  match o.guard with
  | none => some true
  | some (j, want) => gcond (s.gv ops j) want
theorem gOf_ok {ops : List Oper} {o : Oper} {s : XS} {σ : AS} (hi : Is s σ) {c : Bool} (h : gOf ops o s = some c) : gOK ops o σ c := by
  unfold gOf at h
  unfold gOK
  split at h
  · rename_i hg; rw [hg]; injection h with h; exact h.symm
  · rename_i j want hg; rw [hg]; rw [hi.gv] at h; exact h

noncomputable def xPickE (s : XS) (x y : Operand) : Option Bool → Option Entry
  | some b => match pairB (asB (s.get b x)) (asB (s.get (!b) y)) with
    | some (p, q) => some ⟨true, .c (.bool (cond b p q)), [], []⟩
    | none => none
  | none => none
noncomputable def xResE : Option Res → Option Entry
  | some (a, wr, rd) => fAV a fun a => fWr wr fun wr => some ⟨true, a, wr, rd⟩
  | none => none
noncomputable def xEnt (ops : List Oper) (i : Nat) (o : Oper) (s : XS) (nid : Nat) : Option Entry :=
  match gOf ops o s with
  | some false => some ⟨false, .c (.bool false), [], []⟩
  | some true => match o.op with
    | .call ⟨.value f, as, _⟩ => if tailB ops i then none else xCallD cp cf co s nid (calleeA (s.get true f) (getsA (s.get true) as.toList))
    | .pick b x y => xPickE s x y (asB (s.get true b))
    | _ => xResE (res P (s.get true) (tabT s.l) nid o)
  | none => none

noncomputable def xD (ops : List Oper) (N0 : Nat) : Nat → List Oper → XS → List Entry × XS × Nat × List Oper
  | i, [], s => ([], s, i, [])
  | i, o :: r, s => match xEnt P cp cf co ops i o s (N0 + i) with
    | some e => match xD ops N0 (i + 1) r (s.appE o.dst e) with
      | (es, q) => (e :: es, q)
    | none => ([], s, i, o :: r)

variable {P cp cf co}
def CoOK (P : Program) (co : FuncId → List AV → Option FO) : Prop := ∀ n args f, co n args = some f → FOCall P n args f.a f.el f.k f.rows f.ap
def CfOK (P : Program) (cf : FuncId → List AV → Option AV) : Prop := ∀ n args r, cf n args = some r → FCall P n args r
def CpOK (P : Program) (cp : FuncId → List AV → Option AV) : Prop := ∀ n args r, cp n args = some r → PCall P n args (· = r)

theorem xEnt_ok (hp : CpOK P cp) (hf' : CfOK P cf) (ho : CoOK P co) {ops : List Oper} {i : Nat} {o : Oper} {s : XS} {σ : AS} (hi : Is s σ) {nid : Nat} {e : Entry} (h : xEnt P cp cf co ops i o s nid = some e) : Ent P ops o σ nid e := by
  unfold xEnt at h
  split at h
  · rename_i hg
    injection h with h
    subst h
    exact .skip (gOf_ok hi hg) rfl rfl
  · rename_i hg0
    have hg := gOf_ok hi hg0
    simp only [hi.getE] at h
    rw [← hi.get] at h
    split at h
    · rename_i f as ts hop
      have hF : ∀ {n args0}, calleeA (σ.get true f) (getsA (σ.get true) as.toList) = some (n, args0) → xCallF cp s n args0 = some e → Ent P ops o σ nid e := fun {n args0} hc h => by
        unfold xCallF at h
        rw [← hi.get] at h
        split at h
        · rename_i hno
          split at h
          · rename_i a ha
            injection h with h
            subst h
            exact .callx f as ts n args0 _ hop hg rfl hc rfl (noIdBs_ok _ hno) (hp _ _ _ ha) (.inr rfl) fun id hid => hid
          · cases h
        · cases h
      split at h
      · cases h
      · unfold xCallD at h
        rw [← hi.get] at h
        split at h
        · rename_i n args0 hc
          split at h
          · rename_i hno
            unfold xCallO at h
            split at h
            · rename_i fo hfo
              rw [fAV_eq, fRows_eq] at h
              injection h with h
              subst h
              exact .rocall f as ts n args0 _ 8 _ _ _ _ _ hop hg rfl hc rfl (noIdBs_ok _ hno) (ho _ _ _ hfo) rfl rfl fun x hx id hid => List.mem_flatMap.2 ⟨x, hx, hid⟩
            · split at h
              · rename_i a ha
                injection h with h
                subst h
                exact .rcall f as ts n args0 _ 8 hop hg rfl hc rfl (noIdBs_ok _ hno) (hf' _ _ _ ha) rfl fun x hx id hid => List.mem_flatMap.2 ⟨x, hx, hid⟩
              · exact hF hc h
          · exact hF hc h
        · cases h
    · rename_i b x y hop
      unfold xPickE at h
      simp only [hi.getE] at h
      split at h
      · rename_i b0 hb
        split at h
        · rename_i p q hpq
          injection h with h
          subst h
          exact .pick b x y b0 p q hop hg hb (by simpa using hpq) rfl rfl
        · cases h
      · cases h
    · unfold xResE at h
      split at h
      · rename_i a wr rd hres
        rw [fAV_eq, fWr_eq] at h
        injection h with h
        subst h
        exact .res hg hres (.inr rfl)
      · cases h
  · cases h

theorem xD_ok (hp : CpOK P cp) (hf' : CfOK P cf) (ho : CoOK P co) {ops : List Oper} {N0 : Nat} : ∀ (l : List Oper) (i : Nat) (s : XS) {σ : AS} {es : List Entry} {s' : XS} {i' : Nat} {r : List Oper}, Is s σ → xD P cp cf co ops N0 i l s = (es, s', i', r) →
    ∃ pre σ', l = pre ++ r ∧ i' = i + pre.length ∧ DRun P ops N0 i pre σ es σ' ∧ Is s' σ'
  | [], i, s, σ, es, s', i', r, hi, h => by
    simp only [xD, Prod.mk.injEq] at h
    obtain ⟨rfl, rfl, rfl, rfl⟩ := h
    exact ⟨[], σ, rfl, rfl, .nil _ _, hi⟩
  | o :: l, i, s, σ, es, s', i', r, hi, h => by
    simp only [xD] at h
    split at h
    · rename_i e he
      cases hq : xD P cp cf co ops N0 (i + 1) l (s.appE o.dst e) with
      | mk es1 q =>
        obtain ⟨s1, i1, r1⟩ := q
        rw [hq] at h
        simp only [Prod.mk.injEq] at h
        obtain ⟨rfl, rfl, rfl, rfl⟩ := h
        obtain ⟨pre, σ', h1, h2, h3, h4⟩ := xD_ok hp hf' ho l (i + 1) _ hi.appE hq
        exact ⟨o :: pre, σ', by rw [h1]; rfl, by simp; omega, .cons i o pre _ e es1 _ (xEnt_ok hp hf' ho hi he) h3, h4⟩
    · simp only [Prod.mk.injEq] at h
      obtain ⟨rfl, rfl, rfl, rfl⟩ := h
      exact ⟨[], σ, rfl, rfl, .nil _ _, hi⟩
end

section
variable (P : Program) (X : Orc P) (e : Code → XS → Option (Exit × XS))

/-- How a call goes on behind its code. -/
noncomputable def xEnd (rs : List ResultVar) : Option (Exit × XS) → Option (AV × XS)
  | some (.normal, s) => match xOut P s rs with
    | some a => some (a, s)
    | none => none
  | some (.ret, s) => match xOut P s rs with
    | some a => some (a, s)
    | none => none
  | _ => none

noncomputable def xEnter (n : FuncId) (args : List AV) (h : HL) : Option (AV × XS) :=
  match P.funcs[n]? with
  | some fn => match fn.body with
    | some c => cond (Nat.ble args.length fn.ntmps) (xEnd P fn.results.toList (e c ⟨ofL (envOf 0 args), h.1, h.2, fn.ntmps⟩)) none
    | none => none
  | none => none

noncomputable def xCl (n : FuncId) (args : List AV) (h : HL) : Option (AV × HL) :=
  match X.a n args h with
  | some r => some r
  | none => match xEnter P e n args h with
    | some (a, s) => some (a, s.l, s.next)
    | none => none

noncomputable def xCp (n : FuncId) (args : List AV) : Option AV :=
  match X.p n args with
  | some r => some r
  | none => match xEnter P e n args (.e, 0) with
    | some (a, s) => if noIdB (expoD (tabT s.l) 8 a) then some (expoD (tabT s.l) 8 a) else none
    | none => none

noncomputable def xCf (n : FuncId) (args : List AV) : Option AV :=
  match X.p n args with
  | some r => if kB r then some r else none
  | none => match xEnter P e n args (.e, 0) with
    | some (a, s) => if fresh (tabT s.l) 8 a && noIdB (expoD (tabT s.l) 8 a) then some (expoD (tabT s.l) 8 a) else none
    | none => none

noncomputable def xCo (n : FuncId) (args : List AV) : Option FO :=
  match X.p n args with
  | some _ => none
  | none => match xEnter P e n args (.e, 0) with
    | some (a, s) => foOf (tabT s.l) 8 a
    | none => none

noncomputable def xYl (id : Nat) (args : List AV) (h : HL) : Option (Bool × HL) :=
  match tabT h.1 id with
  | some (.rcd env nt ps A B .ready none) => if args.length = ps.length ∧ ps.all (fun p => decide (p < nt)) = true then
      match e A ⟨ofL (bindPs ps args env), h.1, h.2, nt⟩ with
      | some (.normal, s1) => match tabT s1.l id with
        | some (.rcd env1 nt1 ps1 A1 B1 .ready none) => match e B ⟨s1.env, Tr.put s1.l id (some (.rcd env1 nt1 ps1 A1 B1 .busy none)), s1.next, s1.nt⟩ with
          | some (.normal, s2) => match tabT s2.l id with
            | some (.rcd env2 nt2 ps2 A2 B2 .busy none) => some (true, Tr.put s2.l id (some (.rcd env2 nt2 ps2 A2 B2 .ready none)), s2.next)
            | _ => none
          | some (.ret, s2) => match tabT s2.l id with
            | some (.rcd env2 nt2 ps2 A2 B2 .busy none) => some (false, Tr.put s2.l id (some (.rcd env2 nt2 ps2 A2 B2 .done (some .ret))), s2.next)
            | _ => none
          | some (.exit i, s2) => match tabT s2.l id with
            | some (.rcd env2 nt2 ps2 A2 B2 .busy none) => some (false, Tr.put s2.l id (some (.rcd env2 nt2 ps2 A2 B2 .done (some (.exit i)))), s2.next)
            | _ => none
          | _ => none
        | _ => none
      | _ => none
    else none
  | _ => none

noncomputable def xLoop (f : XS → Option (Exit × XS)) : Nat → XS → Option (Exit × XS)
  | 0, _ => none
  | n + 1, s => match f s with
    | some (.normal, s') => fXS s' fun s' => xLoop f n s'
    | r => r

noncomputable def xJump (s : XS) : Option Blk → Option (Exit × XS)
  | some (.rcd _ _ _ _ _ .ready none) => some (.normal, s)
  | some (.rcd _ _ _ _ _ .done none) => some (.normal, s)
  | some (.rcd _ _ _ _ _ .done (some .ret)) => some (.ret, s)
  | some (.rcd _ _ _ _ _ .done (some (.exit i))) => some (.exit i, s)
  | _ => none

noncomputable def xRange (g : Option AV) (ps : Array Tmp) (A B : Code) (s : XS) : Option (Exit × XS) :=
  match g with
  | some (.fn (.func n) first cap) => match xEnter P e n (first ++ [.yld s.next] ++ cap) (Tr.put s.l s.next (some (.rcd (toLN s.env s.nt) s.nt ps.toList A B .ready none)), s.next + 1) with
    | some (_, s2) => xJump { s with l := Tr.put s2.l s.next none, next := s2.next } (tabT s2.l s.next)
    | none => none
  | _ => none

noncomputable def xDraw (ops : List Oper) (s : XS) : List Entry × XS × Nat × List Oper → Option (Exit × XS)
  | (es, s', i, r) => if statB ops.toArray && ops.all (dstIn s.nt) && dynGo (tab ops) 0 [] es then match r with
      | [] => some (.normal, s')
      | _ => if tailB ops i then match xOps P (xCl P X e) (xYl e) ops r s' with
        | some s2 => some (.normal, s2)
        | none => none
      else none
    else none

/-- The blocks that are frozen by calls. -/
def frzIds (nx : Nat) (es : List Entry) : List Nat := es.flatMap fun e => e.wr.filterMap fun p => match p.2 with
  | some (.cells _ _ _ false _) => if p.1 < nx then some p.1 else none
  | _ => none
noncomputable def XS.frz (s : XS) (ids : List Nat) : XS := { s with l := puts s.l (ids.map fun id => (id, frzB (tabT s.l id))) }
noncomputable def xRegD (ops : Array Oper) (s : XS) : Option (Exit × XS) := xDraw P X e ops.toList s (xD P (xCp P X e) (xCf P X e) (xCo P X e) ops.toList s.next 0 ops.toList { s with next := s.next + ops.size })
noncomputable def xRegion (ops : Array Oper) (s : XS) : Bool → Option (Exit × XS)
  | false => if ops.toList.all (dstIn s.nt) then match xOps P (xCl P X e) (xYl e) ops.toList ops.toList s with
      | some s' => some (.normal, s')
      | none => none
    else none
  | true => match xRegD P X e ops s with
    | some q => some q
    | none => xRegD P X e ops (s.frz (frzIds s.next (xD P (xCp P X e) (xCf P X e) (xCo P X e) ops.toList s.next 0 ops.toList { s with next := s.next + ops.size }).1))

noncomputable def xSeq (b : Code) : Option (Exit × XS) → Option (Exit × XS)
  | some (.normal, s) => fXS s fun s => e b s
  | r => r
noncomputable def xCond (a b : Code) (s : XS) : Option Bool → Option (Exit × XS)
  | some true => e a s
  | some false => e b s
  | none => none
noncomputable def xScope : Option (Exit × XS) → Option (Exit × XS)
  | some (.goto _, _) => none
  | r => r
noncomputable def xBlock (id : Nat) : Option (Exit × XS) → Option (Exit × XS)
  | some (.exit i, s) => cond (Nat.beq i id) (some (.normal, s)) (some (.exit i, s))
  | r => r
end

noncomputable def exS (P : Program) (X : Orc P) (m : Nat) (e : Code → XS → Option (Exit × XS)) (c : Code) (s : XS) : Option (Exit × XS) :=
  match c with
  | .skip => some (.normal, s)
  | .label _ => some (.normal, s)
  | .scope c => xScope (e c s)
  | .ret => some (.ret, s)
  | .exit id => some (.exit id, s)
  | .seq a b => xSeq e b (e a s)
  | .cond c a b => xCond e a b s (asB (s.get true c))
  | .block id b => xBlock id (e b s)
  | .loop b => xLoop (e b) m s
  | .region _ ops d => xRegion P X e ops s d
  | .rangeFunc g ps A B => xRange P e (s.get true g) ps A B s
  | _ => none
noncomputable def ex (P : Program) (X : Orc P) (m k : Nat) : Code → XS → Option (Exit × XS) := Nat.rec (fun _ _ => none) (fun _ ih => exS P X m ih) k

section
variable {P : Program} {X : Orc P} {e : Code → XS → Option (Exit × XS)}
def EOK (P : Program) (e : Code → XS → Option (Exit × XS)) : Prop := ∀ c s x s', e c s = some (x, s') → ∀ (σ : AS), Is s σ → ∀ Q : Exit → AS → Prop, (∀ σ', Is s' σ' → Q x σ') → AW P c σ Q
def NamesOK (P : Program) : Prop := P.funcs.all (fun f => !(f.name == "runtime.NumGoroutine")) = true

theorem names_at (h : NamesOK P) {n : FuncId} {fn : Func} (hf : P.funcs[n]? = some fn) : (fn.name == "runtime.NumGoroutine") = false := by
  unfold NamesOK at h
  rw [Array.all_eq_true_iff_forall_mem] at h
  have := h fn (Array.mem_of_getElem? hf)
  simpa using this

theorem is_env {env : List (Nat × Bool × AV)} {h : HL} {nt : Nat} : Is ⟨ofL env, h.1, h.2, nt⟩ ⟨env, h.to, nt⟩ := ⟨fun t => (ofL_at env t).symm, rfl, rfl, rfl⟩

theorem xEnter_ok (hN : NamesOK P) (he : EOK P e) {n : FuncId} {args : List AV} {h : HL} {a : AV} {s : XS} (hx : xEnter P e n args h = some (a, s)) :
    ∃ fn c, P.funcs[n]? = some fn ∧ fn.body = some c ∧ (fn.name == "runtime.NumGoroutine") = false ∧ args.length ≤ fn.ntmps ∧ ∀ Q : AV → Heap → Prop, Q a (HL.to (s.l, s.next)) → AW P c ⟨envOf 0 args, h.to, fn.ntmps⟩ (endA P fn.results.toList Q) := by
  unfold xEnter at hx
  split at hx
  · rename_i fn hf
    split at hx
    · rename_i c hb
      cases hl : Nat.ble args.length fn.ntmps with
      | false => rw [hl] at hx; cases hx
      | true =>
        rw [hl] at hx
        refine ⟨fn, c, hf, hb, names_at hN hf, Nat.le_of_ble_eq_true hl, fun Q hq => ?_⟩
        simp only [cond] at hx
        unfold xEnd at hx
        split at hx
        · rename_i s1 h1
          split at hx
          · rename_i a1 ha
            simp only [Option.some.injEq, Prod.mk.injEq] at hx
            obtain ⟨rfl, rfl⟩ := hx
            exact he _ _ _ _ h1 _ is_env _ fun σ' hi => w_endN (by rw [← hi.out]; exact ha) (by rw [hi.H]; exact hq)
          · cases hx
        · rename_i s1 h1
          split at hx
          · rename_i a1 ha
            simp only [Option.some.injEq, Prod.mk.injEq] at hx
            obtain ⟨rfl, rfl⟩ := hx
            exact he _ _ _ _ h1 _ is_env _ fun σ' hi => w_end (by rw [← hi.out]; exact ha) (by rw [hi.H]; exact hq)
          · cases hx
        · cases hx
    · cases hx
  · cases hx

theorem e_to : HL.to (.e, 0) = ⟨0, tabG []⟩ := rfl

theorem xCl_ok (hN : NamesOK P) (he : EOK P e) : ClOK P (xCl P X e) := fun n args h r h' hx => by
  unfold xCl at hx
  split at hx
  · rename_i r' hr
    injection hx with hx
    subst hx
    exact X.aok hr
  · split at hx
    · rename_i a s hs
      simp only [Option.some.injEq, Prod.mk.injEq] at hx
      obtain ⟨rfl, rfl⟩ := hx
      obtain ⟨fn, c, hf, hb, hnm, hl, hq⟩ := xEnter_ok hN he hs
      refine acall hf hb hnm hl ?_
      simp only [hold]
      exact hq _ ⟨rfl, rfl⟩
    · cases hx

theorem xCp_ok (hN : NamesOK P) (he : EOK P e) : CpOK P (xCp P X e) := fun n args r hx => by
  unfold xCp at hx
  split at hx
  · rename_i r' hr
    injection hx with hx
    subst hx
    exact X.pok hr
  · split at hx
    · rename_i a s hs
      split at hx
      · rename_i hno
        injection hx with hx
        subst hx
        obtain ⟨fn, c, hf, hb, hnm, hl, hq⟩ := xEnter_ok hN he hs
        refine pcallD 8 hf hb hnm hl ?_
        simp only [hold]
        exact hq (fun a H' => NoId (expoD H'.get 8 a) ∧ expoD H'.get 8 a = _) ⟨noIdB_ok _ hno, rfl⟩
      · cases hx
    · cases hx

theorem xCf_ok (hN : NamesOK P) (he : EOK P e) : CfOK P (xCf P X e) := fun n args r hx => by
  unfold xCf at hx
  split at hx
  · rename_i r' hr
    split at hx
    · rename_i hk
      injection hx with hx
      subst hx
      exact FCall.ofK (X.pok hr) hk
    · cases hx
  · split at hx
    · rename_i a s hs
      split at hx
      · rename_i hno
        simp only [Bool.and_eq_true] at hno
        injection hx with hx
        subst hx
        obtain ⟨fn, c, hf, hb, hnm, hl, hq⟩ := xEnter_ok hN he hs
        refine fcallD 8 hf hb hnm hl ?_
        simp only [hold]
        exact hq (fun a H' => NoId (expoD H'.get 8 a) ∧ fresh H'.get 8 a = true ∧ expoD H'.get 8 a = _) ⟨noIdB_ok _ hno.2, hno.1, rfl⟩
      · cases hx
    · cases hx

theorem xCo_ok (hN : NamesOK P) (he : EOK P e) : CoOK P (xCo P X e) := fun n args f hx => by
  unfold xCo at hx
  split at hx
  · cases hx
  · split at hx
    · rename_i a s hs
      obtain ⟨fn, c, hf, hb, hnm, hl, hq⟩ := xEnter_ok hN he hs
      refine focallD 8 hf hb hnm hl (acall hf hb hnm hl ?_)
      simp only [hold]
      exact hq (fun r H' => foOf H'.get 8 r = some f) hx
    · cases hx

theorem setB_tab (h : HL) (id : Nat) (b : Option Blk) : setB h.to id b = HL.to (h.1.put id b, h.2) := by
  simp only [setB, HL.to, upd, tabT_put]
theorem Is.setB {s : XS} {σ : AS} (h : Is s σ) (id : Nat) (b : Option Blk) : setB σ.H id b = HL.to (s.l.put id b, s.next) := by rw [h.H]; exact setB_tab _ id b
theorem Is.isSet {s : XS} {σ : AS} (h : Is s σ) (id : Nat) (b : Option Blk) : Is ⟨s.env, s.l.put id b, s.next, s.nt⟩ ⟨σ.env, Go.AL.setB σ.H id b, σ.nt⟩ := by
  rw [h.setB]; exact ⟨h.env, rfl, rfl, h.nt⟩

theorem xYl_ok (he : EOK P e) : YlOK P (xYl e) := fun id args h b h' hx σ K hH hK => by
  unfold xYl at hx
  split at hx
  · rename_i env nt ps A B hg
    split at hx
    · rename_i hl
      split at hx
      · rename_i s1 h1
        split at hx
        · rename_i env1 nt1 ps1 A1 B1 hg1
          refine ⟨id, args, env, nt, ps, A, B, rfl, rfl, by rw [hH]; exact hg, hl.1, hl.2, ?_⟩
          rw [hH]
          refine he _ _ _ _ h1 _ is_env _ fun σ1 hi1 => ?_
          simp only [hold, endAsA]
          refine ⟨env1, nt1, ps1, A1, B1, by rw [hi1.get]; exact hg1, ?_⟩
          split at hx
          · rename_i s2 h2
            split at hx
            · rename_i env2 nt2 ps2 A2 B2 hg2
              simp only [Option.some.injEq, Prod.mk.injEq] at hx
              obtain ⟨rfl, rfl⟩ := hx
              refine he _ _ _ _ h2 _ (hi1.isSet _ _) _ fun σ2 hi2 => ⟨env2, nt2, ps2, A2, B2, by rw [hi2.get]; exact hg2, ?_⟩
              rw [hi2.setB]; exact hK
            · cases hx
          · rename_i s2 h2
            split at hx
            · rename_i env2 nt2 ps2 A2 B2 hg2
              simp only [Option.some.injEq, Prod.mk.injEq] at hx
              obtain ⟨rfl, rfl⟩ := hx
              refine he _ _ _ _ h2 _ (hi1.isSet _ _) _ fun σ2 hi2 => ⟨env2, nt2, ps2, A2, B2, by rw [hi2.get]; exact hg2, ?_⟩
              rw [hi2.setB]; exact hK
            · cases hx
          · rename_i i s2 h2
            split at hx
            · rename_i env2 nt2 ps2 A2 B2 hg2
              simp only [Option.some.injEq, Prod.mk.injEq] at hx
              obtain ⟨rfl, rfl⟩ := hx
              refine he _ _ _ _ h2 _ (hi1.isSet _ _) _ fun σ2 hi2 => ⟨env2, nt2, ps2, A2, B2, by rw [hi2.get]; exact hg2, ?_⟩
              rw [hi2.setB]; exact hK
            · cases hx
          · cases hx
        · cases hx
      · cases hx
    · cases hx
  · cases hx

theorem xLoop_ok {c : Code} {f : XS → Option (Exit × XS)} (hf : ∀ s x s', f s = some (x, s') → ∀ (σ : AS), Is s σ → ∀ Q : Exit → AS → Prop, (∀ σ', Is s' σ' → Q x σ') → AW P c σ Q) {Q : Exit → AS → Prop} : ∀ (n : Nat) {s s' : XS} {σ : AS} {x : Exit}, Is s σ → xLoop f n s = some (x, s') → (∀ σ', Is s' σ' → Q x σ') → x ≠ .normal → Rounds P c Q n σ
  | 0, s, s', σ, x, hi, h, hq, _ => by simp only [xLoop] at h; cases h
  | n + 1, s, s', σ, x, hi, h, hq, hx => by
    simp only [xLoop] at h
    split at h
    · rename_i s1 h1
      rw [fXS_eq] at h
      exact w_round (hf _ _ _ h1 _ hi _ fun σ1 hi1 => w_then (xLoop_ok hf n hi1 h hq hx))
    · refine w_round (hf _ _ _ h _ hi _ fun σ' h' => ?_)
      cases x with
      | normal => exact absurd rfl hx
      | _ => exact hq _ h'

theorem xLoop_exit {f : XS → Option (Exit × XS)} : ∀ (n : Nat) {s s' : XS} {x : Exit}, xLoop f n s = some (x, s') → x ≠ .normal
  | 0, s, s', x, h => by simp only [xLoop] at h; cases h
  | n + 1, s, s', x, h => by
    simp only [xLoop] at h
    split at h
    · rw [fXS_eq] at h
      exact xLoop_exit n h
    · rename_i hn
      intro hx
      subst hx
      exact hn _ h

theorem aw_heapW {c : Code} {σ : AS} {Q : Exit → AS → Prop} {H' : Heap} (hn : σ.H.next ≤ H'.next) (h : ∀ id b', H'.get id = some b' → ∃ b, σ.H.get id = some b ∧ b'.le b) (hk : AW P c ⟨σ.env, H', σ.nt⟩ Q) : AW P c σ Q := fun ro E W act hro hr =>
  hk ro E W act hro ⟨hr.defers, hr.size, hr.env, ⟨fun id hid => Nat.lt_of_lt_of_le (hr.heap.next id hid) hn, hr.heap.core.weaker h⟩⟩

theorem xRange_ok (hN : NamesOK P) (he : EOK P e) {g : Operand} {ps : Array Tmp} {A B : Code} {s s' : XS} {σ : AS} (hi : Is s σ) {x : Exit} (h : xRange P e (s.get true g) ps A B s = some (x, s')) {Q : Exit → AS → Prop} (hq : ∀ σ', Is s' σ' → Q x σ') : AW P (.rangeFunc g ps A B) σ Q := by
  unfold xRange at h
  rw [hi.getE] at h
  split at h
  · rename_i n first cap hg
    split at h
    · rename_i a s2 hs
      obtain ⟨fn, c, hf, hb, hnm, hl, hk⟩ := xEnter_ok hN he hs
      refine w_rangeFunc hg hf hb hnm (by rw [hi.next]; exact hl) fun R A' B' hR hA hB => ?_
      subst hR; subst hA; subst hB
      rw [hi.next, hi.nt]
      have h0 : setB ⟨s.next + 1, tabT s.l⟩ s.next (some (.rcd (toLN s.env s.nt) s.nt ps.toList A' B' .ready none)) = HL.to (s.l.put s.next (some (.rcd (toLN s.env s.nt) s.nt ps.toList A' B' .ready none)), s.next + 1) := setB_tab (s.l, s.next + 1) s.next _
      refine aw_heapW (H' := HL.to (s.l.put s.next (some (.rcd (toLN s.env s.nt) s.nt ps.toList A' B' .ready none)), s.next + 1)) (Nat.le_refl _) (fun id b' hb' => ?_) ?_
      · rw [← h0] at hb'
        simp only [setB, upd] at hb' ⊢
        by_cases hid : id = s.next
        · subst hid
          rw [if_pos rfl] at hb' ⊢
          injection hb' with hb'
          subst hb'
          exact ⟨_, rfl, fun t x hx => by rw [hi.env]; exact toLN_lk _ _ _ _ hx, rfl, rfl, rfl, rfl, rfl, rfl⟩
        · rw [if_neg hid] at hb' ⊢
          rw [hi.get]
          exact ⟨b', hb', Blk.le_refl _⟩
      · simp only [hold]
        refine hk (fun _ H' => rfK s.next σ.env s.nt ps.toList A' B' (fun e H2 => Q e ⟨σ.env, H2, s.nt⟩) H') ?_
        have hfin : Is { s with l := Tr.put s2.l s.next none, next := s2.next } ⟨σ.env, setB (HL.to (s2.l, s2.next)) s.next none, s.nt⟩ := by
          rw [setB_tab]; exact ⟨hi.env, rfl, rfl, rfl⟩
        unfold xJump at h
        split at h
        · rename_i hg2
          simp only [Option.some.injEq, Prod.mk.injEq] at h
          obtain ⟨rfl, rfl⟩ := h
          refine ⟨_, _, _, _, _, _, _, hg2, by simp, ?_⟩
          simp only [jumpA]
          exact hq _ hfin
        · rename_i hg2
          simp only [Option.some.injEq, Prod.mk.injEq] at h
          obtain ⟨rfl, rfl⟩ := h
          refine ⟨_, _, _, _, _, _, _, hg2, by simp, ?_⟩
          simp only [jumpA]
          exact hq _ hfin
        · rename_i hg2
          simp only [Option.some.injEq, Prod.mk.injEq] at h
          obtain ⟨rfl, rfl⟩ := h
          refine ⟨_, _, _, _, _, _, _, hg2, by simp, ?_⟩
          simp only [jumpA]
          exact hq _ hfin
        · rename_i hg2
          simp only [Option.some.injEq, Prod.mk.injEq] at h
          obtain ⟨rfl, rfl⟩ := h
          refine ⟨_, _, _, _, _, _, _, hg2, by simp, ?_⟩
          simp only [jumpA]
          exact hq _ hfin
        · cases h
    · cases h
  · cases h

theorem aw_freeze {c : Code} {σ : AS} {Q : Exit → AS → Prop} (ids : List Nat) (h : AW P c ⟨σ.env, ⟨σ.H.next, frz σ.H.get ids⟩, σ.nt⟩ Q) : AW P c σ Q := fun ro E W act hro hr => by
  obtain ⟨L1, h1, h2, _⟩ := freezeAll (W := W) ids hr.heap
  have hr' := hr.mono h1 h2
  exact wpIn_mono (h ro _ W act hro hr') fun e a w ⟨E', σ', h3, h4, h5, h6⟩ => ⟨E', σ', (Went.of h1 rfl).trans h3, h4, h5, h6⟩
theorem Is.frz {s : XS} {σ : AS} (h : Is s σ) (ids : List Nat) : Is (s.frz ids) ⟨σ.env, ⟨σ.H.next, Go.AL.frz σ.H.get ids⟩, σ.nt⟩ :=
  ⟨h.env, h.next, by simp only [XS.frz, frz_upd, upd_puts, h.get], h.nt⟩

theorem xRegD_ok (hm : P.follows .mixedOrders = true) (hN : NamesOK P) (he : EOK P e) {id : Nat} {ops : Array Oper} {s s' : XS} {σ : AS} (hi : Is s σ) {x : Exit} (h : xRegD P X e ops s = some (x, s')) {Q : Exit → AS → Prop} (hq : ∀ σ', Is s' σ' → Q x σ') : AW P (.region id ops true) σ Q := by
  have hcl := xCl_ok (X := X) hN he
  have hyl := xYl_ok he
  unfold xRegD at h
  have hcp := xCp_ok (X := X) hN he
  have hcf := xCf_ok (X := X) hN he
  have hco := xCo_ok (X := X) hN he
  cases hD : xD P (xCp P X e) (xCf P X e) (xCo P X e) ops.toList s.next 0 ops.toList { s with next := s.next + ops.size } with
  | mk es q =>
  obtain ⟨s1, i, r⟩ := q
  rw [hD] at h
  simp only [xDraw] at h
  split at h
  · rename_i hall
    simp only [Bool.and_eq_true] at hall
    obtain ⟨⟨hst, hds⟩, hdy⟩ := hall
    rw [← hi.nt] at hds
    obtain ⟨pre, σ1, h1, h2, h3, h4⟩ := xD_ok hcp hcf hco _ _ { s with next := s.next + ops.size } (σ := { σ with H := ⟨σ.H.next + ops.size, σ.H.get⟩ }) ⟨hi.env, by simp only [hi.next], hi.get, hi.nt⟩ hD
    rw [← hi.next] at h3
    have hst' : statB ops = true := by simpa using hst
    split at h
    · simp only [Option.some.injEq, Prod.mk.injEq] at h
      obtain ⟨rfl, rfl⟩ := h
      rw [List.append_nil] at h1
      subst h1
      exact w_draw hm hst' hds h3 hdy (hq _ h4)
    · split at h
      · rename_i htl
        split at h
        · rename_i s2 hs2
          simp only [Option.some.injEq, Prod.mk.injEq] at h
          obtain ⟨rfl, rfl⟩ := h
          have hi' : i = pre.length := by omega
          subst hi'
          have ht : ops.toList.take pre.length = pre := by rw [h1]; simp
          have hdr : ops.toList.drop pre.length = r := by rw [h1]; simp
          exact w_drawT pre.length hm hst' htl hds (by rw [ht]; exact h3) hdy (by rw [hdr]; exact xOps_ok hcl hyl _ h4 hs2 hq)
        · cases h
      · cases h
  · cases h

theorem xRegion_ok (hm : P.follows .mixedOrders = true) (hN : NamesOK P) (he : EOK P e) {id : Nat} {ops : Array Oper} {d : Bool} {s s' : XS} {σ : AS} (hi : Is s σ) {x : Exit} (h : xRegion P X e ops s d = some (x, s')) {Q : Exit → AS → Prop} (hq : ∀ σ', Is s' σ' → Q x σ') : AW P (.region id ops d) σ Q := by
  have hcl := xCl_ok (X := X) hN he
  have hyl := xYl_ok he
  cases d with
  | false =>
    simp only [xRegion] at h
    split at h
    · rename_i hd
      rw [← hi.nt] at hd
      split at h
      · rename_i s1 h1
        simp only [Option.some.injEq, Prod.mk.injEq] at h
        obtain ⟨rfl, rfl⟩ := h
        exact aw_region (xOps_ok hcl hyl _ hi h1 hq) hd
      · cases h
    · cases h
  | true =>
    simp only [xRegion] at h
    split at h
    · rename_i q hq1
      injection h with h
      subst h
      exact xRegD_ok hm hN he hi hq1 hq
    · generalize frzIds s.next (xD P (xCp P X e) (xCf P X e) (xCo P X e) ops.toList s.next 0 ops.toList { s with next := s.next + ops.size }).1 = ids at h
      exact aw_freeze ids (xRegD_ok hm hN he (hi.frz ids) h hq)

theorem ex_succ {m k : Nat} : ex P X m (k + 1) = exS P X m (ex P X m k) := rfl
theorem ex_ok (hm : P.follows .mixedOrders = true) (hN : NamesOK P) (m : Nat) : ∀ k, EOK P (ex P X m k)
  | 0 => fun c s x s' h => by cases h
  | k + 1 => fun c s x s' h σ hi Q hq => by
    have ih : EOK P (ex P X m k) := ex_ok hm hN m k
    rw [ex_succ] at h
    cases c with
    | skip => simp only [exS, Option.some.injEq, Prod.mk.injEq] at h; obtain ⟨rfl, rfl⟩ := h; exact aw_skip (hq _ hi)
    | ret => simp only [exS, Option.some.injEq, Prod.mk.injEq] at h; obtain ⟨rfl, rfl⟩ := h; exact aw_ret (hq _ hi)
    | exit id => simp only [exS, Option.some.injEq, Prod.mk.injEq] at h; obtain ⟨rfl, rfl⟩ := h; exact aw_exit (hq _ hi)
    | label l => simp only [exS, Option.some.injEq, Prod.mk.injEq] at h; obtain ⟨rfl, rfl⟩ := h; exact aw_label (hq _ hi)
    | seq a b =>
      simp only [exS] at h
      unfold xSeq at h
      split at h
      · rename_i s1 h1
        rw [fXS_eq] at h
        exact aw_seq (ih _ _ _ _ h1 _ hi _ fun σ1 hi1 => w_then (ih _ _ _ _ h _ hi1 _ hq))
      · rename_i hn
        refine aw_seq (ih _ _ _ _ h _ hi _ fun σ1 hi1 => ?_)
        cases x with
        | normal => exact absurd h (hn _)
        | _ => exact hq _ hi1
    | cond c a b =>
      simp only [exS, hi.getE] at h
      unfold xCond at h
      split at h
      · rename_i hb; exact w_condT hb (ih _ _ _ _ h _ hi _ hq)
      · rename_i hb; exact w_condF hb (ih _ _ _ _ h _ hi _ hq)
      · cases h
    | block id b =>
      simp only [exS] at h
      unfold xBlock at h
      split at h
      · rename_i i s1 h1
        cases hb : Nat.beq i id with
        | true =>
          rw [hb] at h
          simp only [cond, Option.some.injEq, Prod.mk.injEq] at h
          obtain ⟨rfl, rfl⟩ := h
          have := Nat.eq_of_beq_eq_true hb
          subst this
          exact aw_block (ih _ _ _ _ h1 _ hi _ fun σ1 hi1 => w_blockE (hq _ hi1))
        | false =>
          rw [hb] at h
          simp only [cond, Option.some.injEq, Prod.mk.injEq] at h
          obtain ⟨rfl, rfl⟩ := h
          have hne : i ≠ id := fun he => by rw [nbT he] at hb; cases hb
          exact aw_block (ih _ _ _ _ h1 _ hi _ fun σ1 hi1 => w_blockO hne (hq _ hi1))
      · rename_i hn
        refine aw_block (ih _ _ _ _ h _ hi _ fun σ1 hi1 => ?_)
        cases x with
        | exit i => exact absurd h (hn _ _)
        | _ => exact hq _ hi1
    | loop b =>
      simp only [exS] at h
      exact w_rounds m (xLoop_ok (fun s x s' hs σ hi Q hq => ih _ _ _ _ hs _ hi _ hq) m hi h hq (xLoop_exit m h))
    | region id ops d =>
      simp only [exS] at h
      exact xRegion_ok hm hN ih hi h hq
    | rangeFunc g ps A B =>
      simp only [exS] at h
      exact xRange_ok hN ih hi h hq
    | scope b =>
      simp only [exS] at h
      unfold xScope at h
      split at h
      · cases h
      · rename_i hn
        refine aw_scope (ih _ _ _ _ h _ hi _ fun σ1 hi1 => ?_)
        cases x with
        | goto l => exact absurd h (hn _ _)
        | _ => exact hq _ hi1
    | goto l => simp only [exS] at h; cases h
    | refuse w => simp only [exS] at h; cases h

/-- A call on data, reckoned. -/
noncomputable def exP (P : Program) (X : Orc P) (m k : Nat) (n : FuncId) (args : List AV) : Option AV := xCp P X (ex P X m k) n args
theorem exP_ok (hm : P.follows .mixedOrders = true) (hN : NamesOK P) (m k : Nat) {n : FuncId} {args : List AV} {r : AV} (h : exP P X m k n args = some r) : PCall P n args (· = r) := xCp_ok hN (ex_ok hm hN m k) _ _ _ h
end
/-- No call is known. -/
def Orc.none (P : Program) : Orc P where
  a _ _ _ := Option.none
  aok h := by cases h
  p _ _ := Option.none
  pok h := by cases h
end Go.AL

/- A layer over the walks: rules that find their side conditions themselves. -/
namespace Go.AL
set_option linter.unusedVariables false
set_option linter.unusedSimpArgs false

theorem FCall.less {P : Program} {n : FuncId} {as bs : List AV} {a : AV} (h : FCall P n bs a) (hw : Wks as bs) : FCall P n as a :=
  ⟨h.1, fun L W vs hL hr => h.2 L W vs hL (hr.wk hw)⟩
/-- A function that answers a new slice of its own. -/
theorem ostart {P : Program} {n : FuncId} {fn : Func} {c : Code} {args : List AV} {e : TypeId} {k : Nat} {rows : List (List AV)} {rs : List ResultVar} {nt : Nat} (hf : P.funcs[n]? = some fn) (hnt : fn.ntmps = nt) (ha : ∀ a ∈ args, NoId a) (hrows : ∀ row ∈ rows, ∀ x ∈ row, NoId x)
    (h : AW P c ⟨envOf 0 args, ⟨0, tabG []⟩, nt⟩ (hold (endA P rs (hold (fun a H' => ∃ i, a = .own i 0 rows.length ∧ H'.get i = some (.cells e k rows true true)) ⟨⟩)) ⟨⟩))
    (hb : fn.body = some c := by rfl) (hr : fn.results = List.toArray rs := by rfl) (hnm : (fn.name == "runtime.NumGoroutine") = false := by kernel_rfl) (hlen : args.length ≤ nt := by (simp only [List.length_cons, List.length_nil]; decide)) : OCall P n args e k rows := by
  refine ocall ha hrows hf hb hnm (by rw [hnt]; exact hlen) ?_
  rw [hnt, hr]
  exact h
theorem noId_sptr {rows : List (List AV)} {i o : Nat} : NoId (.sptr rows i o) ↔ ∀ row ∈ rows, ∀ x ∈ row, NoId x := ⟨fun h => by cases h; assumption, .sptr rows i o⟩
theorem noId_fn {f : Fn} {xs ys : List AV} : NoId (.fn f xs ys) ↔ (∀ x ∈ xs, NoId x) ∧ ∀ x ∈ ys, NoId x := ⟨fun h => by cases h; exact ⟨by assumption, by assumption⟩, fun h => .fn f xs ys h.1 h.2⟩
/-- A function that is walked from no blocks at all. -/
theorem pstart {P : Program} {n : FuncId} {fn : Func} {c : Code} {args : List AV} {b : AV} {rs : List ResultVar} {nt : Nat} (hf : P.funcs[n]? = some fn) (hnt : fn.ntmps = nt) (hno : NoId b)
    (h : AW P c ⟨envOf 0 args, ⟨0, tabG []⟩, nt⟩ (hold (endA P rs (hold (fun a H' => NoId (expo H'.get a) ∧ Wk (expo H'.get a) b) ⟨⟩)) ⟨⟩))
    (hb : fn.body = some c := by (first | rfl | fail)) (hr : fn.results = List.toArray rs := by (first | rfl | fail)) (hnm : (fn.name == "runtime.NumGoroutine") = false := by (first | kernel_rfl | fail)) (hlen : args.length ≤ nt := by (simp only [List.length_cons, List.length_nil]; decide)) : PCall P n args (· = b) := by
  refine PCall.wk ?_ hno
  refine pcall hf hb hnm (by rw [hnt]; exact hlen) ?_
  rw [hnt, hr]
  exact h

/-- The same; the answer is exported in depth. -/
theorem pstartD {P : Program} {n : FuncId} {fn : Func} {c : Code} {args : List AV} {b : AV} {rs : List ResultVar} {nt : Nat} (hf : P.funcs[n]? = some fn) (hnt : fn.ntmps = nt) (hno : NoId b)
    (h : AW P c ⟨envOf 0 args, ⟨0, tabG []⟩, nt⟩ (hold (endA P rs (hold (fun a H' => NoId (expoD H'.get 4 a) ∧ Wk (expoD H'.get 4 a) b) ⟨⟩)) ⟨⟩))
    (hb : fn.body = some c := by (first | rfl | fail)) (hr : fn.results = List.toArray rs := by (first | rfl | fail)) (hnm : (fn.name == "runtime.NumGoroutine") = false := by (first | kernel_rfl | fail)) (hlen : args.length ≤ nt := by (simp only [List.length_cons, List.length_nil]; decide)) : PCall P n args (· = b) := by
  refine PCall.wk ?_ hno
  refine pcallD 4 hf hb hnm (by rw [hnt]; exact hlen) ?_
  rw [hnt, hr]
  exact h
theorem sc_ret {Q : Exit → AS → Prop} {σ : AS} (h : Q .ret σ) : scopeA Q .ret σ := h
theorem sc_norm {Q : Exit → AS → Prop} {σ : AS} (h : Q .normal σ) : scopeA Q .normal σ := h

section
variable {P : Program} {σ : AS} {Q : Exit → AS → Prop}

theorem zregion {id : Nat} {ops : Array Oper} {p : AS × List Oper} (h : aops P true ops p.2 p.1 (Q .normal)) (hd : ops.toList.all (dstIn σ.nt) = true := by (first | rfl | fail))
    (hr : run P ops.toList ops.toList σ = p := by (first | (simp (maxSteps := 2000000) (disch := omega) only [go_sem, *] <;> exact rfl) | fail)) : AW P (.region id ops false) σ Q := w_region hd hr h
theorem zcondT {c : Operand} {x y : Code} (h : AW P x σ Q) (hc : asB (σ.get true c) = some true := by (first | (simp (maxSteps := 2000000) (disch := omega) only [go_sem, *]; done) | fail)) : AW P (.cond c x y) σ Q := w_condT hc h
theorem zcondF {c : Operand} {x y : Code} (h : AW P y σ Q) (hc : asB (σ.get true c) = some false := by (first | (simp (maxSteps := 2000000) (disch := omega) only [go_sem, *]; done) | fail)) : AW P (.cond c x y) σ Q := w_condF hc h
/-- Both ways of a test. -/
theorem zsplit {c : Operand} {x y : Code} {b : Bool} (ht : b = true → AW P x σ Q) (hf : b = false → AW P y σ Q) (hc : asB (σ.get true c) = some b := by (first | (simp (maxSteps := 2000000) (disch := omega) only [go_sem, *] <;> exact rfl) | fail)) : AW P (.cond c x y) σ Q := w_cond hc ht hf
theorem zend {rs : List ResultVar} {Q : AV → Heap → Prop} {a : AV} (h : Q a σ.H) (ho : outA P σ rs = some a := by (first | (simp (maxSteps := 2000000) (disch := omega) only [go_sem, *] <;> exact rfl) | fail)) : endA P rs Q .ret σ := w_end ho h
theorem zendN {rs : List ResultVar} {Q : AV → Heap → Prop} {a : AV} (h : Q a σ.H) (ho : outA P σ rs = some a := by (first | (simp (maxSteps := 2000000) (disch := omega) only [go_sem, *] <;> exact rfl) | fail)) : endA P rs Q .normal σ := w_endN ho h

section
variable {ops : List Oper} {N0 i : Nat} {o : Oper} {r : List Oper} {σ'' : AS} {es : List Entry} {f : Operand} {as : Array Operand} {ts : Array TypeId} {n : FuncId}
theorem d_runZ {l : List Oper} {p : List Entry × AS × Nat × List Oper} (hr : runD P ops N0 i l σ = p) (h : DRun P ops N0 p.2.2.1 p.2.2.2 p.2.1 es σ'') : DRun P ops N0 i l σ (p.1 ++ es) σ'' := d_run hr h
theorem d_callPZ {args : List AV} {a : AV} (hop : o.op = .call ⟨.value f, as, ts⟩) (hg : o.guard = none)
    (hc : calleeA (σ.get true f) (getsA (σ.get true) as.toList) = some (n, args)) (hp : PCall P n args (· = a)) (hn : ∀ a ∈ args, NoId a) (h : DRun P ops N0 (i + 1) r (σ.app o.dst ⟨true, a, [], []⟩) es σ'') : DRun P ops N0 i (o :: r) σ (⟨true, a, [], []⟩ :: es) σ'' := d_callP hop hg hp hc hn h
theorem d_skipZ {j : Nat} {want : Bool} (hg : o.guard = some (j, want)) (hw : gcond (gval ops j σ.env) want = some false) (h : DRun P ops N0 (i + 1) r (σ.app o.dst ⟨false, .c (.bool false), [], []⟩) es σ'') : DRun P ops N0 i (o :: r) σ (⟨false, .c (.bool false), [], []⟩ :: es) σ'' :=
  .cons i o r σ _ es σ'' (.skip (by unfold gOK; rw [hg]; exact hw) rfl rfl) h
theorem d_callGZ {args : List AV} {a : AV} {j : Nat} {want c : Bool} (hop : o.op = .call ⟨.value f, as, ts⟩) (hg : o.guard = some (j, want))
    (hw : gcond (gval ops j σ.env) want = some c) (hc : calleeA (σ.get c f) (getsA (σ.get c) as.toList) = some (n, args)) (hp : PCall P n args (· = a)) (hn : ∀ a ∈ args, NoId a) (h : DRun P ops N0 (i + 1) r (σ.app o.dst ⟨c, a, [], []⟩) es σ'') : DRun P ops N0 i (o :: r) σ (⟨c, a, [], []⟩ :: es) σ'' := d_callG hop hg hw hp hc hn h
/-- A call that only reads blocks of one's own. -/
theorem d_callR {args0 args : List AV} {a : AV} {rd : List Nat} (hop : o.op = .call ⟨.value f, as, ts⟩) (hg : o.guard = none) (hc : calleeA (σ.get true f) (getsA (σ.get true) as.toList) = some (n, args0)) (he : args0.map (expoD σ.H.get 3) = args) (hrd : args0.flatMap (idsD σ.H.get 3) = rd) (hp : FCall P n args a) (hn : ∀ a ∈ args, NoId a)
    (h : DRun P ops N0 (i + 1) r (σ.app o.dst ⟨true, a, [], rd⟩) es σ'') : DRun P ops N0 i (o :: r) σ (⟨true, a, [], rd⟩ :: es) σ'' :=
  .cons i o r σ _ es σ'' (.rcall f as ts n args0 args 3 hop (by unfold gOK; rw [hg]) rfl hc he hn hp rfl fun x hx id hid => by rw [← hrd]; exact List.mem_flatMap.2 ⟨x, hx, hid⟩) h
/-- The same behind a guard that is met. -/
theorem d_callRG {args0 args : List AV} {a : AV} {rd : List Nat} {j : Nat} {want : Bool} (hop : o.op = .call ⟨.value f, as, ts⟩) (hg : o.guard = some (j, want)) (hw : gcond (gval ops j σ.env) want = some true) (hc : calleeA (σ.get true f) (getsA (σ.get true) as.toList) = some (n, args0)) (he : args0.map (expoD σ.H.get 3) = args) (hrd : args0.flatMap (idsD σ.H.get 3) = rd) (hp : FCall P n args a) (hn : ∀ a ∈ args, NoId a)
    (h : DRun P ops N0 (i + 1) r (σ.app o.dst ⟨true, a, [], rd⟩) es σ'') : DRun P ops N0 i (o :: r) σ (⟨true, a, [], rd⟩ :: es) σ'' :=
  .cons i o r σ _ es σ'' (.rcall f as ts n args0 args 3 hop (by unfold gOK; rw [hg]; exact hw) rfl hc he hn hp rfl fun x hx id hid => by rw [← hrd]; exact List.mem_flatMap.2 ⟨x, hx, hid⟩) h
end
theorem zdraw {σ' : AS} {id : Nat} {ops : Array Oper} {es : List Entry} (h : Q .normal σ') (hm : P.follows .mixedOrders = true := by (first | kernel_rfl | fail)) (hs : statB ops = true := by (first | kernel_rfl | fail)) (hd : ops.toList.all (dstIn σ.nt) = true := by (first | rfl | fail))
    (hr : DRun P ops.toList σ.H.next 0 ops.toList { σ with H := ⟨σ.H.next + ops.size, σ.H.get⟩ } es σ' := by (first | (apply d_runZ; (next => (first | (simp (maxSteps := 2000000) (disch := omega) only [go_sem, *] <;> exact rfl) | fail)); (repeat (first | exact d_nil | (apply d_skipZ; (next => (first | rfl | fail)); (next => (first | (simp (maxSteps := 2000000) (disch := omega) only [go_sem, *] <;> exact rfl) | fail)); apply d_runZ; (next => (first | (simp (maxSteps := 2000000) (disch := omega) only [go_sem, *] <;> exact rfl) | fail))) | (apply d_callPZ; (next => (first | rfl | fail)); (next => (first | rfl | fail)); (next => (first | (simp (maxSteps := 2000000) (disch := omega) only [go_sem, *] <;> exact rfl) | fail)); (next => (first | assumption | (apply_assumption <;> first | assumption | omega) | fail)); (next => (first | (simp (maxSteps := 2000000) only [go_sem, noId_fn, noId_sptr, false_implies, implies_true, *]; done) | (simp [noId_c, noId_agg, noId_snap, noId_tup, noId_fn, noId_sptr, encL_noIdE, *]; done) | fail)); apply d_runZ; (next => (first | (simp (maxSteps := 2000000) (disch := omega) only [go_sem, *] <;> exact rfl) | fail))) | (apply d_callGZ; (next => (first | rfl | fail)); (next => (first | rfl | fail)); (next => (first | (simp (maxSteps := 2000000) (disch := omega) only [go_sem, *] <;> exact rfl) | fail)); (next => (first | (simp (maxSteps := 2000000) (disch := omega) only [go_sem, *] <;> exact rfl) | fail)); (next => (first | assumption | (apply_assumption <;> first | assumption | omega) | fail)); (next => (first | (simp (maxSteps := 2000000) only [go_sem, noId_fn, noId_sptr, false_implies, implies_true, *]; done) | (simp [noId_c, noId_agg, noId_snap, noId_tup, noId_fn, noId_sptr, encL_noIdE, *]; done) | fail)); apply d_runZ; (next => (first | (simp (maxSteps := 2000000) (disch := omega) only [go_sem, *] <;> exact rfl) | fail))) | (apply d_callR; (next => (first | rfl | fail)); (next => (first | rfl | fail)); (next => (first | (simp (maxSteps := 2000000) (disch := omega) only [go_sem, *] <;> exact rfl) | fail)); (next => (first | (simp (maxSteps := 2000000) (disch := omega) only [go_sem, *] <;> exact rfl) | fail)); (next => (first | (simp (maxSteps := 2000000) (disch := omega) only [go_sem, *] <;> exact rfl) | fail)); (next => (first | assumption | (apply_assumption <;> first | assumption | omega) | fail)); (next => (first | (simp (maxSteps := 2000000) only [go_sem, noId_fn, noId_sptr, false_implies, implies_true, *]; done) | (simp [noId_c, noId_agg, noId_snap, noId_tup, noId_fn, noId_sptr, encL_noIdE, *]; done) | fail)); apply d_runZ; (next => (first | (simp (maxSteps := 2000000) (disch := omega) only [go_sem, *] <;> exact rfl) | fail))) | (apply d_callRG; (next => (first | rfl | fail)); (next => (first | rfl | fail)); (next => (first | (simp (maxSteps := 2000000) (disch := omega) only [go_sem, *] <;> exact rfl) | fail)); (next => (first | (simp (maxSteps := 2000000) (disch := omega) only [go_sem, *] <;> exact rfl) | fail)); (next => (first | (simp (maxSteps := 2000000) (disch := omega) only [go_sem, *] <;> exact rfl) | fail)); (next => (first | (simp (maxSteps := 2000000) (disch := omega) only [go_sem, *] <;> exact rfl) | fail)); (next => (first | assumption | (apply_assumption <;> first | assumption | omega) | fail)); (next => (first | (simp (maxSteps := 2000000) only [go_sem, noId_fn, noId_sptr, false_implies, implies_true, *]; done) | (simp [noId_c, noId_agg, noId_snap, noId_tup, noId_fn, noId_sptr, encL_noIdE, *]; done) | fail)); apply d_runZ; (next => (first | (simp (maxSteps := 2000000) (disch := omega) only [go_sem, *] <;> exact rfl) | fail)))))) | fail))
    (hdyn : dynGo (tab ops.toList) 0 [] es = true := by (first | (simp (maxSteps := 2000000) (disch := omega) only [go_sem, nbeq_F, nbeq_T, *] <;> kernel_rfl) | fail)) : AW P (.region id ops true) σ Q := w_draw hm hs hd hr hdyn h

/-- A call that only computes. -/
theorem zcall {ops : Array Oper} {o : Oper} {rest : List Oper} {K : AS → Prop} {f : Operand} {as : Array Operand} {ts : Array TypeId} {n : FuncId} {args : List AV} {r : AV} {p : AS × List Oper} (hp : PCall P n args (· = r)) (h : aops P true ops p.2 p.1 K) (hop : o.op = .call ⟨.value f, as, ts⟩ := by (first | rfl | fail)) (hg : o.guard = none := by (first | rfl | fail))
    (hc : calleeA (σ.get true f) (getsA (σ.get true) as.toList) = some (n, args) := by (first | (simp (maxSteps := 2000000) (disch := omega) only [go_sem, *] <;> exact rfl) | fail)) (hn : ∀ a ∈ args, NoId a := by (first | (simp (maxSteps := 2000000) only [go_sem, noId_fn, noId_sptr, false_implies, implies_true, *]; done) | (simp [noId_c, noId_agg, noId_snap, noId_tup, noId_fn, noId_sptr, encL_noIdE, *]; done) | fail))
    (hr : run P ops.toList rest (σ.put o.dst true r) = p := by (first | (simp (maxSteps := 2000000) (disch := omega) only [go_sem, *] <;> exact rfl) | fail)) : aops P true ops (o :: rest) σ K := w_callP hop hg hp hc hn hr h
end

section
variable {P : Program} {σ : AS} {Q : Exit → AS → Prop}
/-- A call whose contract stands among the hypotheses. -/
theorem zcallH {ops : Array Oper} {o : Oper} {rest : List Oper} {K : AS → Prop} {f : Operand} {as : Array Operand} {ts : Array TypeId} {n : FuncId} {args : List AV} {r : AV} {p : AS × List Oper} (h : aops P true ops p.2 p.1 K) (hop : o.op = .call ⟨.value f, as, ts⟩ := by (first | rfl | fail)) (hg : o.guard = none := by (first | rfl | fail))
    (hc : calleeA (σ.get true f) (getsA (σ.get true) as.toList) = some (n, args) := by (first | (simp (maxSteps := 2000000) (disch := omega) only [go_sem, *] <;> exact rfl) | fail)) (hp : PCall P n args (· = r) := by (first | assumption | (apply_assumption <;> first | assumption | omega) | fail)) (hn : ∀ a ∈ args, NoId a := by (first | (simp (maxSteps := 2000000) only [go_sem, noId_fn, noId_sptr, false_implies, implies_true, *]; done) | (simp [noId_c, noId_agg, noId_snap, noId_tup, noId_fn, noId_sptr, encL_noIdE, *]; done) | fail))
    (hr : run P ops.toList rest (σ.put o.dst true r) = p := by (first | (simp (maxSteps := 2000000) (disch := omega) only [go_sem, *] <;> exact rfl) | fail)) : aops P true ops (o :: rest) σ K := w_callP hop hg hp hc hn hr h

/-- A call that only reads blocks of one's own. -/
theorem FCall.act {n : FuncId} {args0 args : List AV} {a : AV} {H : Heap} (k : Nat) (h : FCall P n args a) (he : args0.map (expoD H.get k) = args) (ha : ∀ a ∈ args, NoId a) : ACall P n args0 H fun r H' => r = a ∧ H' = H :=
  ⟨h.1, fun E W vs hH hr => (h.runR k he ha hH hH.core hr).mono fun e W' ⟨v, hev, L', h1, h2, h3⟩ => ⟨v, hev, _, a, H, h1, h2, h3, rfl, rfl⟩⟩
theorem zcallF {ops : Array Oper} {o : Oper} {rest : List Oper} {K : AS → Prop} {f : Operand} {as : Array Operand} {ts : Array TypeId} {n : FuncId} {args0 args : List AV} {r : AV} {p : AS × List Oper} (h : aops P true ops p.2 p.1 K) (hop : o.op = .call ⟨.value f, as, ts⟩ := by (first | rfl | fail)) (hg : o.guard = none := by (first | rfl | fail))
    (hc : calleeA (σ.get true f) (getsA (σ.get true) as.toList) = some (n, args0) := by (first | (simp (maxSteps := 2000000) (disch := omega) only [go_sem, *] <;> exact rfl) | fail)) (he : args0.map (expoD σ.H.get 3) = args := by (first | (simp (maxSteps := 2000000) (disch := omega) only [go_sem, *] <;> exact rfl) | fail)) (hp : FCall P n args r := by (first | assumption | (apply_assumption <;> first | assumption | omega) | fail)) (hn : ∀ a ∈ args, NoId a := by (first | (simp (maxSteps := 2000000) only [go_sem, noId_fn, noId_sptr, false_implies, implies_true, *]; done) | (simp [noId_c, noId_agg, noId_snap, noId_tup, noId_fn, noId_sptr, encL_noIdE, *]; done) | fail))
    (hr : run P ops.toList rest (σ.put o.dst true r) = p := by (first | (simp (maxSteps := 2000000) (disch := omega) only [go_sem, *] <;> exact rfl) | fail)) : aops P true ops (o :: rest) σ K :=
  w_callA hop hg hc (hp.act 3 he hn) fun r' H' ⟨h1, h2⟩ => by subst h1; subst h2; exact run_ok _ _ hr h
theorem zcallX {ops : Array Oper} {o : Oper} {rest : List Oper} {K : AS → Prop} {f : Operand} {as : Array Operand} {ts : Array TypeId} {n : FuncId} {args0 args : List AV} {r : AV} {G' : Nat → Option Blk} {p : AS × List Oper} (h : aops P true ops p.2 p.1 K) (hop : o.op = .call ⟨.value f, as, ts⟩ := by (first | rfl | fail)) (hg : o.guard = none := by (first | rfl | fail))
    (hc : calleeA (σ.get true f) (getsA (σ.get true) as.toList) = some (n, args0) := by (first | (simp (maxSteps := 2000000) (disch := omega) only [go_sem, *] <;> exact rfl) | fail)) (he : args0.map (expo2 σ.H.get) = args := by (first | (simp (maxSteps := 2000000) (disch := omega) only [go_sem, *] <;> exact rfl) | fail)) (hp : PCall P n args (· = r) := by (first | assumption | (apply_assumption <;> first | assumption | omega) | fail)) (hn : ∀ a ∈ args, NoId a := by (first | (simp (maxSteps := 2000000) only [go_sem, noId_fn, noId_sptr, false_implies, implies_true, *]; done) | (simp [noId_c, noId_agg, noId_snap, noId_tup, noId_fn, noId_sptr, encL_noIdE, *]; done) | fail))
    (hG : frz σ.H.get (idsAll ids2 args0) = G' := by (first | (simp (maxSteps := 2000000) (disch := omega) only [go_sem, *] <;> exact rfl) | fail)) (hr : run P ops.toList rest (({ σ with H := ⟨σ.H.next, G'⟩ } : AS).put o.dst true r) = p := by (first | (simp (maxSteps := 2000000) (disch := omega) only [go_sem, *] <;> exact rfl) | fail)) : aops P true ops (o :: rest) σ K := w_callX hop hg hp hc he hn hG hr h
theorem zcallXG {ops : Array Oper} {o : Oper} {rest : List Oper} {K : AS → Prop} {f : Operand} {as : Array Operand} {ts : Array TypeId} {n : FuncId} {args0 args : List AV} {r : AV} {G' : Nat → Option Blk} {p : AS × List Oper} {j : Nat} {want : Bool} (h : aops P true ops p.2 p.1 K) (hop : o.op = .call ⟨.value f, as, ts⟩ := by (first | rfl | fail)) (hg : o.guard = some (j, want) := by (first | rfl | fail))
    (hw : gcond (gval ops.toList j σ.env) want = some true := by (first | (simp (maxSteps := 2000000) (disch := omega) only [go_sem, *] <;> exact rfl) | fail))
    (hc : calleeA (σ.get true f) (getsA (σ.get true) as.toList) = some (n, args0) := by (first | (simp (maxSteps := 2000000) (disch := omega) only [go_sem, *] <;> exact rfl) | fail)) (he : args0.map (expo2 σ.H.get) = args := by (first | (simp (maxSteps := 2000000) (disch := omega) only [go_sem, *] <;> exact rfl) | fail)) (hp : PCall P n args (· = r) := by (first | assumption | (apply_assumption <;> first | assumption | omega) | fail)) (hn : ∀ a ∈ args, NoId a := by (first | (simp (maxSteps := 2000000) only [go_sem, noId_fn, noId_sptr, false_implies, implies_true, *]; done) | (simp [noId_c, noId_agg, noId_snap, noId_tup, noId_fn, noId_sptr, encL_noIdE, *]; done) | fail))
    (hG : frz σ.H.get (idsAll ids2 args0) = G' := by (first | (simp (maxSteps := 2000000) (disch := omega) only [go_sem, *] <;> exact rfl) | fail)) (hr : run P ops.toList rest (({ σ with H := ⟨σ.H.next, G'⟩ } : AS).put o.dst true r) = p := by (first | (simp (maxSteps := 2000000) (disch := omega) only [go_sem, *] <;> exact rfl) | fail)) : aops P true ops (o :: rest) σ K := w_callXG hop hg hp hw hc he hn hG hr h
theorem zcallO {ops : Array Oper} {o : Oper} {rest : List Oper} {K : AS → Prop} {f : Operand} {as : Array Operand} {ts : Array TypeId} {n : FuncId} {args : List AV} {el : TypeId} {k : Nat} {rows : List (List AV)} {p : AS × List Oper} (h : aops P true ops p.2 p.1 K) (hop : o.op = .call ⟨.value f, as, ts⟩ := by (first | rfl | fail)) (hg : o.guard = none := by (first | rfl | fail))
    (hc : calleeA (σ.get true f) (getsA (σ.get true) as.toList) = some (n, args) := by (first | (simp (maxSteps := 2000000) (disch := omega) only [go_sem, *] <;> exact rfl) | fail)) (hp : OCall P n args el k rows := by (first | assumption | (apply_assumption <;> first | assumption | omega) | fail))
    (hr : run P ops.toList rest (({ σ with H := ⟨σ.H.next + 1, upd σ.H.get [(σ.H.next, some (.cells el k rows true true))]⟩ } : AS).put o.dst true (.own σ.H.next 0 rows.length)) = p := by (first | (simp (maxSteps := 2000000) (disch := omega) only [go_sem, *] <;> exact rfl) | fail)) : aops P true ops (o :: rest) σ K := w_callO hop hg hp hc hr h

theorem zcallG {ops : Array Oper} {o : Oper} {rest : List Oper} {K : AS → Prop} {f : Operand} {as : Array Operand} {ts : Array TypeId} {n : FuncId} {args : List AV} {r : AV} {p : AS × List Oper} {j : Nat} {want c : Bool} (h : aops P true ops p.2 p.1 K) (hop : o.op = .call ⟨.value f, as, ts⟩ := by (first | rfl | fail)) (hg : o.guard = some (j, want) := by (first | rfl | fail))
    (hw : gcond (gval ops.toList j σ.env) want = some c := by (first | (simp (maxSteps := 2000000) (disch := omega) only [go_sem, *] <;> exact rfl) | fail)) (hc : calleeA (σ.get c f) (getsA (σ.get c) as.toList) = some (n, args) := by (first | (simp (maxSteps := 2000000) (disch := omega) only [go_sem, *] <;> exact rfl) | fail)) (hp : PCall P n args (· = r) := by (first | assumption | (apply_assumption <;> first | assumption | omega) | fail)) (hn : ∀ a ∈ args, NoId a := by (first | (simp (maxSteps := 2000000) only [go_sem, noId_fn, noId_sptr, false_implies, implies_true, *]; done) | (simp [noId_c, noId_agg, noId_snap, noId_tup, noId_fn, noId_sptr, encL_noIdE, *]; done) | fail)) (hr : run P ops.toList rest (σ.put o.dst c r) = p := by (first | (simp (maxSteps := 2000000) (disch := omega) only [go_sem, *] <;> exact rfl) | fail)) : aops P true ops (o :: rest) σ K := w_callG hop hg hw hp hc hn hr h
theorem zrun {ops : Array Oper} {l : List Oper} {K : AS → Prop} {p : AS × List Oper} (h : aops P true ops p.2 p.1 K) (hr : run P ops.toList l σ = p := by (first | (simp (maxSteps := 2000000) (disch := omega) only [go_sem, *] <;> exact rfl) | fail)) (hlt : Nat.blt p.2.length l.length = true := by (first | rfl | fail)) : aops P true ops l σ K := run_ok _ _ hr h
/-- A callee that is entered in place. -/
theorem zin {ops : Array Oper} {o : Oper} {rest : List Oper} {K : AS → Prop} {f : Operand} {as : Array Operand} {ts : Array TypeId} {n : FuncId} {fn : Func} {c : Code} {args : List AV} {nt : Nat} {rs : List ResultVar} (hf : P.funcs[n]? = some fn) (hnt : fn.ntmps = nt)
    (h : AW P c ⟨envOf 0 args, σ.H, nt⟩ (hold (endA P rs (hold (fun a H' => aops P true ops rest (({ σ with H := H' } : AS).put o.dst true a) K) ⟨⟩)) ⟨⟩))
    (hop : o.op = .call ⟨.value f, as, ts⟩ := by (first | rfl | fail)) (hg : o.guard = none := by (first | rfl | fail)) (hc : calleeA (σ.get true f) (getsA (σ.get true) as.toList) = some (n, args) := by (first | (simp (maxSteps := 2000000) (disch := omega) only [go_sem, *] <;> exact rfl) | fail))
    (hb : fn.body = some c := by rfl) (hr : fn.results = List.toArray rs := by rfl) (hnm : (fn.name == "runtime.NumGoroutine") = false := by kernel_rfl) (hlen : args.length ≤ nt := by (simp only [List.length_cons, List.length_nil]; decide)) : aops P true ops (o :: rest) σ K :=
  w_callI hf hb hnm hnt hop hg hc hlen (by rw [hr]; exact h)
/-- A call that only reads; it answers a new slice. -/
theorem FOCall.act {n : FuncId} {args0 args : List AV} {a : AV} {el : TypeId} {k : Nat} {rows : List (List AV)} {ap : Bool} {H : Heap} (kk : Nat) (h : FOCall P n args a el k rows ap) (he : args0.map (expoD H.get kk) = args) (ha : ∀ a ∈ args, NoId a) : ACall P n args0 H fun r H' => r = renO H.next a ∧ H' = ⟨H.next + 1, upd H.get [(H.next, some (.cells el k rows true ap))]⟩ :=
  ⟨h.1, fun E W vs hH hr => (h.run kk he ha (fun hU => Nat.lt_irrefl _ (hH.next _ hU)) hH hH.core hr).mono fun e W' ⟨v, hev, E', h1, h2, h3, h4⟩ => ⟨v, hev, E', _, _, h1, ⟨fun id hid => by
    rcases h4 id hid with h5 | h5
    · exact Nat.lt_succ_of_lt (hH.next id h5)
    · subst h5; exact Nat.lt_succ_self _, h2⟩, h3, rfl, rfl⟩⟩
theorem zcallRO {ops : Array Oper} {o : Oper} {rest : List Oper} {K : AS → Prop} {f : Operand} {as : Array Operand} {ts : Array TypeId} {n : FuncId} {args0 args : List AV} {a : AV} {el : TypeId} {k : Nat} {rows : List (List AV)} {ap : Bool} {p : AS × List Oper} (h : aops P true ops p.2 p.1 K) (hop : o.op = .call ⟨.value f, as, ts⟩ := by (first | rfl | fail)) (hg : o.guard = none := by (first | rfl | fail))
    (hc : calleeA (σ.get true f) (getsA (σ.get true) as.toList) = some (n, args0) := by (first | (simp (maxSteps := 2000000) (disch := omega) only [go_sem, *] <;> exact rfl) | fail)) (he : args0.map (expoD σ.H.get 3) = args := by (first | (simp (maxSteps := 2000000) (disch := omega) only [go_sem, *] <;> exact rfl) | fail)) (hp : FOCall P n args a el k rows ap := by (first | assumption | (apply_assumption <;> first | assumption | omega) | fail)) (hn : ∀ a ∈ args, NoId a := by (first | (simp (maxSteps := 2000000) only [go_sem, noId_fn, noId_sptr, false_implies, implies_true, *]; done) | (simp [noId_c, noId_agg, noId_snap, noId_tup, noId_fn, noId_sptr, encL_noIdE, *]; done) | fail))
    (hr : run P ops.toList rest (({ σ with H := ⟨σ.H.next + 1, upd σ.H.get [(σ.H.next, some (.cells el k rows true ap))]⟩ } : AS).put o.dst true (renO σ.H.next a)) = p := by (first | (simp (maxSteps := 2000000) (disch := omega) only [go_sem, *] <;> exact rfl) | fail)) : aops P true ops (o :: rest) σ K :=
  w_callA hop hg hc (hp.act 3 he hn) fun r' H' ⟨h1, h2⟩ => by subst h1; subst h2; exact run_ok _ _ hr h
theorem datO_c {G : Nat → Option Blk} {kk j : Nat} {v : Value} : datO G kk j (.c v) = some (.c v) := by
  cases kk <;> simp [datO, fresh, kB, expoD, noIdB, idsD]
theorem rowO_c {G : Nat → Option Blk} {kk j : Nat} : ∀ {r : List AV}, (∀ x ∈ r, ∃ v, x = .c v) → rowO G kk j r = some r
  | [], _ => rfl
  | x :: r, h => by
    obtain ⟨v, rfl⟩ := h x (by simp)
    simp only [rowO, datO_c, rowO_c (r := r) fun y hy => h y (by simp [hy])]
theorem rowsO_c {G : Nat → Option Blk} {kk j : Nat} : ∀ {rows : List (List AV)}, (∀ r ∈ rows, ∀ x ∈ r, ∃ v, x = .c v) → rowsO G kk j rows = some rows
  | [], _ => rfl
  | r :: rows, h => by simp only [rowsO, rowO_c (h r (by simp)), rowsO_c (rows := rows) fun y hy => h y (by simp [hy])]
/-- A function that only reads and answers a new slice of constants. -/
theorem fostart {n : FuncId} {fn : Func} {c : Code} {args : List AV} {e : TypeId} {k : Nat} {rows : List (List AV)} {rs : List ResultVar} {nt : Nat} (hf : P.funcs[n]? = some fn) (hnt : fn.ntmps = nt) (hrows : ∀ row ∈ rows, ∀ x ∈ row, ∃ v, x = .c v)
    (h : AW P c ⟨envOf 0 args, ⟨0, tabG []⟩, nt⟩ (hold (endA P rs (hold (fun a H' => ∃ i, a = .own i 0 rows.length ∧ H'.get i = some (.cells e k rows true true)) ⟨⟩)) ⟨⟩))
    (hb : fn.body = some c := by rfl) (hr : fn.results = List.toArray rs := by rfl) (hnm : (fn.name == "runtime.NumGoroutine") = false := by kernel_rfl) (hlen : args.length ≤ nt := by (simp only [List.length_cons, List.length_nil]; decide)) : FOCall P n args (.own 0 0 rows.length) e k rows true := by
  have hl : args.length ≤ fn.ntmps := by rw [hnt]; exact hlen
  refine focallD (f := ⟨.own 0 0 rows.length, e, k, rows, true⟩) 8 hf hb hnm hl ((acall (Q := fun a H' => ∃ i, a = .own i 0 rows.length ∧ H'.get i = some (.cells e k rows true true)) hf hb hnm hl (by rw [hnt, hr]; exact h)).mono fun r H' ⟨i, h1, h2⟩ => ?_)
  subst h1
  simp only [foOf, ownO, h2, mkO, rowsO_c hrows, resO, compO, Nat.beq_refl, cond]
theorem FOCall.nil {n : FuncId} {pre post : List AV} {a : AV} {el : TypeId} {k : Nat} {rows : List (List AV)} {ap : Bool} (h : ∀ b cap, FOCall P n (pre ++ .c (.slice b 0 cap) :: post) a el k rows ap) : FOCall P n (pre ++ .snap [] :: post) a el k rows ap :=
  ⟨(h none 0).1, fun L W vs hL hr => let ⟨b, cap, hx⟩ := rvs_nil hr; (h b cap).2 L W vs hL hx⟩
theorem FOCall.less {n : FuncId} {as bs : List AV} {a : AV} {el : TypeId} {k : Nat} {rows : List (List AV)} {ap : Bool} (h : FOCall P n bs a el k rows ap) (hw : Wks as bs) : FOCall P n as a el k rows ap :=
  ⟨h.1, fun L W vs hL hr => h.2 L W vs hL (hr.wk hw)⟩
/-- Both ways of a test lead to one state. -/
theorem zmerge {c : Operand} {x y z : Code} {Q2 : Exit → AS → Prop} (env : List (Nat × Bool × AV)) (m : Nat) (T : List (Nat × Option Blk)) (h1 : AW P (.cond c x y) σ (fun e σ' => e = .normal ∧ Holds σ' env ⟨m, tabG T⟩)) (h2 : AW P z ⟨env, ⟨m, tabG T⟩, σ.nt⟩ Q2) : AW P (.cond c x y) σ (thenA (fun σ' => AW P z σ' Q2) Q) := fun ro E0 W act hro hr =>
  wpIn_mono (h1 ro E0 W act hro hr) fun e a w ⟨E', σ', h3, h4, h5, h6, h7⟩ => by
    subst h6
    exact ⟨E', σ', h3, h4, h5, aw_less h7 (by rw [h5]; exact h2)⟩
/-- A function that is walked from blocks of the caller's. -/
theorem astart {n : FuncId} {fn : Func} {c : Code} {args : List AV} {H : Heap} {R : AV → Heap → Prop} {rs : List ResultVar} {nt : Nat} (hf : P.funcs[n]? = some fn) (hnt : fn.ntmps = nt)
    (h : AW P c ⟨envOf 0 args, H, nt⟩ (hold (endA P rs (hold R ⟨⟩)) ⟨⟩))
    (hb : fn.body = some c := by rfl) (hr : fn.results = List.toArray rs := by rfl) (hnm : (fn.name == "runtime.NumGoroutine") = false := by kernel_rfl) (hlen : args.length ≤ nt := by (simp only [List.length_cons, List.length_nil]; decide)) : ACall P n args H R := by
  refine acall hf hb hnm (by rw [hnt]; exact hlen) ?_
  rw [hnt, hr]
  exact h
/-- A loop with a measure. -/
theorem zwhile {α : Type} {c : Code} (E : α → List (Nat × Bool × AV)) (T : α → List (Nat × Option Blk)) (R : Nat → α → Prop) (μ : α → Nat) (a0 : α) (h0 : ∃ m, R m a0 ∧ Holds σ (E a0) ⟨m, tabG (T a0)⟩)
    (hk : ∀ m a, R m a → AW P c ⟨E a, ⟨m, tabG (T a)⟩, σ.nt⟩ (thenA (fun σ' => ∃ m' a', μ a' < μ a ∧ R m' a' ∧ Holds σ' (E a') ⟨m', tabG (T a')⟩) Q)) : AW P (.loop c) σ Q := by
  obtain ⟨m, hR, hh⟩ := h0
  refine w_loop (fun n env H => ∃ m a, n = μ a ∧ R m a ∧ env = E a ∧ H = ⟨m, tabG (T a)⟩) (μ a0) ⟨_, _, ⟨m, a0, rfl, hR, rfl, rfl⟩, hh⟩ ?_
  rintro n env H ⟨m, a, rfl, hR', rfl, rfl⟩
  have h1 := hk m a hR'
  intro ro E0 W act hro hrel
  refine wpIn_mono (h1 ro E0 W act hro hrel) fun e a' w ⟨E', σ', h2, h3, h4, h5⟩ => ⟨E', σ', h2, h3, h4, ?_⟩
  cases e with
  | normal =>
    obtain ⟨m', a'', h8, h6, h7⟩ := h5
    exact ⟨μ a'', h8, _, _, ⟨m', a'', rfl, h6, rfl, rfl⟩, h7⟩
  | _ => exact h5
/-- What simp does not use. -/
structure Eqv {α : Type} (a b : α) : Type where
  out : a = b
theorem zrange {g : Operand} {ps : Array Tmp} {assign body : Code} {n : FuncId} {fn : Func} {c : Code} {first cap : List AV} {nt : Nat} {args : List AV} {rs : List ResultVar} (hf : P.funcs[n]? = some fn) (hnt : fn.ntmps = nt)
    (h : ∀ R A B, Eqv R σ.env → Eqv A assign → Eqv B body → AW P c ⟨envOf 0 args, setB ⟨σ.H.next + 1, σ.H.get⟩ σ.H.next (some (.rcd R σ.nt ps.toList A B .ready none)), nt⟩
      (hold (endA P rs (hold (fun _ H' => rfK σ.H.next R σ.nt ps.toList A B (hold (fun e H2 => Q e ({ σ with H := H2 } : AS)) ⟨⟩) H') ⟨⟩)) ⟨⟩))
    (hg : σ.get true g = some (.fn (.func n) first cap) := by (first | (simp (maxSteps := 2000000) (disch := omega) only [go_sem, *] <;> exact rfl) | fail)) (ha : first ++ [AV.yld σ.H.next] ++ cap = args := by (first | (simp (maxSteps := 2000000) (disch := omega) only [go_sem, *] <;> exact rfl) | fail))
    (hb : fn.body = some c := by rfl) (hr : fn.results = List.toArray rs := by rfl) (hnm : (fn.name == "runtime.NumGoroutine") = false := by kernel_rfl) (hlen : args.length ≤ nt := by (simp only [List.length_cons, List.length_nil]; decide)) : AW P (.rangeFunc g ps assign body) σ Q :=
  w_rangeF hf hb hnm hnt hg ha hlen fun R A B hR hA hB => by rw [hr]; exact h R A B ⟨hR⟩ ⟨hA⟩ ⟨hB⟩
theorem zyield {ops : Array Oper} {o : Oper} {rest : List Oper} {K : AS → Prop} {f : Operand} {as : Array Operand} {ts : Array TypeId} {id : Nat} {args : List AV} {env env' : List (Nat × Bool × AV)} {nt : Nat} {ps : List Tmp} {A A' B : Code}
    (h : AW P A' ⟨bindPs ps args env', σ.H, nt⟩ (hold (endAsA P id env nt ps A B (hold (fun b H' => aops P true ops rest (({ σ with H := H' } : AS).put o.dst true (.c (.bool b))) K) ⟨⟩)) ⟨⟩))
    (hop : o.op = .call ⟨.value f, as, ts⟩ := by (first | rfl | fail)) (hg : o.guard = none := by (first | rfl | fail)) (hf : σ.get true f = some (.yld id) := by (first | (simp (maxSteps := 2000000) (disch := omega) only [go_sem, *] <;> exact rfl) | fail)) (ha : getsA (σ.get true) as.toList = some args := by (first | (simp (maxSteps := 2000000) (disch := omega) only [go_sem, *] <;> exact rfl) | fail)) (hr : σ.H.get id = some (.rcd env nt ps A B .ready none) := by (first | (simp (maxSteps := 2000000) (disch := omega) only [go_sem, *] <;> exact rfl) | fail))
    (he : Eqv env env' := by (first | assumption | fail)) (hA : Eqv A A' := by (first | assumption | fail)) (hl : args.length = ps.length := by (first | rfl | fail)) (hps : ps.all (fun p => decide (p < nt)) = true := by (first | rfl | fail)) : aops P true ops (o :: rest) σ K := w_yield hop hg he.out hA.out hf ha hr hl hps h
theorem zyieldG {ops : Array Oper} {o : Oper} {rest : List Oper} {K : AS → Prop} {f : Operand} {as : Array Operand} {ts : Array TypeId} {id : Nat} {args : List AV} {env env' : List (Nat × Bool × AV)} {nt : Nat} {ps : List Tmp} {A A' B : Code} {j : Nat} {want : Bool}
    (h : AW P A' ⟨bindPs ps args env', σ.H, nt⟩ (hold (endAsA P id env nt ps A B (hold (fun b H' => aops P true ops rest (({ σ with H := H' } : AS).put o.dst true (.c (.bool b))) K) ⟨⟩)) ⟨⟩))
    (hop : o.op = .call ⟨.value f, as, ts⟩ := by (first | rfl | fail)) (hg : o.guard = some (j, want) := by (first | rfl | fail)) (hw : gcond (gval ops.toList j σ.env) want = some true := by (first | (simp (maxSteps := 2000000) (disch := omega) only [go_sem, *] <;> exact rfl) | fail)) (hf : σ.get true f = some (.yld id) := by (first | (simp (maxSteps := 2000000) (disch := omega) only [go_sem, *] <;> exact rfl) | fail)) (ha : getsA (σ.get true) as.toList = some args := by (first | (simp (maxSteps := 2000000) (disch := omega) only [go_sem, *] <;> exact rfl) | fail)) (hr : σ.H.get id = some (.rcd env nt ps A B .ready none) := by (first | (simp (maxSteps := 2000000) (disch := omega) only [go_sem, *] <;> exact rfl) | fail))
    (he : Eqv env env' := by (first | assumption | fail)) (hA : Eqv A A' := by (first | assumption | fail)) (hl : args.length = ps.length := by (first | rfl | fail)) (hps : ps.all (fun p => decide (p < nt)) = true := by (first | rfl | fail)) : aops P true ops (o :: rest) σ K := w_yieldG hop hg he.out hA.out hw hf ha hr hl hps h
theorem zendAs {id : Nat} {env : List (Nat × Bool × AV)} {nt : Nat} {ps : List Tmp} {A B B' : Code} {K : Bool → Heap → Prop} (h : AW P B' ⟨σ.env, setB σ.H id (some (.rcd env nt ps A B .busy none)), σ.nt⟩ (hold (endBodyA id env nt ps A B K) ⟨⟩))
    (hB : Eqv B B' := by (first | assumption | fail)) (hg : σ.H.get id = some (.rcd env nt ps A B .ready none) := by (first | rfl | (simp (maxSteps := 2000000) (disch := omega) only [go_sem, *]; done) | (simp (maxSteps := 2000000) (disch := omega) only [go_sem, *] <;> rfl) | fail)) : endAsA P id env nt ps A B K .normal σ := w_endAs hB.out hg h
section
variable {id : Nat} {env : List (Nat × Bool × AV)} {nt : Nat} {ps : List Tmp} {A B : Code} {ops : Array Oper} {rest : List Oper} {σ0 : AS} {dst : Option Tmp} {K : AS → Prop} {p : AS × List Oper}
theorem zendBN (h : aops P true ops p.2 p.1 K) (hg : σ.H.get id = some (.rcd env nt ps A B .busy none) := by (first | rfl | (simp (maxSteps := 2000000) (disch := omega) only [go_sem, *]; done) | (simp (maxSteps := 2000000) (disch := omega) only [go_sem, *] <;> rfl) | fail)) (hr : run P ops.toList rest (({ σ0 with H := setB σ.H id (some (.rcd env nt ps A B .ready none)) } : AS).put dst true (.c (.bool true))) = p := by (first | (simp (maxSteps := 2000000) (disch := omega) only [go_sem, *] <;> exact rfl) | fail)) :
    endBodyA id env nt ps A B (hold (fun b H' => aops P true ops rest (({ σ0 with H := H' } : AS).put dst true (.c (.bool b))) K) ⟨⟩) .normal σ := w_endBN hg hr h
theorem zendBR (h : aops P true ops p.2 p.1 K) (hg : σ.H.get id = some (.rcd env nt ps A B .busy none) := by (first | rfl | (simp (maxSteps := 2000000) (disch := omega) only [go_sem, *]; done) | (simp (maxSteps := 2000000) (disch := omega) only [go_sem, *] <;> rfl) | fail)) (hr : run P ops.toList rest (({ σ0 with H := setB σ.H id (some (.rcd env nt ps A B .done (some .ret))) } : AS).put dst true (.c (.bool false))) = p := by (first | (simp (maxSteps := 2000000) (disch := omega) only [go_sem, *] <;> exact rfl) | fail)) :
    endBodyA id env nt ps A B (hold (fun b H' => aops P true ops rest (({ σ0 with H := H' } : AS).put dst true (.c (.bool b))) K) ⟨⟩) .ret σ := w_endBR hg hr h
theorem zendBE {i : Nat} (h : aops P true ops p.2 p.1 K) (hg : σ.H.get id = some (.rcd env nt ps A B .busy none) := by (first | rfl | (simp (maxSteps := 2000000) (disch := omega) only [go_sem, *]; done) | (simp (maxSteps := 2000000) (disch := omega) only [go_sem, *] <;> rfl) | fail)) (hr : run P ops.toList rest (({ σ0 with H := setB σ.H id (some (.rcd env nt ps A B .done (some (.exit i)))) } : AS).put dst true (.c (.bool false))) = p := by (first | (simp (maxSteps := 2000000) (disch := omega) only [go_sem, *] <;> exact rfl) | fail)) :
    endBodyA id env nt ps A B (hold (fun b H' => aops P true ops rest (({ σ0 with H := H' } : AS).put dst true (.c (.bool b))) K) ⟨⟩) (.exit i) σ := w_endBE hg hr h
end
section
variable {rs : List ResultVar} {a : AV} {id : Nat} {env : List (Nat × Bool × AV)} {nt : Nat} {ps : List Tmp} {A B : Code} {σ0 : AS}
theorem zendFN (h : Q .normal ({ σ0 with H := setB σ.H id none } : AS)) (ho : outA P σ rs = some a := by (first | (simp (maxSteps := 2000000) (disch := omega) only [go_sem, *] <;> exact rfl) | fail)) (hg : σ.H.get id = some (.rcd env nt ps A B .ready none) := by (first | rfl | (simp (maxSteps := 2000000) (disch := omega) only [go_sem, *]; done) | (simp (maxSteps := 2000000) (disch := omega) only [go_sem, *] <;> rfl) | fail)) :
    endA P rs (hold (fun _ H' => rfK id env nt ps A B (hold (fun e H2 => Q e ({ σ0 with H := H2 } : AS)) ⟨⟩) H') ⟨⟩) .normal σ := w_endFN ho hg h
theorem zendFr (h : Q .normal ({ σ0 with H := setB σ.H id none } : AS)) (ho : outA P σ rs = some a := by (first | (simp (maxSteps := 2000000) (disch := omega) only [go_sem, *] <;> exact rfl) | fail)) (hg : σ.H.get id = some (.rcd env nt ps A B .ready none) := by (first | rfl | (simp (maxSteps := 2000000) (disch := omega) only [go_sem, *]; done) | (simp (maxSteps := 2000000) (disch := omega) only [go_sem, *] <;> rfl) | fail)) :
    endA P rs (hold (fun _ H' => rfK id env nt ps A B (hold (fun e H2 => Q e ({ σ0 with H := H2 } : AS)) ⟨⟩) H') ⟨⟩) .ret σ := w_endFr ho hg h
theorem zendFRn (h : Q .ret ({ σ0 with H := setB σ.H id none } : AS)) (ho : outA P σ rs = some a := by (first | (simp (maxSteps := 2000000) (disch := omega) only [go_sem, *] <;> exact rfl) | fail)) (hg : σ.H.get id = some (.rcd env nt ps A B .done (some .ret)) := by (first | rfl | (simp (maxSteps := 2000000) (disch := omega) only [go_sem, *]; done) | (simp (maxSteps := 2000000) (disch := omega) only [go_sem, *] <;> rfl) | fail)) :
    endA P rs (hold (fun _ H' => rfK id env nt ps A B (hold (fun e H2 => Q e ({ σ0 with H := H2 } : AS)) ⟨⟩) H') ⟨⟩) .normal σ := w_endFRn ho hg h
theorem zendFR (h : Q .ret ({ σ0 with H := setB σ.H id none } : AS)) (ho : outA P σ rs = some a := by (first | (simp (maxSteps := 2000000) (disch := omega) only [go_sem, *] <;> exact rfl) | fail)) (hg : σ.H.get id = some (.rcd env nt ps A B .done (some .ret)) := by (first | rfl | (simp (maxSteps := 2000000) (disch := omega) only [go_sem, *]; done) | (simp (maxSteps := 2000000) (disch := omega) only [go_sem, *] <;> rfl) | fail)) :
    endA P rs (hold (fun _ H' => rfK id env nt ps A B (hold (fun e H2 => Q e ({ σ0 with H := H2 } : AS)) ⟨⟩) H') ⟨⟩) .ret σ := w_endFR ho hg h
theorem zendFEn {i : Nat} (h : Q (.exit i) ({ σ0 with H := setB σ.H id none } : AS)) (ho : outA P σ rs = some a := by (first | (simp (maxSteps := 2000000) (disch := omega) only [go_sem, *] <;> exact rfl) | fail)) (hg : σ.H.get id = some (.rcd env nt ps A B (.done) (some (.exit i))) := by (first | rfl | (simp (maxSteps := 2000000) (disch := omega) only [go_sem, *]; done) | (simp (maxSteps := 2000000) (disch := omega) only [go_sem, *] <;> rfl) | fail)) :
    endA P rs (hold (fun _ H' => rfK id env nt ps A B (hold (fun e H2 => Q e ({ σ0 with H := H2 } : AS)) ⟨⟩) H') ⟨⟩) .normal σ := w_endFEn ho hg h
theorem zendFE {i : Nat} (h : Q (.exit i) ({ σ0 with H := setB σ.H id none } : AS)) (ho : outA P σ rs = some a := by (first | (simp (maxSteps := 2000000) (disch := omega) only [go_sem, *] <;> exact rfl) | fail)) (hg : σ.H.get id = some (.rcd env nt ps A B (.done) (some (.exit i))) := by (first | rfl | (simp (maxSteps := 2000000) (disch := omega) only [go_sem, *]; done) | (simp (maxSteps := 2000000) (disch := omega) only [go_sem, *] <;> rfl) | fail)) :
    endA P rs (hold (fun _ H' => rfK id env nt ps A B (hold (fun e H2 => Q e ({ σ0 with H := H2 } : AS)) ⟨⟩) H') ⟨⟩) .ret σ := w_endFE ho hg h
end
/-- Operations behind a guard. -/
theorem zgF {ops : Array Oper} {o : Oper} {rest : List Oper} {K : AS → Prop} {p q : AS × List Oper} {j : Nat} {want : Bool} (h : aops P true ops q.2 q.1 K) (hg : o.guard = some (j, want) := by (first | rfl | fail))
    (hw : gcond (gval ops.toList j σ.env) want = some false := by (first | (simp (maxSteps := 2000000) (disch := omega) only [go_sem, *] <;> exact rfl) | fail)) (hs : skipF ops.toList rest (σ.put o.dst false (.c (.bool false))) = some p := by (first | (simp (maxSteps := 2000000) (disch := omega) only [go_sem, *] <;> exact rfl) | fail)) (hr : run P ops.toList p.2 p.1 = q := by (first | (simp (maxSteps := 2000000) (disch := omega) only [go_sem, *] <;> exact rfl) | fail)) : aops P true ops (o :: rest) σ K := w_gF hg hw hs hr h
theorem zpick {ops : Array Oper} {o : Oper} {rest : List Oper} {K : AS → Prop} {p : AS × List Oper} {b x y : Operand} {b0 : Bool} {a : AV} (h : aops P true ops p.2 p.1 K) (hop : o.op = .pick b x y := by (first | rfl | fail)) (hg : o.guard = none := by (first | rfl | fail))
    (hb : asB (σ.get true b) = some b0 := by (first | (simp (maxSteps := 2000000) (disch := omega) only [go_sem, *] <;> exact rfl) | fail)) (hn : pairB (asB (σ.get b0 x)) (asB (σ.get (!b0) y)) = none := by (first | (simp (maxSteps := 2000000) (disch := omega) only [go_sem, *] <;> exact rfl) | fail)) (ha : σ.get true (cond b0 x y) = some a := by (first | (simp (maxSteps := 2000000) (disch := omega) only [go_sem, *] <;> exact rfl) | fail)) (hr : run P ops.toList rest (σ.put o.dst true a) = p := by (first | (simp (maxSteps := 2000000) (disch := omega) only [go_sem, *] <;> exact rfl) | fail)) : aops P true ops (o :: rest) σ K := w_pick hop hg hb hn ha hr h
theorem zgT {ops : Array Oper} {o : Oper} {rest : List Oper} {K : AS → Prop} {p : AS × List Oper} {j : Nat} {want : Bool} {a : AV} {wr : List (Nat × Option Blk)} {rd : List Nat} (h : aops P true ops p.2 p.1 K) (hop : plainOp o.op = true := by (first | rfl | fail)) (hg : o.guard = some (j, want) := by (first | rfl | fail))
    (hw : gcond (gval ops.toList j σ.env) want = some true := by (first | (simp (maxSteps := 2000000) (disch := omega) only [go_sem, *] <;> exact rfl) | fail)) (hres : res P (σ.get true) σ.H.get σ.H.next o = some (a, wr, rd) := by (first | (simp (maxSteps := 2000000) (disch := omega) only [go_sem, *] <;> exact rfl) | fail)) (hr : run P ops.toList rest (({ σ with H := σ.H.app wr } : AS).put o.dst true a) = p := by (first | (simp (maxSteps := 2000000) (disch := omega) only [go_sem, *] <;> exact rfl) | fail)) : aops P true ops (o :: rest) σ K := w_gT hop hg hw hres hr h

/-- A loop that goes from 0 to N. -/
theorem zfor {α : Type} {c : Code} (N : Nat) (E : Nat → α → List (Nat × Bool × AV)) (T : Nat → α → List (Nat × Option Blk)) (R : Nat → Nat → α → Prop) (h0 : ∃ m a, R 0 m a ∧ Holds σ (E 0 a) ⟨m, tabG (T 0 a)⟩)
    (hk : ∀ k m a, k < N → R k m a → AW P c ⟨E k a, ⟨m, tabG (T k a)⟩, σ.nt⟩ (thenA (fun σ' => ∃ m' a', R (k + 1) m' a' ∧ Holds σ' (E (k + 1) a') ⟨m', tabG (T (k + 1) a')⟩) Q))
    (hN : ∀ m a, R N m a → AW P c ⟨E N a, ⟨m, tabG (T N a)⟩, σ.nt⟩ (thenA (fun _ => False) Q)) : AW P (.loop c) σ Q := by
  obtain ⟨m, a, hR, hh⟩ := h0
  refine w_loop (fun n env H => ∃ k m a, n = N - k ∧ k ≤ N ∧ R k m a ∧ env = E k a ∧ H = ⟨m, tabG (T k a)⟩) N ⟨_, _, ⟨0, m, a, by omega, by omega, hR, rfl, rfl⟩, hh⟩ ?_
  rintro n env H ⟨k, m, a, rfl, hk', hR', rfl, rfl⟩
  by_cases hlt : k < N
  · have h1 := hk k m a hlt hR'
    intro ro E0 W act hro hrel
    refine wpIn_mono (h1 ro E0 W act hro hrel) fun e a' w ⟨E', σ', h2, h3, h4, h5⟩ => ⟨E', σ', h2, h3, h4, ?_⟩
    cases e with
    | normal =>
      obtain ⟨m', a'', h6, h7⟩ := h5
      exact ⟨N - (k + 1), by omega, _, _, ⟨k + 1, m', a'', rfl, by omega, h6, rfl, rfl⟩, h7⟩
    | _ => exact h5
  · obtain rfl : k = N := by omega
    have h1 := hN m a hR'
    intro ro E0 W act hro hrel
    refine wpIn_mono (h1 ro E0 W act hro hrel) fun e a' w ⟨E', σ', h2, h3, h4, h5⟩ => ⟨E', σ', h2, h3, h4, ?_⟩
    cases e with
    | normal => exact h5.elim
    | _ => exact h5
/-- The same, where the blocks stay as they are. -/
theorem zfor1 {c : Code} (N M : Nat) (T : List (Nat × Option Blk)) (E : Nat → List (Nat × Bool × AV)) (h0 : Holds σ (E 0) ⟨M, tabG T⟩)
    (hk : ∀ k m, k < N → M ≤ m → AW P c ⟨E k, ⟨m, tabG T⟩, σ.nt⟩ (thenA (fun σ' => ∃ m', M ≤ m' ∧ Holds σ' (E (k + 1)) ⟨m', tabG T⟩) Q))
    (hN : ∀ m, M ≤ m → AW P c ⟨E N, ⟨m, tabG T⟩, σ.nt⟩ (thenA (fun _ => False) Q)) : AW P (.loop c) σ Q := by
  refine zfor (α := Unit) N (fun k _ => E k) (fun _ _ => T) (fun _ m _ => M ≤ m) ⟨M, (), Nat.le_refl _, h0⟩ (fun k m _ hlt hm => ?_) (fun m _ hm => hN m hm)
  have h1 := hk k m hlt hm
  intro ro E0 W act hro hrel
  refine wpIn_mono (h1 ro E0 W act hro hrel) fun e a' w ⟨E', σ', h2, h3, h4, h5⟩ => ⟨E', σ', h2, h3, h4, ?_⟩
  cases e with
  | normal => obtain ⟨m', h6, h7⟩ := h5; exact ⟨m', (), h6, h7⟩
  | _ => exact h5
end
attribute [go_sem] renO renO1 expoD idsD List.flatMap_cons List.flatMap_nil
theorem zeq {α : Type} {a b : α} (w : a = b := by (first | rfl | (simp (disch := omega) only [go_sem, *]; done) | (simp (disch := omega) only [go_sem, *]; rfl))) : a = b := w
theorem zholds {σ : AS} {env : List (Nat × Bool × AV)} {H : Heap} (w : Holds σ env H := by
    ((repeat (refine holds_cons (by first | rfl | (simp (disch := omega) only [go_sem, *]; done) | (simp (disch := omega) only [go_sem, *]; rfl)) ?_)); (refine holds_nil (by simp only []; omega) ?_); (first | exact (fun _ _ h => h) | ((repeat (first | refine sub_cons (by first | rfl | (simp (disch := omega) only [go_sem, *]; done) | (simp (disch := omega) only [go_sem, *]; rfl)) ?_ | refine sub_none ?_)); exact sub_nil)))) : Holds σ env H := w
section
variable {P : Program} {σ : AS}
theorem ACall.wider {n : FuncId} {args : List AV} {H0 : Heap} {R : AV → Heap → Prop} (h : ACall P n args H0 R) (hH : Holds σ [] H0) : ACall P n args σ.H R :=
  ⟨h.1, fun E W vs hW hr => h.2 E W vs ⟨fun id hid => Nat.lt_of_lt_of_le (hW.next id hid) hH.next, hW.core.weaker fun id b hb => ⟨b, hH.get id b hb, Blk.le_refl b⟩⟩ hr⟩
/-- A call with a contract over blocks. -/
theorem zact {ops : Array Oper} {o : Oper} {rest : List Oper} {K : AS → Prop} {f : Operand} {as : Array Operand} {ts : Array TypeId} {n : FuncId} {args : List AV} {R : AV → Heap → Prop} {H0 : Heap} (hp : ACall P n args H0 R) (h : ∀ r H', R r H' → aops P true ops rest (({ σ with H := H' } : AS).put o.dst true r) K)
    (hop : o.op = .call ⟨.value f, as, ts⟩ := by (first | rfl | fail)) (hg : o.guard = none := by (first | rfl | fail)) (hc : calleeA (σ.get true f) (getsA (σ.get true) as.toList) = some (n, args) := by (first | (simp (maxSteps := 2000000) (disch := omega) only [go_sem, *] <;> exact rfl) | fail)) (hH : Holds σ [] H0 := by exact zholds) : aops P true ops (o :: rest) σ K := w_callA hop hg hc (hp.wider hH) h
end
structure Lat (B : Prop) : Type where
  out : B
/-- As far as it goes by itself. -/
theorem zgo {A B : Prop} (h : B) (w : Lat B → A := by
    (intro hB; (repeat (first | refine aw_seq ?_ | refine zregion ?_ | refine w_nil ?_ | refine w_hold ?_ | refine w_hold2 ?_ | refine w_then ?_ | refine w_thenR ?_ | refine w_thenE ?_ | refine w_blockN ?_ | refine w_blockR ?_ | refine w_blockE ?_ | refine w_blockO (by decide) ?_ | refine aw_skip ?_ | refine aw_ret ?_ | refine aw_exit ?_ | refine aw_block ?_ | refine zendFN ?_ | refine zendFr ?_ | refine zendFRn ?_ | refine zendFR ?_ | refine zendFEn ?_ | refine zendFE ?_ | refine zend ?_ | refine zendN ?_ | refine zendAs ?_ | refine zendBN ?_ | refine zendBR ?_ | refine zendBE ?_ | refine zyield ?_ | refine zyieldG ?_ | refine zcondT ?_ | refine zcondF ?_ | refine zdraw ?_ | refine aw_label ?_ | refine aw_scope ?_ | refine sc_ret ?_ | refine sc_norm ?_ | refine zcallH ?_ | refine zcallO ?_ | refine zcallF ?_ | refine zcallRO ?_ | refine zcallG ?_ | refine zcallX ?_ | refine zcallXG ?_ | refine zgF ?_ | refine zpick ?_ | refine zgT ?_ | refine zrun ?_)); exact hB.out)) : A := w ⟨h⟩
theorem zfin {A : Prop} (w : A := by (simp (maxSteps := 2000000) (disch := omega) only [go_sem, noId_c, noId_agg, noId_tup, noId_snap, false_implies, implies_true, *]; (repeat (first | exact .refl _ | exact .nil | exact wks_nil | refine wks_cons ?_ ?_ | refine wk_tup ?_ | refine wk_agg ?_ | refine wk_snap ?_ | exact wkr_nil | refine wkr_cons ?_ ?_)))) : A := w
/-- Rows of constants. -/
theorem expoD_c (G : Nat → Option Blk) (k : Nat) (v : Value) : expoD G k (.c v) = .c v := by cases k <;> rfl
theorem idsD_c (G : Nat → Option Blk) (k : Nat) (v : Value) : idsD G k (.c v) = [] := by cases k <;> rfl
theorem row_expoD {r : List AV} (h : ∀ x ∈ r, ∃ v, x = .c v) (G : Nat → Option Blk) (k : Nat) : r.map (expoD G k) = r := by
  conv => rhs; rw [← List.map_id r]
  exact List.map_congr_left fun x hx => by obtain ⟨v, rfl⟩ := h x hx; exact expoD_c G k v
theorem row_idsD {r : List AV} (h : ∀ x ∈ r, ∃ v, x = .c v) (G : Nat → Option Blk) (k : Nat) : r.flatMap (idsD G k) = [] := by
  rw [List.flatMap_eq_nil_iff]
  exact fun x hx => by obtain ⟨v, rfl⟩ := h x hx; exact idsD_c G k v
theorem encL_expoD {α : Type} {f : α → List AV} (h : ∀ a, ∀ x ∈ f a, ∃ v, x = .c v) (G : Nat → Option Blk) (k : Nat) (l : List α) : (encL f l).map (fun row => row.map (expoD G k)) = encL f l := by
  conv => rhs; rw [← List.map_id (encL f l)]
  refine List.map_congr_left fun r hr => ?_
  simp only [encL, List.mem_map] at hr
  obtain ⟨a, _, rfl⟩ := hr
  exact row_expoD (h a) G k
theorem encL_idsD {α : Type} {f : α → List AV} (h : ∀ a, ∀ x ∈ f a, ∃ v, x = .c v) (G : Nat → Option Blk) (k : Nat) (l : List α) : (encL f l).flatMap (fun row => row.flatMap (idsD G k)) = [] := by
  rw [List.flatMap_eq_nil_iff]
  intro r hr
  simp only [encL, List.mem_map] at hr
  obtain ⟨a, _, rfl⟩ := hr
  exact row_idsD (h a) G k
theorem expoI (G : Nat → Option Blk) (k : Nat) (l : List Int) : (encL intRow l).map (fun row => row.map (expoD G k)) = encL intRow l := encL_expoD (fun a x hx => by simp [intRow] at hx; exact ⟨_, hx⟩) G k l
theorem idsI (G : Nat → Option Blk) (k : Nat) (l : List Int) : (encL intRow l).flatMap (fun row => row.flatMap (idsD G k)) = [] := encL_idsD (fun a x hx => by simp [intRow] at hx; exact ⟨_, hx⟩) G k l
attribute [go_sem] expoI idsI expoD_c idsD_c
end Go.AL

/- A layer over the walks: calls in regions that draw their order, whose answers are the caller's own. -/
namespace Go.AL
set_option linter.unusedVariables false
set_option linter.unusedSimpArgs false
section
variable {P : Program} {σ : AS} {Q : Exit → AS → Prop}
section
variable {ops : List Oper} {N0 i : Nat} {o : Oper} {r : List Oper} {σ'' : AS} {es : List Entry} {f : Operand} {as : Array Operand} {ts : Array TypeId} {n : FuncId}
theorem d_callOZ {args : List AV} {el : TypeId} {k : Nat} {rows : List (List AV)} (hop : o.op = .call ⟨.value f, as, ts⟩) (hg : o.guard = none) (hc : calleeA (σ.get true f) (getsA (σ.get true) as.toList) = some (n, args))
    (hp : OCall P n args el k rows) (h : DRun P ops N0 (i + 1) r (σ.app o.dst ⟨true, .own (N0 + i) 0 rows.length, [(N0 + i, some (.cells el k rows true true))], []⟩) es σ'') :
    DRun P ops N0 i (o :: r) σ (⟨true, .own (N0 + i) 0 rows.length, [(N0 + i, some (.cells el k rows true true))], []⟩ :: es) σ'' := d_callO hop hg hp hc rfl h
theorem d_callTOZ {args : List AV} {a : AV} {el : TypeId} {k : Nat} {rows : List (List AV)} (hop : o.op = .call ⟨.value f, as, ts⟩) (hg : o.guard = none) (hc : calleeA (σ.get true f) (getsA (σ.get true) as.toList) = some (n, args))
    (hp : TOCall P n args a el k rows) (h : DRun P ops N0 (i + 1) r (σ.app o.dst ⟨true, renO (N0 + i) a, [(N0 + i, some (.cells el k rows true true))], []⟩) es σ'') :
    DRun P ops N0 i (o :: r) σ (⟨true, renO (N0 + i) a, [(N0 + i, some (.cells el k rows true true))], []⟩ :: es) σ'' :=
  .cons i o r σ _ es σ'' (.tocall f as ts n args a el k rows hop (by unfold gOK; rw [hg]) rfl hc hp rfl rfl) h
theorem d_callROZ {args0 args : List AV} {a : AV} {el : TypeId} {k : Nat} {rows : List (List AV)} {ap : Bool} {rd : List Nat} (hop : o.op = .call ⟨.value f, as, ts⟩) (hg : o.guard = none) (hc : calleeA (σ.get true f) (getsA (σ.get true) as.toList) = some (n, args0)) (he : args0.map (expoD σ.H.get 3) = args) (hrd : args0.flatMap (idsD σ.H.get 3) = rd) (hp : FOCall P n args a el k rows ap) (hn : ∀ a ∈ args, NoId a)
    (h : DRun P ops N0 (i + 1) r (σ.app o.dst ⟨true, renO (N0 + i) a, [(N0 + i, some (.cells el k rows true ap))], rd⟩) es σ'') : DRun P ops N0 i (o :: r) σ (⟨true, renO (N0 + i) a, [(N0 + i, some (.cells el k rows true ap))], rd⟩ :: es) σ'' :=
  .cons i o r σ _ es σ'' (.rocall f as ts n args0 args 3 a el k rows ap hop (by unfold gOK; rw [hg]) rfl hc he hn hp rfl rfl fun x hx id hid => by rw [← hrd]; exact List.mem_flatMap.2 ⟨x, hx, hid⟩) h
end
theorem zdrawO {σ' : AS} {id : Nat} {ops : Array Oper} {es : List Entry} (h : Q .normal σ') (hm : P.follows .mixedOrders = true := by (first | kernel_rfl | fail)) (hs : statB ops = true := by (first | kernel_rfl | fail)) (hd : ops.toList.all (dstIn σ.nt) = true := by (first | rfl | fail))
    (hr : DRun P ops.toList σ.H.next 0 ops.toList { σ with H := ⟨σ.H.next + ops.size, σ.H.get⟩ } es σ' := by (first | (apply d_runZ; (next => (first | (simp (maxSteps := 2000000) (disch := omega) only [go_sem, *] <;> exact rfl) | fail)); (repeat (first | exact d_nil | (apply d_skipZ; (next => (first | rfl | fail)); (next => (first | (simp (maxSteps := 2000000) (disch := omega) only [go_sem, *] <;> exact rfl) | fail)); apply d_runZ; (next => (first | (simp (maxSteps := 2000000) (disch := omega) only [go_sem, *] <;> exact rfl) | fail))) | (apply d_callTOZ; (next => (first | rfl | fail)); (next => (first | rfl | fail)); (next => (first | (simp (maxSteps := 2000000) (disch := omega) only [go_sem, *] <;> exact rfl) | fail)); (next => (first | assumption | (apply_assumption <;> first | assumption | omega) | fail)); apply d_runZ; (next => (first | (simp (maxSteps := 2000000) (disch := omega) only [go_sem, *] <;> exact rfl) | fail))) | (apply d_callOZ; (next => (first | rfl | fail)); (next => (first | rfl | fail)); (next => (first | (simp (maxSteps := 2000000) (disch := omega) only [go_sem, *] <;> exact rfl) | fail)); (next => (first | assumption | (apply_assumption <;> first | assumption | omega) | fail)); apply d_runZ; (next => (first | (simp (maxSteps := 2000000) (disch := omega) only [go_sem, *] <;> exact rfl) | fail))) | (apply d_callROZ; (next => (first | rfl | fail)); (next => (first | rfl | fail)); (next => (first | (simp (maxSteps := 2000000) (disch := omega) only [go_sem, *] <;> exact rfl) | fail)); (next => (first | (simp (maxSteps := 2000000) (disch := omega) only [go_sem, *] <;> exact rfl) | fail)); (next => (first | (simp (maxSteps := 2000000) (disch := omega) only [go_sem, *] <;> exact rfl) | fail)); (next => (first | assumption | (apply_assumption <;> first | assumption | omega) | fail)); (next => (first | (simp (maxSteps := 2000000) only [go_sem, noId_fn, noId_sptr, false_implies, implies_true, *]; done) | (simp [noId_c, noId_agg, noId_snap, noId_tup, noId_fn, noId_sptr, encL_noIdE, *]; done) | fail)); apply d_runZ; (next => (first | (simp (maxSteps := 2000000) (disch := omega) only [go_sem, *] <;> exact rfl) | fail))) | (apply d_callPZ; (next => (first | rfl | fail)); (next => (first | rfl | fail)); (next => (first | (simp (maxSteps := 2000000) (disch := omega) only [go_sem, *] <;> exact rfl) | fail)); (next => (first | assumption | (apply_assumption <;> first | assumption | omega) | fail)); (next => (first | (simp (maxSteps := 2000000) only [go_sem, noId_fn, noId_sptr, false_implies, implies_true, *]; done) | (simp [noId_c, noId_agg, noId_snap, noId_tup, noId_fn, noId_sptr, encL_noIdE, *]; done) | fail)); apply d_runZ; (next => (first | (simp (maxSteps := 2000000) (disch := omega) only [go_sem, *] <;> exact rfl) | fail))) | (apply d_callGZ; (next => (first | rfl | fail)); (next => (first | rfl | fail)); (next => (first | (simp (maxSteps := 2000000) (disch := omega) only [go_sem, *] <;> exact rfl) | fail)); (next => (first | (simp (maxSteps := 2000000) (disch := omega) only [go_sem, *] <;> exact rfl) | fail)); (next => (first | assumption | (apply_assumption <;> first | assumption | omega) | fail)); (next => (first | (simp (maxSteps := 2000000) only [go_sem, noId_fn, noId_sptr, false_implies, implies_true, *]; done) | (simp [noId_c, noId_agg, noId_snap, noId_tup, noId_fn, noId_sptr, encL_noIdE, *]; done) | fail)); apply d_runZ; (next => (first | (simp (maxSteps := 2000000) (disch := omega) only [go_sem, *] <;> exact rfl) | fail))) | (apply d_callR; (next => (first | rfl | fail)); (next => (first | rfl | fail)); (next => (first | (simp (maxSteps := 2000000) (disch := omega) only [go_sem, *] <;> exact rfl) | fail)); (next => (first | (simp (maxSteps := 2000000) (disch := omega) only [go_sem, *] <;> exact rfl) | fail)); (next => (first | (simp (maxSteps := 2000000) (disch := omega) only [go_sem, *] <;> exact rfl) | fail)); (next => (first | assumption | (apply_assumption <;> first | assumption | omega) | fail)); (next => (first | (simp (maxSteps := 2000000) only [go_sem, noId_fn, noId_sptr, false_implies, implies_true, *]; done) | (simp [noId_c, noId_agg, noId_snap, noId_tup, noId_fn, noId_sptr, encL_noIdE, *]; done) | fail)); apply d_runZ; (next => (first | (simp (maxSteps := 2000000) (disch := omega) only [go_sem, *] <;> exact rfl) | fail))) | (apply d_callRG; (next => (first | rfl | fail)); (next => (first | rfl | fail)); (next => (first | (simp (maxSteps := 2000000) (disch := omega) only [go_sem, *] <;> exact rfl) | fail)); (next => (first | (simp (maxSteps := 2000000) (disch := omega) only [go_sem, *] <;> exact rfl) | fail)); (next => (first | (simp (maxSteps := 2000000) (disch := omega) only [go_sem, *] <;> exact rfl) | fail)); (next => (first | (simp (maxSteps := 2000000) (disch := omega) only [go_sem, *] <;> exact rfl) | fail)); (next => (first | assumption | (apply_assumption <;> first | assumption | omega) | fail)); (next => (first | (simp (maxSteps := 2000000) only [go_sem, noId_fn, noId_sptr, false_implies, implies_true, *]; done) | (simp [noId_c, noId_agg, noId_snap, noId_tup, noId_fn, noId_sptr, encL_noIdE, *]; done) | fail)); apply d_runZ; (next => (first | (simp (maxSteps := 2000000) (disch := omega) only [go_sem, *] <;> exact rfl) | fail)))))) | fail))
    (hdyn : dynGo (tab ops.toList) 0 [] es = true := by (first | (simp (maxSteps := 2000000) (disch := omega) only [go_sem, nbeq_F, nbeq_T, *] <;> kernel_rfl) | fail)) : AW P (.region id ops true) σ Q := w_draw hm hs hd hr hdyn h


theorem zdrawT {σ' : AS} {id : Nat} {ops : Array Oper} {es : List Entry} {l : List Oper} (k0 : Nat) (h : aops P true ops l σ' (Q .normal)) (hl : ops.toList.drop k0 = l := by (first | rfl | fail)) (ht : tailB ops.toList k0 = true := by (first | kernel_rfl | fail)) (hm : P.follows .mixedOrders = true := by (first | kernel_rfl | fail)) (hs : statB ops = true := by (first | kernel_rfl | fail)) (hd : ops.toList.all (dstIn σ.nt) = true := by (first | rfl | fail))
    (hr : DRun P ops.toList σ.H.next 0 (ops.toList.take k0) { σ with H := ⟨σ.H.next + ops.size, σ.H.get⟩ } es σ' := by (first | (apply d_runZ; (next => (first | (simp (maxSteps := 2000000) (disch := omega) only [go_sem, *] <;> exact rfl) | fail)); (repeat (first | exact d_nil | (apply d_skipZ; (next => (first | rfl | fail)); (next => (first | (simp (maxSteps := 2000000) (disch := omega) only [go_sem, *] <;> exact rfl) | fail)); apply d_runZ; (next => (first | (simp (maxSteps := 2000000) (disch := omega) only [go_sem, *] <;> exact rfl) | fail))) | (apply d_callTOZ; (next => (first | rfl | fail)); (next => (first | rfl | fail)); (next => (first | (simp (maxSteps := 2000000) (disch := omega) only [go_sem, *] <;> exact rfl) | fail)); (next => (first | assumption | (apply_assumption <;> first | assumption | omega) | fail)); apply d_runZ; (next => (first | (simp (maxSteps := 2000000) (disch := omega) only [go_sem, *] <;> exact rfl) | fail))) | (apply d_callOZ; (next => (first | rfl | fail)); (next => (first | rfl | fail)); (next => (first | (simp (maxSteps := 2000000) (disch := omega) only [go_sem, *] <;> exact rfl) | fail)); (next => (first | assumption | (apply_assumption <;> first | assumption | omega) | fail)); apply d_runZ; (next => (first | (simp (maxSteps := 2000000) (disch := omega) only [go_sem, *] <;> exact rfl) | fail))) | (apply d_callROZ; (next => (first | rfl | fail)); (next => (first | rfl | fail)); (next => (first | (simp (maxSteps := 2000000) (disch := omega) only [go_sem, *] <;> exact rfl) | fail)); (next => (first | (simp (maxSteps := 2000000) (disch := omega) only [go_sem, *] <;> exact rfl) | fail)); (next => (first | (simp (maxSteps := 2000000) (disch := omega) only [go_sem, *] <;> exact rfl) | fail)); (next => (first | assumption | (apply_assumption <;> first | assumption | omega) | fail)); (next => (first | (simp (maxSteps := 2000000) only [go_sem, noId_fn, noId_sptr, false_implies, implies_true, *]; done) | (simp [noId_c, noId_agg, noId_snap, noId_tup, noId_fn, noId_sptr, encL_noIdE, *]; done) | fail)); apply d_runZ; (next => (first | (simp (maxSteps := 2000000) (disch := omega) only [go_sem, *] <;> exact rfl) | fail))) | (apply d_callPZ; (next => (first | rfl | fail)); (next => (first | rfl | fail)); (next => (first | (simp (maxSteps := 2000000) (disch := omega) only [go_sem, *] <;> exact rfl) | fail)); (next => (first | assumption | (apply_assumption <;> first | assumption | omega) | fail)); (next => (first | (simp (maxSteps := 2000000) only [go_sem, noId_fn, noId_sptr, false_implies, implies_true, *]; done) | (simp [noId_c, noId_agg, noId_snap, noId_tup, noId_fn, noId_sptr, encL_noIdE, *]; done) | fail)); apply d_runZ; (next => (first | (simp (maxSteps := 2000000) (disch := omega) only [go_sem, *] <;> exact rfl) | fail))) | (apply d_callGZ; (next => (first | rfl | fail)); (next => (first | rfl | fail)); (next => (first | (simp (maxSteps := 2000000) (disch := omega) only [go_sem, *] <;> exact rfl) | fail)); (next => (first | (simp (maxSteps := 2000000) (disch := omega) only [go_sem, *] <;> exact rfl) | fail)); (next => (first | assumption | (apply_assumption <;> first | assumption | omega) | fail)); (next => (first | (simp (maxSteps := 2000000) only [go_sem, noId_fn, noId_sptr, false_implies, implies_true, *]; done) | (simp [noId_c, noId_agg, noId_snap, noId_tup, noId_fn, noId_sptr, encL_noIdE, *]; done) | fail)); apply d_runZ; (next => (first | (simp (maxSteps := 2000000) (disch := omega) only [go_sem, *] <;> exact rfl) | fail))) | (apply d_callR; (next => (first | rfl | fail)); (next => (first | rfl | fail)); (next => (first | (simp (maxSteps := 2000000) (disch := omega) only [go_sem, *] <;> exact rfl) | fail)); (next => (first | (simp (maxSteps := 2000000) (disch := omega) only [go_sem, *] <;> exact rfl) | fail)); (next => (first | (simp (maxSteps := 2000000) (disch := omega) only [go_sem, *] <;> exact rfl) | fail)); (next => (first | assumption | (apply_assumption <;> first | assumption | omega) | fail)); (next => (first | (simp (maxSteps := 2000000) only [go_sem, noId_fn, noId_sptr, false_implies, implies_true, *]; done) | (simp [noId_c, noId_agg, noId_snap, noId_tup, noId_fn, noId_sptr, encL_noIdE, *]; done) | fail)); apply d_runZ; (next => (first | (simp (maxSteps := 2000000) (disch := omega) only [go_sem, *] <;> exact rfl) | fail))) | (apply d_callRG; (next => (first | rfl | fail)); (next => (first | rfl | fail)); (next => (first | (simp (maxSteps := 2000000) (disch := omega) only [go_sem, *] <;> exact rfl) | fail)); (next => (first | (simp (maxSteps := 2000000) (disch := omega) only [go_sem, *] <;> exact rfl) | fail)); (next => (first | (simp (maxSteps := 2000000) (disch := omega) only [go_sem, *] <;> exact rfl) | fail)); (next => (first | (simp (maxSteps := 2000000) (disch := omega) only [go_sem, *] <;> exact rfl) | fail)); (next => (first | assumption | (apply_assumption <;> first | assumption | omega) | fail)); (next => (first | (simp (maxSteps := 2000000) only [go_sem, noId_fn, noId_sptr, false_implies, implies_true, *]; done) | (simp [noId_c, noId_agg, noId_snap, noId_tup, noId_fn, noId_sptr, encL_noIdE, *]; done) | fail)); apply d_runZ; (next => (first | (simp (maxSteps := 2000000) (disch := omega) only [go_sem, *] <;> exact rfl) | fail)))))) | fail))
    (hdyn : dynGo (tab ops.toList) 0 [] es = true := by (first | (simp (maxSteps := 2000000) (disch := omega) only [go_sem, nbeq_F, nbeq_T, *] <;> kernel_rfl) | fail)) : AW P (.region id ops true) σ Q := w_drawT k0 hm hs ht hd hr hdyn (by rw [hl]; exact h)


end

/-- Such a call is also one that answers data. -/
theorem TOCall.nil {P : Program} {n : FuncId} {pre post : List AV} {r : AV} {e : TypeId} {k : Nat} {rows : List (List AV)} (h : ∀ a cap, TOCall P n (pre ++ .c (.slice a 0 cap) :: post) r e k rows) : TOCall P n (pre ++ .snap [] :: post) r e k rows :=
  ⟨(h none 0).1, fun E W G nid vs hG hn hr => let ⟨a, cap, hr'⟩ := rvs_nil hr; (h a cap).2 E W G nid vs hG hn hr'⟩
theorem tstart {P : Program} {n : FuncId} {fn : Func} {c : Code} {args : List AV} {a : AV} {e : TypeId} {k : Nat} {rows : List (List AV)} {rs : List ResultVar} {nt : Nat} (hf : P.funcs[n]? = some fn) (hnt : fn.ntmps = nt) (ha : ∀ a ∈ args, NoId a) (hok : OkO a) (hrows : ∀ row ∈ rows, ∀ x ∈ row, NoId x)
    (h : AW P c ⟨envOf 0 args, ⟨0, tabG []⟩, nt⟩ (hold (endA P rs (hold (fun r H' => ∃ i, r = renO i a ∧ H'.get i = some (.cells e k rows true true)) ⟨⟩)) ⟨⟩))
    (hb : fn.body = some c := by rfl) (hr : fn.results = List.toArray rs := by rfl) (hnm : (fn.name == "runtime.NumGoroutine") = false := by kernel_rfl) (hlen : args.length ≤ nt := by (simp only [List.length_cons, List.length_nil]; decide)) : TOCall P n args a e k rows := by
  refine tocall_of ha hok hrows (acall hf hb hnm (by rw [hnt]; exact hlen) ?_)
  rw [hnt, hr]
  exact h
section
variable {P : Program} {σ : AS}
theorem zcallTO {ops : Array Oper} {o : Oper} {rest : List Oper} {K : AS → Prop} {f : Operand} {as : Array Operand} {ts : Array TypeId} {n : FuncId} {args : List AV} {a : AV} {el : TypeId} {k : Nat} {rows : List (List AV)} {p : AS × List Oper} (h : aops P true ops p.2 p.1 K) (hop : o.op = .call ⟨.value f, as, ts⟩ := by (first | rfl | fail)) (hg : o.guard = none := by (first | rfl | fail))
    (hc : calleeA (σ.get true f) (getsA (σ.get true) as.toList) = some (n, args) := by (first | (simp (maxSteps := 2000000) (disch := omega) only [go_sem, *] <;> exact rfl) | fail)) (hp : TOCall P n args a el k rows := by (first | assumption | (apply_assumption <;> first | assumption | omega) | fail))
    (hr : run P ops.toList rest (({ σ with H := ⟨σ.H.next + 1, upd σ.H.get [(σ.H.next, some (.cells el k rows true true))]⟩ } : AS).put o.dst true (renO σ.H.next a)) = p := by (first | (simp (maxSteps := 2000000) (disch := omega) only [go_sem, *] <;> exact rfl) | fail)) : aops P true ops (o :: rest) σ K :=
  w_callA hop hg hc hp.run fun r H' ⟨h1, h2⟩ => by subst h1; subst h2; exact run_ok _ _ hr h
end
/-- As far as it goes by itself. -/
theorem zgo2 {A B : Prop} (h : B) (w : Lat B → A := by
    (intro hB; (repeat (first | refine aw_seq ?_ | refine zregion ?_ | refine w_nil ?_ | refine w_hold ?_ | refine w_hold2 ?_ | refine w_then ?_ | refine w_thenR ?_ | refine w_thenE ?_ | refine w_blockN ?_ | refine w_blockR ?_ | refine w_blockE ?_ | refine w_blockO (by decide) ?_ | refine aw_skip ?_ | refine aw_ret ?_ | refine aw_exit ?_ | refine aw_block ?_ | refine zendFN ?_ | refine zendFr ?_ | refine zendFRn ?_ | refine zendFR ?_ | refine zendFEn ?_ | refine zendFE ?_ | refine zend ?_ | refine zendN ?_ | refine zendAs ?_ | refine zendBN ?_ | refine zendBR ?_ | refine zendBE ?_ | refine zyield ?_ | refine zyieldG ?_ | refine zcondT ?_ | refine zcondF ?_ | refine zdraw ?_ | refine zdrawO ?_ | refine aw_label ?_ | refine aw_scope ?_ | refine sc_ret ?_ | refine sc_norm ?_ | refine zcallH ?_ | refine zcallO ?_ | refine zcallTO ?_ | refine zcallF ?_ | refine zcallRO ?_ | refine zcallG ?_ | refine zcallX ?_ | refine zcallXG ?_ | refine zgF ?_ | refine zpick ?_ | refine zgT ?_ | refine zrun ?_)); exact hB.out)) : A := w ⟨h⟩
/-- What is known of the blocks may be less. -/
def HW (R : AV → Heap → Prop) (r : AV) (H' : Heap) : Prop := ∃ H'', R r H'' ∧ Holds ⟨[], H', 0⟩ [] H''
theorem ACall.weak {P : Program} {n : FuncId} {args : List AV} {H : Heap} {R : AV → Heap → Prop} (h : ACall P n args H (HW R)) : ACall P n args H R :=
  ⟨h.1, fun E W vs hW hr => (h.2 E W vs hW hr).mono fun e W' ⟨v, he, E', r, H', h1, h2, h3, H'', h4, hH⟩ =>
    ⟨v, he, E', r, H'', h1, ⟨fun id hid => Nat.lt_of_lt_of_le (h2.next id hid) hH.next, h2.core.weaker fun id b hb => ⟨b, hH.get id b hb, Blk.le_refl b⟩⟩, h3, h4⟩⟩
theorem astartW {P : Program} {n : FuncId} {fn : Func} {c : Code} {args : List AV} {H : Heap} {R : AV → Heap → Prop} {rs : List ResultVar} {nt : Nat} (hf : P.funcs[n]? = some fn) (hnt : fn.ntmps = nt)
    (h : AW P c ⟨envOf 0 args, H, nt⟩ (hold (endA P rs (hold (HW R) ⟨⟩)) ⟨⟩))
    (hb : fn.body = some c := by rfl) (hr : fn.results = List.toArray rs := by rfl) (hnm : (fn.name == "runtime.NumGoroutine") = false := by kernel_rfl) (hlen : args.length ≤ nt := by (simp only [List.length_cons, List.length_nil]; decide)) : ACall P n args H R :=
  (astart hf hnt h hb hr hnm hlen).weak
end Go.AL

/- A layer over the walks: answers with one new slice, read as data. -/
namespace Go.AL
open Go.RowKit
set_option linter.unusedVariables false
set_option linter.unusedSimpArgs false
theorem pcallA (k : Nat) {P : Program} {n : FuncId} {args : List AV} {Q : AV → Prop} (hA : ACall P n args ⟨0, tabG []⟩ (fun a H' => NoId (expoD H'.get k a) ∧ Q (expoD H'.get k a))) : PCall P n args Q := by
  refine ⟨hA.1, fun L W vs hL hr => ?_⟩
  have hRH : RH (Env0 L) W ⟨0, tabG []⟩ := ⟨fun id h => h.elim, hL, fun id h => h.elim, fun id b h => by cases h⟩
  refine (hA.2 (Env0 L) W vs hRH hr).mono fun e W' ⟨v, he, E', r, H', hv, hH, hrv, hno, hq⟩ => ?_
  refine ⟨v, he, expoD H'.get k r, fun b => if b < W.heap.size then L b else max (E'.L b) (match W'.heap[b]? with | some (.cells cur _ _) => cur.size | _ => 0), ⟨hv.os, hv.tape, hv.output, hv.size, fun k hk => hv.foreign k hk fun id h => h.elim⟩, fun b hb' => ?_, fun b hb' => ?_, ?_, hno, hq⟩
  · simp [hb']
  · have h1 : ¬ b < W.heap.size := by have := hv.size; omega
    simp [h1, hH.core.lim b hb', Array.getElem?_eq_none hb']
  · refine expoD_ok hH.core (fun b => ?_) (fun id hU cur e f hc => ?_) k hrv hno
    · by_cases hb' : b < W.heap.size
      · rw [hv.still b hb' fun id h => h.elim]
        simp [hb', Env0]
      · simp [hb']; omega
    · have h1 : ¬ E'.ι id < W.heap.size := by
        rcases hv.fresh id (fun h => h) hU with h2 | ⟨id0, h2, _⟩
        · omega
        · exact h2.elim
      simp [h1, hc]; omega

/-- The same, where nothing that it answers lies in old memory. -/
theorem TOCall.toP {P : Program} {n : FuncId} {args : List AV} {a b : AV} {e : TypeId} {k : Nat} {rows : List (List AV)} (h : TOCall P n args a e k rows) (hb : NoId b)
    (hq : NoId (expoD (upd (tabG []) [(0, some (.cells e k rows true true))]) 4 (renO 0 a)) ∧ Wk (expoD (upd (tabG []) [(0, some (.cells e k rows true true))]) 4 (renO 0 a)) b) : PCall P n args (· = b) :=
  PCall.wk (pcallA 4 (Q := fun r => Wk r b) (h.run.mono fun r H' ⟨h1, h2⟩ => by subst h1; subst h2; exact hq)) hb
theorem tocall_of2 {P : Program} {n : FuncId} {args : List AV} {a : AV} {e : TypeId} {k : Nat} {rows : List (List AV)} (ha : ∀ a ∈ args, NoId a) (hok : OkO a) (hrows : ∀ row ∈ rows, ∀ x ∈ row, NoId x)
    (h : ACall P n args ⟨0, tabG []⟩ fun r H' => ∃ i, r = renO i a ∧ ∃ rows0, H'.get i = some (.cells e k rows0 true true) ∧ Wkr rows0 rows) : TOCall P n args a e k rows := by
  refine ⟨h.1, fun E W G nid vs hG hnid hr => ?_⟩
  have hRH : RH (Env0 E.L) W ⟨0, tabG []⟩ := ⟨fun id h => h.elim, hG.lim, fun id h => h.elim, fun id b h => by cases h⟩
  refine (h.2 (Env0 E.L) W vs hRH (hr.toPlain (fun _ => Nat.le_refl _) ha)).mono fun x W' ⟨v, he, E1, r, H', hv, hH, hrv, i, hri, rows0, hgi, hwk⟩ => ?_
  subst hri
  obtain ⟨hU1, hok1⟩ := hH.core.ok i _ hgi
  obtain ⟨hsz, hlen0, ⟨cur, hcur, hle0, hcells0⟩, hw1, ha1⟩ := hok1
  have hat : ∀ (i : Nat) row, rows[i]? = some row → ∃ r0, rows0[i]? = some r0 := fun i row hi => by
    have h1 := (List.getElem?_eq_some_iff.1 hi).1
    exact ⟨_, List.getElem?_eq_getElem (by rw [hwk.1]; exact h1)⟩
  have hlen : ∀ (i : Nat) row, rows[i]? = some row → row.length = k := fun i row hi => by
    obtain ⟨r0, h0⟩ := hat i row hi
    rw [← (hwk.2 i r0 row h0 hi).1]
    exact hlen0 i r0 h0
  have hle : rows.length * k ≤ cur.size := by rw [← hwk.1]; exact hle0
  have hcells : ∀ (i j : Nat) row x, rows[i]? = some row → row[j]? = some x → ∃ u, cur[i * k + j]? = some u ∧ RV E1 W' x u := fun i j row x hi hj => by
    obtain ⟨r0, h0⟩ := hat i row hi
    have hw := hwk.2 i r0 row h0 hi
    have h1 := (List.getElem?_eq_some_iff.1 hj).1
    obtain ⟨u, h2, h3⟩ := hcells0 i j r0 _ h0 (List.getElem?_eq_getElem (by rw [hw.1]; exact h1))
    exact ⟨u, h2, RV.wk (hw.2 j _ x (List.getElem?_eq_getElem (by rw [hw.1]; exact h1)) hj) h3⟩
  have hL0 := (hw1 rfl).1
  have hnew : W.heap.size ≤ E1.ι i := by
    rcases hv.fresh i (fun h => h) hU1 with h1 | ⟨id0, h1, _⟩
    · exact h1
    · exact h1.elim
  have hlt : E1.ι i < W'.heap.size := hH.core.inW i hU1
  have hstill : ∀ b, b < W.heap.size → E1.L b = E.L b := fun b hb => hv.still b hb fun id h => h.elim
  have hold : ∀ b, b < W.heap.size → W'.heap[b]? = W.heap[b]? := fun b hb => hv.foreign b hb fun id h => h.elim
  have hlim : ∀ b, E.L b ≤ E1.L b := hv.lim
  let E' : Env := ⟨fun id => if id = nid then E1.ι i else E.ι id, fun id => if id = nid then k else E.sz id, fun id => E.U id ∨ id = nid, E1.L⟩
  have hι : ∀ id, E.U id → E'.ι id = E.ι id := fun id hid => by
    show (if id = nid then _ else _) = _
    rw [if_neg]; rintro rfl; exact hnid hid
  have hs : ∀ id, E.U id → E'.sz id = E.sz id := fun id hid => by
    show (if id = nid then _ else _) = _
    rw [if_neg]; rintro rfl; exact hnid hid
  have hιn : E'.ι nid = E1.ι i := by show (if nid = nid then _ else _) = _; rw [if_pos rfl]
  have hsn : E'.sz nid = k := by show (if nid = nid then _ else _) = _; rw [if_pos rfl]
  have hEvo : Evo E W E' W' := by
    refine ⟨hv.os, hv.tape, hv.output, hv.size, fun id h => .inl h, fun id hid => ⟨hι id hid, hs id hid⟩, hlim, hv.prot, fun b hb _ => hold b hb, hv.sizes, fun b hb _ => hstill b hb, fun id h1 h2 => ?_, hv.loops⟩
    rcases h2 with h2 | h2
    · exact absurd h2 h1
    · subst h2; rw [hιn]; exact .inl hnew
  have hrow : ∀ {x u}, RV E1 W' x u → NoId x → RV E' W' x u := fun hx hn => RV.fromPlain (E := E') (L := E1.L) (fun _ => Nat.le_refl _) (hx.toPlain (L := E1.L) (fun _ => Nat.le_refl _) hn)
  have holdne : ∀ id, E.U id → E'.ι id ≠ E1.ι i := fun id hid heq => by
    rw [hι id hid] at heq
    have := hG.inW id hid
    omega
  refine ⟨v, he, E', hEvo, ⟨hH.core.lim, fun id hid => ?_, fun id b hb => ?_⟩, ?_, fun id h => h⟩
  · rcases hid with hid | hid
    · rw [hι id hid]; exact Nat.lt_of_lt_of_le (hG.inW id hid) hv.size
    · subst hid; rw [hιn]; exact hlt
  · simp only [upd] at hb
    by_cases hid : id = nid
    · subst hid
      rw [if_pos rfl] at hb
      injection hb with hb
      subst hb
      refine ⟨.inr rfl, hsn, hlen, ⟨cur, by rw [hιn]; exact hcur, hle, fun i' j row x h1 h2 => ?_⟩, fun _ => ⟨by rw [hιn]; exact hL0, fun id' b' hne hg' heq => ?_⟩, fun _ => ⟨by rw [hιn]; show E1.L _ ≤ _; rw [hL0]; exact Nat.zero_le _, fun id' b' hne hg' heq => ?_⟩⟩
      · obtain ⟨u, h3, h4⟩ := hcells i' j row x h1 h2
        exact ⟨u, h3, hrow h4 (hrows row (List.mem_of_getElem? h1) x (List.mem_of_getElem? h2))⟩
      · rw [hιn] at heq
        simp only [upd, if_neg hne] at hg'
        exact holdne id' (hG.ok id' b' hg').1 heq
      · rw [hιn] at heq
        simp only [upd, if_neg hne] at hg'
        exact absurd heq (holdne id' (hG.ok id' b' hg').1)
    · rw [if_neg hid] at hb
      obtain ⟨hU, hok⟩ := hG.ok id b hb
      have hlt2 := hG.inW id hU
      refine ⟨.inl hU, hok.mono hEvo hU (hold _ hlt2) (hstill _ hlt2) fun id' b' hne hg' heq => ?_⟩
      simp only [upd] at hg'
      by_cases hid' : id' = nid
      · subst hid'
        rw [hιn] at heq
        omega
      · rw [if_neg hid'] at hg'
        exact ⟨b', hg', by rw [← heq, hι id' (hG.ok id' b' hg').1], rfl, fun h => h⟩
  · exact rv_swap hιn (by rw [hsn, ← hsz]) (.inr rfl) hrow hok hrv
theorem tstart2 {P : Program} {n : FuncId} {fn : Func} {c : Code} {args : List AV} {a : AV} {e : TypeId} {k : Nat} {rows : List (List AV)} {rs : List ResultVar} {nt : Nat} (hf : P.funcs[n]? = some fn) (hnt : fn.ntmps = nt) (ha : ∀ a ∈ args, NoId a) (hok : OkO a) (hrows : ∀ row ∈ rows, ∀ x ∈ row, NoId x)
    (h : AW P c ⟨envOf 0 args, ⟨0, tabG []⟩, nt⟩ (hold (endA P rs (hold (fun r H' => ∃ i, r = renO i a ∧ ∃ rows0, H'.get i = some (.cells e k rows0 true true) ∧ Wkr rows0 rows) ⟨⟩)) ⟨⟩))
    (hb : fn.body = some c := by rfl) (hr : fn.results = List.toArray rs := by rfl) (hnm : (fn.name == "runtime.NumGoroutine") = false := by kernel_rfl) (hlen : args.length ≤ nt := by (simp only [List.length_cons, List.length_nil]; decide)) : TOCall P n args a e k rows := by
  refine tocall_of2 ha hok hrows (acall hf hb hnm (by rw [hnt]; exact hlen) ?_)
  rw [hnt, hr]
  exact h
/-- A function whose answer lies in new memory. -/
theorem fcstart {P : Program} {n : FuncId} {fn : Func} {c : Code} {args : List AV} {b : AV} {rs : List ResultVar} {nt : Nat} (hf : P.funcs[n]? = some fn) (hnt : fn.ntmps = nt)
    (h : AW P c ⟨envOf 0 args, ⟨0, tabG []⟩, nt⟩ (hold (endA P rs (hold (fun a H' => NoId (expoD H'.get 4 a) ∧ fresh H'.get 4 a = true ∧ expoD H'.get 4 a = b) ⟨⟩)) ⟨⟩))
    (hb : fn.body = some c := by (first | rfl | fail)) (hr : fn.results = List.toArray rs := by (first | rfl | fail)) (hnm : (fn.name == "runtime.NumGoroutine") = false := by (first | kernel_rfl | fail)) (hlen : args.length ≤ nt := by (simp only [List.length_cons, List.length_nil]; decide)) : FCall P n args b := by
  refine fcallD 4 hf hb hnm (by rw [hnt]; exact hlen) ?_
  rw [hnt, hr]
  exact h
end Go.AL

/- A layer over the walks: a block that is frozen within a block of rows. -/
namespace Go.AL
set_option linter.unusedVariables false
set_option linter.unusedSimpArgs false

/-- The rows of a block are known in another way. -/
theorem RC.rowsV {E : Env} {W : World} {G : Nat → Option Blk} {j : Nat} {e : TypeId} {s : Nat} {rws rws' : List (List AV)} {w a : Bool} {cur0 : Array Value} (hG : RC E W G) (hj : G j = some (.cells e s rws w a)) (hl : rws'.length = rws.length)
    (hr : ∀ (i : Nat) r r', rws[i]? = some r → rws'[i]? = some r' → r'.length = r.length ∧ ∀ (k : Nat) x y, r[k]? = some x → r'[k]? = some y → ∀ v, cur0[i * s + k]? = some v → RV E W y v) (hcur : W.heap[E.ι j]? = some (Obj.cells cur0 e (0, 0))) : RC E W (upd G [(j, some (.cells e s rws' w a))]) := by
  have hsame : ∀ id b, upd G [(j, some (.cells e s rws' w a))] id = some b → ∃ b0, G id = some b0 ∧ b.upto = b0.upto ∧ (b0.app = false → b.app = false) := fun id b h => by
    simp only [upd] at h
    split at h
    · rename_i heq
      injection h with h
      subst h; subst heq
      exact ⟨_, hj, by simp only [Blk.upto, hl], fun h => h⟩
    · exact ⟨b, h, rfl, fun h => h⟩
  refine ⟨hG.lim, hG.inW, fun id b hb => ?_⟩
  by_cases hid : id = j
  · subst hid
    simp only [upd] at hb
    rw [if_pos trivial] at hb
    injection hb with hb
    subst hb
    obtain ⟨hU, h1, h2, ⟨cur, h3, h4, h5⟩, h6, h7⟩ := hG.ok id _ hj
    have hat : ∀ (i : Nat) r', rws'[i]? = some r' → ∃ r, rws[i]? = some r := fun i r' h => ⟨_, List.getElem?_eq_getElem (by rw [← hl]; exact (List.getElem?_eq_some_iff.1 h).1)⟩
    refine ⟨hU, h1, fun i r' hi => ?_, ⟨cur, h3, by rw [hl]; exact h4, fun i k r' y hi hk => ?_⟩, fun hw => ?_, fun ha => ?_⟩
    · obtain ⟨r, h8⟩ := hat i r' hi
      rw [(hr i r r' h8 hi).1]
      exact h2 i r h8
    · obtain ⟨r, h8⟩ := hat i r' hi
      have h9 := hr i r r' h8 hi
      have h10 : k < r.length := by rw [← h9.1]; exact (List.getElem?_eq_some_iff.1 hk).1
      obtain ⟨v, h11, h12⟩ := h5 i k r _ h8 (List.getElem?_eq_getElem h10)
      have hcc : cur = cur0 := by
        rw [hcur] at h3; injection h3 with h3; injection h3 with h3; exact h3.symm
      exact ⟨v, h11, h9.2 k _ y (List.getElem?_eq_getElem h10) hk v (by rw [← hcc]; exact h11)⟩
    · obtain ⟨h8, h9⟩ := h6 hw
      refine ⟨h8, fun id' b' hne hg' => ?_⟩
      obtain ⟨b0, h10, _⟩ := hsame id' b' hg'
      exact h9 id' b0 hne h10
    · obtain ⟨h8, h9⟩ := h7 ha
      refine ⟨by rw [hl]; exact h8, fun id' b' hne hg' heq => ?_⟩
      obtain ⟨b0, h10, h11, h12⟩ := hsame id' b' hg'
      obtain ⟨h13, h14⟩ := h9 id' b0 hne h10 heq
      exact ⟨by rw [h11, hl]; exact h13, h12 h14⟩
  · have hb2 : G id = some b := by simpa only [upd, if_neg hid] using hb
    obtain ⟨hU, hok⟩ := hG.ok id b hb2
    refine ⟨hU, ?_⟩
    cases b with
    | map es =>
      obtain ⟨h1, h5, h6⟩ := hok
      refine ⟨h1, h5, fun id' b' hne' hg' => ?_⟩
      obtain ⟨b0, h10, _⟩ := hsame id' b' hg'
      exact h6 id' b0 hne' h10
    | rcd env nt ps assign body st pend =>
      obtain ⟨h1, h5, h6⟩ := hok
      refine ⟨h1, h5, fun id' b' hne' hg' => ?_⟩
      obtain ⟨b0, h10, _⟩ := hsame id' b' hg'
      exact h6 id' b0 hne' h10
    | cells e' s' rows' w' a' =>
      obtain ⟨h1, h2, h3, h6, h7⟩ := hok
      refine ⟨h1, h2, h3, fun hw => ?_, fun ha => ?_⟩
      · obtain ⟨h8, h9⟩ := h6 hw
        refine ⟨h8, fun id' b' hne' hg' => ?_⟩
        obtain ⟨b0, h10, _⟩ := hsame id' b' hg'
        exact h9 id' b0 hne' h10
      · obtain ⟨h8, h9⟩ := h7 ha
        refine ⟨h8, fun id' b' hne' hg' heq => ?_⟩
        obtain ⟨b0, h10, h11, h12⟩ := hsame id' b' hg'
        obtain ⟨h13, h14⟩ := h9 id' b0 hne' h10 heq
        exact ⟨by rw [h11]; exact h13, h12 h14⟩
/-- What a value is when the block id is frozen. -/
def Fz (id : Nat) (rows : List (List AV)) (x y : AV) : Prop := x = y ∨ ∃ off len, x = .own id off len ∧ off + len ≤ rows.length ∧ y = .snap ((rows.drop off).take len)
def FzRows (id : Nat) (rows rws rws' : List (List AV)) : Prop :=
  rws'.length = rws.length ∧ ∀ (i : Nat) r r', rws[i]? = some r → rws'[i]? = some r' → r'.length = r.length ∧ ∀ (k : Nat) x y, r[k]? = some x → r'[k]? = some y → Fz id rows x y
/-- A block is frozen; the rows of another one say what was in it. -/
theorem aw_fz {P : Program} {σ : AS} {Q : Exit → AS → Prop} {c : Code} (id j : Nat) {e e2 : TypeId} {s s2 : Nat} {rows rws : List (List AV)} {w a w2 a2 : Bool} (rws' : List (List AV)) (hg : σ.H.get id = some (.cells e s rows w a)) (hj : σ.H.get j = some (.cells e2 s2 rws w2 a2)) (hij : j ≠ id)
    (hr : FzRows id rows rws rws') (h : AW P c ⟨σ.env, ⟨σ.H.next, upd (upd σ.H.get [(id, some (.cells e s rows false a))]) [(j, some (.cells e2 s2 rws' w2 a2))]⟩, σ.nt⟩ Q) : AW P c σ Q := fun ro E W act hro hrel => by
  obtain ⟨hv, hH⟩ := freeze1 hrel.heap hg
  have hL : ∀ id', id' ∈ [id] → ∀ (e' : TypeId) (s' : Nat) (rows' : List (List AV)) (w' a' : Bool), σ.H.get id' = some (.cells e' s' rows' w' a') → rows'.length * s' ≤ (if E.ι id' = E.ι id then max (E.L (E.ι id')) (rows.length * s) else E.L (E.ι id')) := fun id' h1 e' s' rows' w' a' h2 => by
    simp only [List.mem_cons, List.not_mem_nil, or_false] at h1
    subst h1
    rw [hg] at h2
    injection h2 with h2
    injection h2 with h3 h4 h5
    subst h4 h5
    rw [if_pos rfl]
    omega
  have hj2 : (upd σ.H.get [(id, some (.cells e s rows false a))]) j = some (.cells e2 s2 rws w2 a2) := by
    simp only [upd]; rw [if_neg hij]; exact hj
  -- the values of the block j in the old world
  obtain ⟨_, _, _, ⟨cur, hc1, _, hc2⟩, _, _⟩ := hrel.heap.core.ok j _ hj
  have hRC : RC ⟨E.ι, E.sz, E.U, fun b => if b = E.ι id then max (E.L b) (rows.length * s) else E.L b⟩ W (upd (upd σ.H.get [(id, some (.cells e s rows false a))]) [(j, some (.cells e2 s2 rws' w2 a2))]) := by
    refine hH.core.rowsV hj2 hr.1 (fun i r r' h1 h2 => ⟨(hr.2 i r r' h1 h2).1, fun k x y hx hy v hvat => ?_⟩) hc1
    obtain ⟨v', h3, h4⟩ := hc2 i k r x h1 hx
    rw [hvat] at h3
    injection h3 with h3
    subst h3
    rcases (hr.2 i r r' h1 h2).2 k x y hx hy with rfl | ⟨off, len, rfl, hle, rfl⟩
    · exact h4.mono hv
    · have := expoX1 hrel.heap.core hv h4 (fun id' h5 => hL id' (by simpa [ids1] using h5))
      simpa [expo1, rowsOf, hg, hle] using this
  refine wpIn_mono (h ro _ W act hro (hrel.mono hv ⟨hH.next, hRC⟩)) fun e' a' w' ⟨E', σ', h2, h3, h4, h5⟩ => ⟨E', σ', (Went.of hv rfl).trans h2, h3, h4, h5⟩
end Go.AL

/- A layer over the walks: guarded calls that only read. -/
namespace Go.AL
open Go.RowKit
set_option linter.unusedVariables false
set_option linter.unusedSimpArgs false

section
variable {P : Program} {σ : AS}
/-- A call that only reads blocks of one's own, behind a guard that is met. -/
theorem zcallFG {ops : Array Oper} {o : Oper} {rest : List Oper} {K : AS → Prop} {f : Operand} {as : Array Operand} {ts : Array TypeId} {n : FuncId} {args0 args : List AV} {r : AV} {p : AS × List Oper} {j : Nat} {want : Bool} (h : aops P true ops p.2 p.1 K) (hop : o.op = .call ⟨.value f, as, ts⟩ := by (first | rfl | fail)) (hg : o.guard = some (j, want) := by (first | rfl | fail))
    (hw : gcond (gval ops.toList j σ.env) want = some true := by (first | (simp (maxSteps := 2000000) (disch := omega) only [go_sem, *] <;> exact rfl) | fail))
    (hc : calleeA (σ.get true f) (getsA (σ.get true) as.toList) = some (n, args0) := by (first | (simp (maxSteps := 2000000) (disch := omega) only [go_sem, *] <;> exact rfl) | fail)) (he : args0.map (expoD σ.H.get 3) = args := by (first | (simp (maxSteps := 2000000) (disch := omega) only [go_sem, *] <;> exact rfl) | fail)) (hp : FCall P n args r := by (first | assumption | (apply_assumption <;> first | assumption | omega) | fail)) (hn : ∀ a ∈ args, NoId a := by (first | (simp (maxSteps := 2000000) only [go_sem, noId_fn, noId_sptr, false_implies, implies_true, *]; done) | (simp [noId_c, noId_agg, noId_snap, noId_tup, noId_fn, noId_sptr, encL_noIdE, *]; done) | fail))
    (hr : run P ops.toList rest (σ.put o.dst true r) = p := by (first | (simp (maxSteps := 2000000) (disch := omega) only [go_sem, *] <;> exact rfl) | fail)) : aops P true ops (o :: rest) σ K :=
  w_callAG hop hg hw hc (hp.act 3 he hn) fun r' H' ⟨h1, h2⟩ => by subst h1; subst h2; exact run_ok _ _ hr h
end
end Go.AL
