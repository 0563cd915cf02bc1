/- A layer over the walks, fourth part: contracts, guards, blocks handed on. No condition. -/
import Derived.Test.YtelkpeoilneikaaLd
import Derived.LoopN
import Derived.IntWalk
/- A layer over the walks: contracts that were proved over the worlds. -/
namespace Go.AL
open Go.RowKit
set_option linter.unusedVariables false
set_option linter.unusedSimpArgs false

/-- The abstract value is this very value, whatever the world. -/
def Rigid (a : AV) (v : Value) : Prop := NoId a ∧ ∀ E W, RV E W a v ∧ ∀ v', RV E W a v' → v' = v
def Rigids (as : List AV) (vs : List Value) : Prop := (∀ a ∈ as, NoId a) ∧ ∀ E W, RVs E W as vs ∧ ∀ vs', RVs E W as vs' → vs' = vs

theorem rigid_c {x : Value} (h : isAggV x = false) : Rigid (.c x) x := ⟨.c x, fun E W => ⟨.c x h, fun v' r => by cases r; rfl⟩⟩
theorem rigids_nil : Rigids [] [] := ⟨fun a h => by simp at h, fun E W => ⟨.nil, fun vs' h => by have := h.1; simp at this; exact List.length_eq_zero_iff.1 this.symm⟩⟩
theorem rigids_cons {a : AV} {v : Value} {as : List AV} {vs : List Value} (h : Rigid a v) (hs : Rigids as vs) : Rigids (a :: as) (v :: vs) := by
  refine ⟨fun b hb => ?_, fun E W => ⟨.cons (h.2 E W).1 (hs.2 E W).1, fun vs' hr => ?_⟩⟩
  · rcases List.mem_cons.1 hb with rfl | hb
    · exact h.1
    · exact hs.1 b hb
  · cases vs' with
    | nil => have := hr.1; simp at this
    | cons v' r =>
      have h1 := (h.2 E W).2 v' (hr.2 0 a v' rfl rfl)
      have h2 := (hs.2 E W).2 r ⟨by have := hr.1; simpa using this, fun i x u hx hu => hr.2 (i + 1) x u (by simpa using hx) (by simpa using hu)⟩
      rw [h1, h2]
theorem rigid_agg {as : List AV} {vs : List Value} (h : Rigids as vs) : Rigid (.agg as) (.agg vs.toArray) := by
  refine ⟨noId_agg.2 h.1, fun E W => ⟨.agg _ _ (by have := (h.2 E W).1.1; simpa using this) fun i x v hx hv => (h.2 E W).1.2 i x v hx (by simpa using hv), fun v' r => ?_⟩⟩
  cases r with
  | agg _ us hl hr =>
    have := (h.2 E W).2 us.toList ⟨by simpa using hl, fun i x v hx hv => hr i x v hx (by simpa using hv)⟩
    rw [← this]
theorem rigid_tup {as : List AV} {vs : List Value} (h : Rigids as vs) : Rigid (.tup as) (.tuple vs.toArray) := by
  refine ⟨noId_tup.2 h.1, fun E W => ⟨.tup _ _ (by have := (h.2 E W).1.1; simpa using this) fun i x v hx hv => (h.2 E W).1.2 i x v hx (by simpa using hv), fun v' r => ?_⟩⟩
  cases r with
  | tup _ us hl hr =>
    have := (h.2 E W).2 us.toList ⟨by simpa using hl, fun i x v hx hv => hr i x v hx (by simpa using hv)⟩
    rw [← this]

/-- What was proved of the very values. -/
theorem pcall_of {P : Program} {n : FuncId} {args : List AV} {vals : List Value} {r : AV} {v : Value} (hent : enterable P n = true) (ha : Rigids args vals) (hr : Rigid r v)
    (h : ∀ w, Calls P n vals.toArray w fun e w' => e = .returned v ∧ Below w.heap.size w w') : PCall P n args (· = r) := by
  refine ⟨hent, fun L W vs hL hrv => ?_⟩
  obtain rfl := (ha.2 _ _).2 vs hrv
  exact (h W).mono fun e W' ⟨he, hb⟩ => ⟨v, he, r, L, hb, fun _ _ => rfl, fun b hb' => hL b (Nat.le_trans hb.size hb'), (hr.2 _ _).1, hr.1, rfl⟩
end Go.AL

/- A layer over the walks: a loop of a few rounds, one after another. -/
namespace Go.AL
open Go.RowKit
set_option linter.unusedVariables false
set_option linter.unusedSimpArgs false

/-- n rounds of a loop, behind the last of which the loop has been left. -/
def Rounds (P : Program) (c : Code) (Q : Exit → AS → Prop) : Nat → AS → Prop
  | 0, _ => False
  | n + 1, σ => AW P c σ (thenA (Rounds P c Q n) Q)

theorem rounds_monoA {P : Program} {c : Code} {Q Q' : Exit → Act → World → Prop} (hq : ∀ e a w, Q e a w → Q' e a w) : ∀ (n : Nat) {a : Act} {w : World}, Code.rounds P c Q n a w → Code.rounds P c Q' n a w
  | 0, _, _, h => h.elim
  | n + 1, a, w, h => by
    rw [rounds_succ] at h ⊢
    refine wp_mono h fun e a' w' he => ?_
    cases e with
    | normal => exact rounds_monoA hq n he
    | _ => exact hq _ _ _ he

theorem rounds_ok {P : Program} {c : Code} {Q : Exit → AS → Prop} : ∀ (n : Nat) {σ : AS}, Rounds P c Q n σ → ∀ {E : Env} {W : World} {act : Act}, Rel E W σ act → Code.rounds P c (fun e act' W' => ∃ E' σ', Evo E W E' W' ∧ Rel E' W' σ' act' ∧ σ'.nt = σ.nt ∧ Q e σ') n act W
  | 0, σ, h, _, _, _, _ => h.elim
  | n + 1, σ, h, E, W, act, hr => by
    rw [rounds_succ]
    refine wp_mono (h E W act hr) fun e a w ⟨E', σ', h1, h2, h3, h4⟩ => ?_
    cases e with
    | normal =>
      have := rounds_ok n h4 h2
      refine rounds_monoA ?_ n this
      exact fun e' a' w' ⟨E'', σ'', h5, h6, h7, h8⟩ => ⟨E'', σ'', h1.trans h5, h6, h7.trans h3, h8⟩
    | _ => exact ⟨E', σ', h1, h2, h3, h4⟩

theorem w_rounds {P : Program} {c : Code} {σ : AS} {Q : Exit → AS → Prop} (n : Nat) (h : Rounds P c Q n σ) : AW P (.loop c) σ Q := fun E W act hr => wp_loop_rounds n (rounds_ok n h hr)
theorem w_round {P : Program} {c : Code} {σ : AS} {Q : Exit → AS → Prop} {n : Nat} (h : AW P c σ (thenA (Rounds P c Q n) Q)) : Rounds P c Q (n + 1) σ := h
theorem w_condT {P : Program} {σ : AS} {Q : Exit → AS → Prop} {c : Operand} {x y : Code} (hc : asB (σ.get true c) = some true) (h : AW P x σ Q) : AW P (.cond c x y) σ Q := aw_cond (asB_out hc) (fun _ => h) (fun h => by cases h)
theorem w_condF {P : Program} {σ : AS} {Q : Exit → AS → Prop} {c : Operand} {x y : Code} (hc : asB (σ.get true c) = some false) (h : AW P y σ Q) : AW P (.cond c x y) σ Q := aw_cond (asB_out hc) (fun h => by cases h) (fun _ => h)
theorem ite_twice {α : Type} {p : Prop} [Decidable p] {a b c : α} : (if p then a else if p then b else c) = if p then a else c := by by_cases h : p <;> simp [h]
attribute [go_sem] ite_twice
end Go.AL

/- A layer over the walks: the nil slice read as no rows. -/
namespace Go.AL
open Go.RowKit
set_option linter.unusedVariables false
set_option linter.unusedSimpArgs false

/-- What reads as a reads as b too. -/
inductive Wk : AV → AV → Prop
  | refl (a : AV) : Wk a a
  | nil : Wk (.c (.slice none 0 0)) (.snap [])
  | agg (xs ys : List AV) (hl : xs.length = ys.length) (h : ∀ (i : Nat) x y, xs[i]? = some x → ys[i]? = some y → Wk x y) : Wk (.agg xs) (.agg ys)
  | tup (xs ys : List AV) (hl : xs.length = ys.length) (h : ∀ (i : Nat) x y, xs[i]? = some x → ys[i]? = some y → Wk x y) : Wk (.tup xs) (.tup ys)

def Wks (xs ys : List AV) : Prop := xs.length = ys.length ∧ ∀ (i : Nat) x y, xs[i]? = some x → ys[i]? = some y → Wk x y
theorem wks_nil : Wks [] [] := ⟨rfl, fun i x y h => by simp at h⟩
theorem wks_refl (xs : List AV) : Wks xs xs := ⟨rfl, fun i x y h h' => by rw [h] at h'; injection h' with h'; subst h'; exact .refl x⟩
theorem wks_cons {x y : AV} {xs ys : List AV} (h : Wk x y) (hs : Wks xs ys) : Wks (x :: xs) (y :: ys) := by
  refine ⟨by simp [hs.1], fun i a b h1 h2 => ?_⟩
  cases i with
  | zero => simp at h1 h2; subst h1 h2; exact h
  | succ i => exact hs.2 i a b (by simpa using h1) (by simpa using h2)
theorem wk_agg {xs ys : List AV} (h : Wks xs ys) : Wk (.agg xs) (.agg ys) := .agg xs ys h.1 h.2
theorem wk_tup {xs ys : List AV} (h : Wks xs ys) : Wk (.tup xs) (.tup ys) := .tup xs ys h.1 h.2

theorem RV.wk {E : Env} {W : World} {a b : AV} (h : Wk a b) : ∀ {v : Value}, RV E W a v → RV E W b v := by
  induction h with
  | refl a => exact fun r => r
  | nil => intro v r; cases r; exact .snap0 _ _
  | agg xs ys hl h ih =>
    intro v r
    cases r with
    | agg _ vs hl' hr =>
    refine .agg ys vs (hl ▸ hl') fun i y v hy hv => ?_
    obtain ⟨x, hx⟩ : ∃ x, xs[i]? = some x := ⟨xs[i]'(by have := (List.getElem?_eq_some_iff.1 hy).1; omega), by simp⟩
    exact ih i x y hx hy (hr i x v hx hv)
  | tup xs ys hl h ih =>
    intro v r
    cases r with
    | tup _ vs hl' hr =>
    refine .tup ys vs (hl ▸ hl') fun i y v hy hv => ?_
    obtain ⟨x, hx⟩ : ∃ x, xs[i]? = some x := ⟨xs[i]'(by have := (List.getElem?_eq_some_iff.1 hy).1; omega), by simp⟩
    exact ih i x y hx hy (hr i x v hx hv)

theorem PCall.weak {P : Program} {n : FuncId} {args : List AV} {a b : AV} (h : PCall P n args (· = a)) (hw : Wk a b) (hn : NoId b) : PCall P n args (· = b) :=
  ⟨h.1, fun L W vs hL hr => (h.2 L W vs hL hr).mono fun e W' ⟨v, he, r, L', h1, h2, h3, h4, h5, h6⟩ => ⟨v, he, b, L', h1, h2, h3, (h6 ▸ h4).wk hw, hn, rfl⟩⟩

theorem PCall.wk {P : Program} {n : FuncId} {args : List AV} {b : AV} (h : PCall P n args (Wk · b)) (hn : NoId b) : PCall P n args (· = b) :=
  ⟨h.1, fun L W vs hL hr => (h.2 L W vs hL hr).mono fun e W' ⟨v, he, r, L', h1, h2, h3, h4, h5, h6⟩ => ⟨v, he, b, L', h1, h2, h3, h4.wk h6, hn, rfl⟩⟩
/-! What linear reckoning decides. -/
theorem dec_ltT {a b : Int} (h : a < b) : decide (a < b) = true := by simp [h]
theorem dec_ltF {a b : Int} (h : ¬ a < b) : decide (a < b) = false := by simp [h]
theorem dec_leT {a b : Int} (h : a ≤ b) : decide (a ≤ b) = true := by simp [h]
theorem dec_leF {a b : Int} (h : ¬ a ≤ b) : decide (a ≤ b) = false := by simp [h]
theorem bne_T {a b : Int} (h : a ≠ b) : (a != b) = true := by simp [h]
theorem bne_F {a b : Int} (h : a = b) : (a != b) = false := by simp [h]
theorem beq_T {a b : Int} (h : a = b) : (a == b) = true := by simp [h]
theorem beq_F {a b : Int} (h : a ≠ b) : (a == b) = false := by simp [h]
end Go.AL

/- A layer over the walks: operations behind a guard that is decided. -/
namespace Go.AL
open Go.RowKit
set_option linter.unusedVariables false
set_option linter.unusedSimpArgs false

def plainOp : Op → Bool
  | .call ⟨.value _, _, _⟩ => false
  | .pick _ _ _ => false
  | _ => true

section
variable {P : Program} {σ : AS}

theorem aopx_plain {o : Oper} {K : AS → Prop} (hop : plainOp o.op = true) {a : AV} {wr : List (Nat × Option Blk)} {rd : List Nat} (hres : res P (σ.get true) σ.H.get σ.H.next o = some (a, wr, rd))
    (hk : K (({ σ with H := σ.H.app wr } : AS).put o.dst true a)) : aopx P o σ K := by
  unfold aopx
  split
  · rename_i f as ts h; rw [h] at hop; cases hop
  · rename_i b x y h; rw [h] at hop; cases hop
  · rw [hres, bindK_some]; exact hk

/-- The guard is met. -/
theorem w_gT {ops : Array Oper} {o : Oper} {rest : List Oper} {K : AS → Prop} {p : AS × List Oper} {j : Nat} {want : Bool} {a : AV} {wr : List (Nat × Option Blk)} {rd : List Nat} (hop : plainOp o.op = true) (hg : o.guard = some (j, want))
    (hw : gcond (gval ops.toList j σ.env) want = some true) (hres : res P (σ.get true) σ.H.get σ.H.next o = some (a, wr, rd)) (hr : run P ops.toList rest (({ σ with H := σ.H.app wr } : AS).put o.dst true a) = p) (h : aops P true ops p.2 p.1 K) : aops P true ops (o :: rest) σ K := by
  show aop P true ops o σ _
  unfold aop
  simp only [hg]
  rw [hw, bindK_some]
  simp only [hold]
  refine .inr ?_
  unfold aopg0
  split
  · rename_i f as ts h; rw [h] at hop; cases hop
  · rename_i b x y h; rw [h] at hop; cases hop
  · have hx : aopx P o σ fun σ' => aops P true ops rest σ' K := aopx_plain hop hres (run_ok _ _ hr h)
    cases hpt : parts o.op with
    | true => simp only [if_true, altK, hold]; exact ⟨fun _ => hx, fun h => by cases h⟩
    | false =>
      simp only [Bool.false_eq_true, if_false, hres]
      cases wr with
      | nil => simp only [resP, altK]; exact run_ok _ _ hr h
      | cons w r => simp only [resP, altK, hold]; exact ⟨fun _ => hx, fun h => by cases h⟩

def skipF (ops : List Oper) : List Oper → AS → Option (AS × List Oper)
  | [], σ => some (σ, [])
  | o :: r, σ => skipG (skipF ops r) ops σ o r o.guard
where
  skipK (f : AS → Option (AS × List Oper)) (σ : AS) (o : Oper) (r : List Oper) : Option Bool → Option (AS × List Oper)
    | some c => cond c (some (σ, o :: r)) (f (σ.put o.dst false (.c (.bool false))))
    | none => some (σ, o :: r)
  skipG (f : AS → Option (AS × List Oper)) (ops : List Oper) (σ : AS) (o : Oper) (r : List Oper) : Option (Nat × Bool) → Option (AS × List Oper)
    | some (j, want) => skipK f σ o r (gcond (gval ops j σ.env) want)
    | none => some (σ, o :: r)

theorem skip_ok {ops : Array Oper} {K : AS → Prop} : ∀ (l : List Oper) (σ : AS) {p : AS × List Oper}, skipF ops.toList l σ = some p → aops P true ops p.2 p.1 K → aops P true ops l σ K
  | [], σ, p, h, hk => by simp only [skipF] at h; injection h with h; subst h; exact hk
  | o :: r, σ, p, h, hk => by
    simp only [skipF] at h
    unfold skipF.skipG at h
    split at h
    · rename_i j want hg
      unfold skipF.skipK at h
      split at h
      · rename_i c hc
        cases c with
        | true => simp only [cond] at h; injection h with h; subst h; exact hk
        | false =>
          simp only [cond] at h
          show aop P true ops o σ _
          unfold aop
          simp only [hg]
          rw [hc, bindK_some]
          exact .inl (.inl ⟨rfl, skip_ok r _ h hk⟩)
      · injection h with h; subst h; exact hk
    · injection h with h; subst h; exact hk

/-- The guard is not met. -/
theorem w_gF {ops : Array Oper} {o : Oper} {rest : List Oper} {K : AS → Prop} {p q : AS × List Oper} {j : Nat} {want : Bool} (hg : o.guard = some (j, want))
    (hw : gcond (gval ops.toList j σ.env) want = some false) (hs : skipF ops.toList rest (σ.put o.dst false (.c (.bool false))) = some q)
    (hr : run P ops.toList q.2 q.1 = p) (h : aops P true ops p.2 p.1 K) : aops P true ops (o :: rest) σ K := by
  show aop P true ops o σ _
  unfold aop
  simp only [hg]
  rw [hw, bindK_some]
  exact .inl (.inl ⟨rfl, skip_ok _ _ hs (run_ok _ _ hr h)⟩)

theorem aopx_pick {o : Oper} {K : AS → Prop} {b x y : Operand} {b0 : Bool} {a : AV} (hop : o.op = .pick b x y) (hb : asB (σ.get true b) = some b0) (hn : pairB (asB (σ.get b0 x)) (asB (σ.get (!b0) y)) = none) (ha : σ.get true (cond b0 x y) = some a) (hk : K (σ.put o.dst true a)) : aopx P o σ K := by
  unfold aopx
  simp only [hop]
  rw [hb, bindK_some]
  simp only [hold]
  rw [hn]
  refine ⟨fun h => ?_, fun h => ?_⟩ <;> subst h <;> simp only [cond] at ha <;> rw [ha, bindK_some] <;> exact hk

/-- A choice that is known. -/
theorem w_pick {ops : Array Oper} {o : Oper} {rest : List Oper} {K : AS → Prop} {p : AS × List Oper} {b x y : Operand} {b0 : Bool} {a : AV} (hop : o.op = .pick b x y) (hg : o.guard = none)
    (hb : asB (σ.get true b) = some b0) (hn : pairB (asB (σ.get b0 x)) (asB (σ.get (!b0) y)) = none) (ha : σ.get true (cond b0 x y) = some a) (hr : run P ops.toList rest (σ.put o.dst true a) = p) (h : aops P true ops p.2 p.1 K) : aops P true ops (o :: rest) σ K := by
  show aop P true ops o σ _
  unfold aop
  simp only [hg]
  exact aopx_pick hop hb hn ha (run_ok _ _ hr h)
end
attribute [go_sem] skipF skipF.skipK skipF.skipG plainOp
end Go.AL

/- A layer over the walks: blocks of the walk's own that are handed to a call. -/
namespace Go.AL
open Go.RowKit
set_option linter.unusedVariables false
set_option linter.unusedSimpArgs false

def ids1 : AV → List Nat
  | .own id _ _ => [id]
  | .ptr id _ _ => [id]
  | _ => []
def idsAll (f : AV → List Nat) : List AV → List Nat
  | [] => []
  | x :: r => f x ++ idsAll f r
def ids2 : AV → List Nat
  | .agg xs => idsAll ids1 xs
  | .fn _ xs ys => idsAll ids1 xs ++ idsAll ids1 ys
  | a => ids1 a
theorem idsAll_mem {f : AV → List Nat} {xs : List AV} {x : AV} {id : Nat} (hx : x ∈ xs) (h : id ∈ f x) : id ∈ idsAll f xs := by
  induction xs with
  | nil => cases hx
  | cons y r ih =>
    simp only [idsAll, List.mem_append]
    rcases List.mem_cons.1 hx with rfl | hx
    · exact .inl h
    · exact .inr (ih hx)

/-- A block that is not written any more. -/
def frzB : Option Blk → Option Blk
  | some (.cells e s rows w a) => some (.cells e s rows false a)
  | b => b
def frz (G : Nat → Option Blk) : List Nat → Nat → Option Blk
  | [] => G
  | id :: r => frz (upd G [(id, frzB (G id))]) r
theorem frz_nil (G : Nat → Option Blk) : frz G [] = G := rfl
theorem frz_cons (G : Nat → Option Blk) (id : Nat) (r : List Nat) : frz G (id :: r) = frz (upd G [(id, frzB (G id))]) r := rfl

section
variable {E : Env} {W : World}

theorem freeze1 {H : Heap} (hH : RH E W H) {id : Nat} {e : TypeId} {s : Nat} {rows : List (List AV)} {w a : Bool} (hg : H.get id = some (.cells e s rows w a)) :
    Evo E W ⟨E.ι, E.sz, E.U, fun b => if b = E.ι id then max (E.L b) (rows.length * s) else E.L b⟩ W ∧
      RH ⟨E.ι, E.sz, E.U, fun b => if b = E.ι id then max (E.L b) (rows.length * s) else E.L b⟩ W ⟨H.next, upd H.get [(id, some (.cells e s rows false a))]⟩ := by
  obtain ⟨hU, hok⟩ := hH.core.ok id _ hg
  have hv : Evo E W ⟨E.ι, E.sz, E.U, fun b => if b = E.ι id then max (E.L b) (rows.length * s) else E.L b⟩ W := by
    refine ⟨rfl, rfl, rfl, Nat.le_refl _, fun _ h => h, fun _ _ => ⟨rfl, rfl⟩, fun b => ?_, fun _ _ _ => rfl, fun _ _ _ => rfl, fun b cur e f h => ⟨cur, f, h, rfl⟩, fun b hb hf => ?_, fun _ h h' => absurd h' h⟩
    · simp only []; split <;> omega
    · simp only []; rw [if_neg (fun h => hf id hU h.symm)]
  refine ⟨hv, hH.next, fun b hb => ?_, hH.core.inW, fun id' b' hb' => ?_⟩
  · simp only []
    have := hH.core.inW id hU
    rw [if_neg (by omega)]
    exact hH.core.lim b hb
  · simp only [upd] at hb'
    have hsame : ∀ id'' b'', (if id'' = id then some (Blk.cells e s rows false a) else H.get id'') = some b'' → ∃ b0, H.get id'' = some b0 ∧ b''.upto = b0.upto ∧ (b0.app = false → b''.app = false) := fun id'' b'' h => by
      split at h
      · rename_i heq
        injection h with h
        subst h; subst heq
        exact ⟨_, hg, rfl, fun h => h⟩
      · exact ⟨b'', h, rfl, fun h => h⟩
    by_cases hid : id' = id
    · subst hid
      rw [if_pos rfl] at hb'
      injection hb' with hb'
      subst hb'
      obtain ⟨h1, h2, ⟨cur, h3, h4, h5⟩, h6, h7⟩ := hok
      refine ⟨hU, h1, h2, ⟨cur, h3, h4, fun i j row x hr hx => ?_⟩, (fun h => by cases h), fun ha => ?_⟩
      · obtain ⟨v, hv1, hv2⟩ := h5 i j row x hr hx
        exact ⟨v, hv1, hv2.mono hv⟩
      · obtain ⟨h8, h9⟩ := h7 ha
        refine ⟨?_, fun id'' b'' hne hg'' heq => ?_⟩
        · simp only [if_true]; omega
        · obtain ⟨b0, h10, h11, h12⟩ := hsame id'' b'' hg''
          obtain ⟨h13, h14⟩ := h9 id'' b0 hne h10 heq
          exact ⟨by rw [h11]; exact h13, h12 h14⟩
    · rw [if_neg hid] at hb'
      obtain ⟨hU', hok'⟩ := hH.core.ok id' b' hb'
      refine ⟨hU', ?_⟩
      cases b' with
      | map es => exact hok'.elim
      | cells e' s' rows' w' a' =>
      obtain ⟨h1, h2, ⟨cur, h3, h4, h5⟩, h6, h7⟩ := hok'
      refine ⟨h1, h2, ⟨cur, h3, h4, fun i j row x hr hx => ?_⟩, fun hw => ?_, fun ha => ?_⟩
      · obtain ⟨v, hv1, hv2⟩ := h5 i j row x hr hx
        exact ⟨v, hv1, hv2.mono hv⟩
      · obtain ⟨h8, h9⟩ := h6 hw
        refine ⟨?_, fun id'' b'' hne hg'' => ?_⟩
        · simp only []
          rw [if_neg (fun h => h9 id _ (Ne.symm hid) hg h.symm)]
          exact h8
        · obtain ⟨b0, h10, _, _⟩ := hsame id'' b'' hg''
          exact h9 id'' b0 hne h10
      · obtain ⟨h8, h9⟩ := h7 ha
        refine ⟨?_, fun id'' b'' hne hg'' heq => ?_⟩
        · simp only []
          split
          · rename_i heq
            have := (h9 id _ (Ne.symm hid) hg heq.symm).1
            simp only [Blk.upto] at this
            omega
          · exact h8
        · obtain ⟨b0, h10, h11, h12⟩ := hsame id'' b'' hg''
          obtain ⟨h13, h14⟩ := h9 id'' b0 hne h10 heq
          exact ⟨by rw [h11]; exact h13, h12 h14⟩

theorem freezeAll : ∀ (ids : List Nat) {E : Env} {H : Heap}, RH E W H → ∃ L1, Evo E W ⟨E.ι, E.sz, E.U, L1⟩ W ∧ RH ⟨E.ι, E.sz, E.U, L1⟩ W ⟨H.next, frz H.get ids⟩ ∧
    ∀ id, id ∈ ids → ∀ (e : TypeId) (s : Nat) (rows : List (List AV)) (w a : Bool), H.get id = some (.cells e s rows w a) → rows.length * s ≤ L1 (E.ι id)
  | [], E, H, hH => ⟨E.L, Evo.refl E W, hH, fun id h => by cases h⟩
  | id :: r, E, H, hH => by
    have step : ∃ L0, Evo E W ⟨E.ι, E.sz, E.U, L0⟩ W ∧ RH ⟨E.ι, E.sz, E.U, L0⟩ W ⟨H.next, upd H.get [(id, frzB (H.get id))]⟩ ∧
        ∀ (e : TypeId) (s : Nat) (rows : List (List AV)) (w a : Bool), H.get id = some (.cells e s rows w a) → rows.length * s ≤ L0 (E.ι id) := by
      have hsame : ∀ x, frzB x = x → H.get id = x → upd H.get [(id, frzB (H.get id))] = H.get := fun x h1 h2 => by
        funext k
        simp only [upd]
        split
        · rename_i h; subst h; rw [h2, h1]
        · rfl
      cases hg : H.get id with
      | none =>
        rw [← hg, hsame none rfl hg]
        exact ⟨E.L, Evo.refl E W, hH, fun e s rows w a h => by rw [hg] at h; cases h⟩
      | some b =>
        cases b with
        | map es => exact ((hH.core.ok id _ hg).2).elim
        | cells e s rows w a =>
          obtain ⟨h1, h2⟩ := freeze1 hH hg
          refine ⟨_, h1, h2, fun e' s' rows' w' a' h => ?_⟩
          injection h with h
          injection h with he hs hr hw ha
          subst hs; subst hr
          simp only [if_true]
          omega
    obtain ⟨L0, h1, h2, h3⟩ := step
    obtain ⟨L1, h4, h5, h6⟩ := freezeAll r h2
    refine ⟨L1, h1.trans h4, h5, fun id' hid' e s rows w a hg => ?_⟩
    rcases List.mem_cons.1 hid' with rfl | hid'
    · exact Nat.le_trans (h3 e s rows w a hg) (h4.lim _)
    · by_cases heq : id' = id
      · subst heq
        exact Nat.le_trans (h3 e s rows w a hg) (h4.lim _)
      · exact h6 id' hid' e s rows w a (by simp only [upd]; rw [if_neg heq]; exact hg)

theorem expoX1 {G : Nat → Option Blk} {L1 : Nat → Nat} (hG : RC E W G) (hv : Evo E W ⟨E.ι, E.sz, E.U, L1⟩ W) {a : AV} {v : Value} (r : RV E W a v)
    (hL : ∀ id, id ∈ ids1 a → ∀ (e : TypeId) (s : Nat) (rows : List (List AV)) (w a : Bool), G id = some (.cells e s rows w a) → rows.length * s ≤ L1 (E.ι id)) : RV ⟨E.ι, E.sz, E.U, L1⟩ W (expo1 G a) v := by
  unfold expo1
  split
  · rename_i id off len
    split
    · rename_i rows rd hrows
      have hU := (own_inv r).1
      simp only [rowsOf] at hrows
      split at hrows
      · rename_i e s rows' w ap hget
        split at hrows
        · rename_i hle
          simp only [Option.some.injEq, Prod.mk.injEq] at hrows
          obtain ⟨rfl, rfl⟩ := hrows
          rcases (own_inv r).2 with ⟨cap, hv', hlc, cur0, e0, f0, hcur0, hsz0⟩ | ⟨hl0, a0, hv'⟩
          · subst hv'
            obtain ⟨_, hszk, hlen, ⟨cur, hcur, hsize, hcells⟩, _, _⟩ := hG.ok id _ hget
            rw [hcur] at hcur0
            injection hcur0 with hcur0
            injection hcur0 with hcur0 he0 hf0
            subst hcur0; subst he0; subst hf0
            have hLc := hL id (by simp [ids1]) e s rows' w ap hget
            have hget' : ∀ (i : Nat) row, ((rows'.drop off).take len)[i]? = some row → rows'[off + i]? = some row := fun i row hr => by
              rw [List.getElem?_take] at hr
              split at hr
              · rwa [List.getElem?_drop] at hr
              · cases hr
            have hll : ((rows'.drop off).take len).length = len := by simp; omega
            have hmul : (off + len) * s ≤ rows'.length * s := Nat.mul_le_mul_right s hle
            refine .snap _ (E.ι id) (off * E.sz id) s len cap (fun i j => cur.getD ((off + i) * s + j) undef) hll.symm hlc (fun i row hr => hlen _ row (hget' i row hr)) ?_ (fun i j row x h1 h2 => ?_) (fun i j row x h1 h2 => ?_)
            · rw [hll, hszk, ← Nat.add_mul]; simp only []; omega
            · obtain ⟨u, h3, h4⟩ := hcells _ j row x (hget' i row h1) h2
              rw [cell_of_row W _ _ cur e (0, 0) hcur, hszk]
              have he : off * s + (i * s + j) = (off + i) * s + j := by rw [Nat.add_mul]; omega
              rw [he, h3]
              simp [h3]
            · obtain ⟨u, h3, h4⟩ := hcells _ j row x (hget' i row h1) h2
              simp only [Array.getD_eq_getD_getElem?, h3, Option.getD_some]
              exact h4.mono hv
          · subst hl0; subst hv'
            simp only [List.take_zero]
            exact .snap0 _ _
        · cases hrows
      · cases hrows
    · exact r.mono hv
  · rename_i id i o
    split
    · rename_i e s rows w ap hget
      cases r with
      | ptr _ _ _ hU =>
      obtain ⟨_, hszk, hlen, ⟨cur, hcur, hsize, hcells⟩, _, _⟩ := hG.ok id _ hget
      have hLc := hL id (by simp [ids1]) e s rows w ap hget
      have := RV.sptr (E := ⟨E.ι, E.sz, E.U, L1⟩) (W := W) rows i o (E.ι id) 0 s (fun i j => cur.getD (i * s + j) undef) hlen (by simp only []; omega) (fun i j row x h1 h2 => by
        obtain ⟨u, h3, h4⟩ := hcells i j row x h1 h2
        rw [cell_of_row W _ _ cur e (0, 0) hcur, Nat.zero_add, h3]
        simp [h3]) (fun i j row x h1 h2 => by
        obtain ⟨u, h3, h4⟩ := hcells i j row x h1 h2
        simp only [Array.getD_eq_getD_getElem?, h3, Option.getD_some]
        exact h4.mono hv)
      rw [hszk]
      simpa using this
    · exact r.mono hv
  · exact r.mono hv

theorem expoX2 {G : Nat → Option Blk} {L1 : Nat → Nat} (hG : RC E W G) (hv : Evo E W ⟨E.ι, E.sz, E.U, L1⟩ W) {a : AV} {v : Value} (r : RV E W a v)
    (hL : ∀ id, id ∈ ids2 a → ∀ (e : TypeId) (s : Nat) (rows : List (List AV)) (w a : Bool), G id = some (.cells e s rows w a) → rows.length * s ≤ L1 (E.ι id)) : RV ⟨E.ι, E.sz, E.U, L1⟩ W (expo2 G a) v := by
  unfold expo2
  split
  · rename_i xs
    cases r with
    | agg _ vs hl hr =>
    refine .agg _ vs (by simpa using hl) fun i x v hx hv' => ?_
    rw [List.getElem?_map] at hx
    obtain ⟨y, hy, rfl⟩ := map_some hx
    exact expoX1 hG hv (hr i y v hy hv') fun id hid => hL id (idsAll_mem (List.mem_of_getElem? hy) hid)
  · rename_i f xs ys
    cases r with
    | fn _ _ _ vf vc hl hl2 hr hr2 =>
    refine .fn _ _ _ vf vc (by simpa using hl) (by simpa using hl2) (fun i x v hx hv' => ?_) (fun i x v hx hv' => ?_)
    · rw [List.getElem?_map] at hx
      obtain ⟨y, hy, rfl⟩ := map_some hx
      exact expoX1 hG hv (hr i y v hy hv') fun id hid => hL id (List.mem_append_left _ (idsAll_mem (List.mem_of_getElem? hy) hid))
    · rw [List.getElem?_map] at hx
      obtain ⟨y, hy, rfl⟩ := map_some hx
      exact expoX1 hG hv (hr2 i y v hy hv') fun id hid => hL id (List.mem_append_right _ (idsAll_mem (List.mem_of_getElem? hy) hid))
  · rename_i hne hne2
    refine expoX1 hG hv r fun id hid => hL id ?_
    cases a <;> first | exact hid | exact absurd rfl (hne _) | exact absurd rfl (hne2 _ _ _)

/-- A call that only computes, on blocks of the walk's own. -/
theorem ACall.pureX {P : Program} {n : FuncId} {args0 args : List AV} {Q : AV → Prop} {H : Heap} (h : PCall P n args Q) (he : args0.map (expo2 H.get) = args) (ha : ∀ a ∈ args, NoId a) {K : AV → Heap → Prop}
    (hk : ∀ r, NoId r → Q r → K r ⟨H.next, frz H.get (idsAll ids2 args0)⟩) : ACall P n args0 H K :=
  ⟨h.1, fun E W vs hH hr => by
    obtain ⟨L1, h1, h2, h3⟩ := freezeAll (W := W) (idsAll ids2 args0) hH
    have hrx : RVs ⟨E.ι, E.sz, E.U, L1⟩ W args vs := by
      subst he
      refine ⟨by simpa using hr.1, fun i x v hx hv => ?_⟩
      rw [List.getElem?_map] at hx
      obtain ⟨y, hy, rfl⟩ := map_some hx
      exact expoX2 hH.core h1 (hr.2 i y v hy hv) fun id hid => h3 id (idsAll_mem (List.mem_of_getElem? hy) hid)
    exact (h.run ha h2 hrx).mono fun e W' ⟨v, hev, r, L', h4, h5, h6, h7, h8⟩ => ⟨v, hev, _, r, _, h1.trans h4, h5, h6, hk r h7 h8⟩⟩
end

section
variable {P : Program} {σ : AS}
/-- A call that only computes, on blocks of the walk's own. -/
theorem w_callX {ops : Array Oper} {o : Oper} {rest : List Oper} {K : AS → Prop} {f : Operand} {as : Array Operand} {ts : Array TypeId} {n : FuncId} {args0 args : List AV} {r : AV} {G' : Nat → Option Blk} {p : AS × List Oper} (hop : o.op = .call ⟨.value f, as, ts⟩) (hg : o.guard = none)
    (hp : PCall P n args (· = r)) (hc : calleeA (σ.get true f) (getsA (σ.get true) as.toList) = some (n, args0)) (he : args0.map (expo2 σ.H.get) = args) (hn : ∀ a ∈ args, NoId a) (hG : frz σ.H.get (idsAll ids2 args0) = G')
    (hr : run P ops.toList rest (({ σ with H := ⟨σ.H.next, G'⟩ } : AS).put o.dst true r) = p) (h : aops P true ops p.2 p.1 K) : aops P true ops (o :: rest) σ K := by
  show aop P true ops o σ _
  unfold aop
  simp only [hg]
  unfold aopx
  simp only [hop]
  rw [hc, bindK_some]
  refine ACall.pureX hp he hn fun r' _ hr' => ?_
  subst hr'
  rw [hG]
  exact run_ok _ _ hr h

/-- The same, behind a guard that is met. -/
theorem w_callXG {ops : Array Oper} {o : Oper} {rest : List Oper} {K : AS → Prop} {f : Operand} {as : Array Operand} {ts : Array TypeId} {n : FuncId} {args0 args : List AV} {r : AV} {G' : Nat → Option Blk} {p : AS × List Oper} {j : Nat} {want : Bool} (hop : o.op = .call ⟨.value f, as, ts⟩) (hg : o.guard = some (j, want))
    (hp : PCall P n args (· = r)) (hw : gcond (gval ops.toList j σ.env) want = some true) (hc : calleeA (σ.get true f) (getsA (σ.get true) as.toList) = some (n, args0)) (he : args0.map (expo2 σ.H.get) = args) (hn : ∀ a ∈ args, NoId a) (hG : frz σ.H.get (idsAll ids2 args0) = G')
    (hr : run P ops.toList rest (({ σ with H := ⟨σ.H.next, G'⟩ } : AS).put o.dst true r) = p) (h : aops P true ops p.2 p.1 K) : aops P true ops (o :: rest) σ K := by
  show aop P true ops o σ _
  unfold aop
  simp only [hg]
  rw [hw, bindK_some]
  simp only [hold]
  refine .inl (.inr ⟨rfl, ?_⟩)
  unfold aopx
  simp only [hop]
  rw [hc, bindK_some]
  refine ACall.pureX hp he hn fun r' _ hr' => ?_
  subst hr'
  rw [hG]
  exact run_ok _ _ hr h

/-- A call that may write. -/
theorem w_callA {ops : Array Oper} {o : Oper} {rest : List Oper} {K : AS → Prop} {f : Operand} {as : Array Operand} {ts : Array TypeId} {n : FuncId} {args : List AV} {Q : AV → Heap → Prop} (hop : o.op = .call ⟨.value f, as, ts⟩) (hg : o.guard = none)
    (hc : calleeA (σ.get true f) (getsA (σ.get true) as.toList) = some (n, args)) (hp : ACall P n args σ.H Q) (h : ∀ r H', Q r H' → aops P true ops rest (({ σ with H := H' } : AS).put o.dst true r) K) : aops P true ops (o :: rest) σ K := by
  show aop P true ops o σ _
  unfold aop
  simp only [hg]
  unfold aopx
  simp only [hop]
  rw [hc, bindK_some]
  exact hp.mono fun r H' hq => h r H' hq

/-- Go on reckoning. -/
theorem w_go {ops : Array Oper} {l : List Oper} {K : AS → Prop} {p : AS × List Oper} (hr : run P ops.toList l σ = p) (h : aops P true ops p.2 p.1 K) : aops P true ops l σ K := run_ok _ _ hr h
end
attribute [go_sem] ids1 ids2 idsAll frzB frz_nil frz_cons
end Go.AL

/- A layer over the walks: a call whose arguments are read with less. -/
namespace Go.AL
open Go.RowKit
set_option linter.unusedVariables false
set_option linter.unusedSimpArgs false

section
variable {P : Program} {σ : AS}
theorem RVs.wk {E : Env} {W : World} {as bs : List AV} {vs : List Value} (h : Wks as bs) (r : RVs E W as vs) : RVs E W bs vs :=
  ⟨h.1 ▸ r.1, fun i y v hy hv => by
    obtain ⟨x, hx⟩ : ∃ x, as[i]? = some x := ⟨as[i]'(by have := (List.getElem?_eq_some_iff.1 hy).1; have := h.1; omega), by simp⟩
    exact (r.2 i x v hx hv).wk (h.2 i x y hx hy)⟩
theorem PCall.less {n : FuncId} {as bs : List AV} {Q : AV → Prop} (h : PCall P n bs Q) (hw : Wks as bs) : PCall P n as Q :=
  ⟨h.1, fun L W vs hL hr => h.2 L W vs hL (hr.wk hw)⟩
end
theorem wks_mid {xs ys : List AV} : Wks (xs ++ .c (.slice none 0 0) :: ys) (xs ++ .snap [] :: ys) := by
  refine ⟨by simp, fun i x y hx hy => ?_⟩
  rcases Nat.lt_trichotomy i xs.length with h | h | h
  · rw [List.getElem?_append_left h] at hx hy
    rw [hx] at hy; injection hy with hy; subst hy; exact .refl _
  · subst h
    simp at hx hy
    subst hx hy; exact .nil
  · obtain ⟨d, rfl⟩ : ∃ d, i = xs.length + (d + 1) := ⟨i - xs.length - 1, by omega⟩
    rw [List.getElem?_append_right (by omega)] at hx hy
    simp only [Nat.add_sub_cancel_left, List.getElem?_cons_succ] at hx hy
    rw [hx] at hy; injection hy with hy; subst hy; exact .refl _
end Go.AL

/- A layer over the walks: from data to a call on the world. -/
namespace Go.AL
open Go.RowKit
set_option linter.unusedVariables false
set_option linter.unusedSimpArgs false

/-- How many cells of a block may be read for good. -/
def capOf (W : World) (b : Nat) : Nat := match W.heap[b]? with
  | some (.cells cur _ _) => cur.size
  | _ => 0
theorem capOf_out (W : World) (b : Nat) (h : W.heap.size ≤ b) : capOf W b = 0 := by
  unfold capOf; rw [Array.getElem?_eq_none h]

/-- A contract over data, where the answer is a constant. -/
theorem PCall.calls {P : Program} {n : FuncId} {args : List AV} {x : Value} (h : PCall P n args (· = .c x)) (W : World) (vs : List Value) (hr : RVs (Env0 (capOf W)) W args vs) :
    Calls P n vs.toArray W fun e W' => e = .returned x ∧ Below W.heap.size W W' :=
  (h.2 (capOf W) W vs (capOf_out W) hr).mono fun e W' ⟨v, he, r, L', hb, _, _, hrv, _, hq⟩ => by
    subst hq
    cases hrv
    exact ⟨he, hb⟩
end Go.AL

/- A layer over the walks: the words of every walk. -/
namespace Go.AL
attribute [go_sem] Nat.reduceEqDiff Nat.reduceAdd Nat.reduceSub Nat.reduceMul Nat.reduceLT Nat.reduceLeDiff reduceCtorEq Int.reduceToNat Int.reduceLT Int.reduceLE Nat.reduceBEq Nat.reduceBNe IntWalk.iteOmega IntWalk.toNatUp Nat.zero_add Nat.add_zero Int.reduceAdd Int.reduceSub Int.reduceMul Int.reduceNeg IntWalk.i64_in IntWalk.u8_in IntWalk.rem_in Int.reduceBEq Int.reduceBNe Int.zero_add Int.toNat_zero Nat.zero_mul Nat.mul_one Nat.one_mul
attribute [go_sem ↓] reduceIte
end Go.AL

/- A layer over the walks: lists read as rows. -/
namespace Go.AL
open Go.RowKit
set_option linter.unusedVariables false
set_option linter.unusedSimpArgs false

abbrev zV (x : Int) : AV := .c (.int .i64 x)
abbrev bV (b : Bool) : AV := .c (.bool b)

/-- How an element is laid out: so many cells, none of the walk's own. -/
class RowEnc {α : Type} (f : α → List AV) (k : outParam Nat) : Prop where
  len : ∀ a, (f a).length = k
  one : ∀ a, (f a).all AV.one = true
  noId : ∀ a, ∀ x ∈ f a, NoId x

def encL {α : Type} (f : α → List AV) (l : List α) : List (List AV) := l.map f

section
variable {α : Type} {f : α → List AV} {k : Nat}

theorem encL_len (l : List α) : (encL f l).length = l.length := by simp [encL]
theorem encL_nil : encL f [] = [] := rfl
theorem encL_get (d : α) {l : List α} {i : Nat} (h : i < l.length) : (encL f l)[i]? = some (f (l.getD i d)) := by
  simp [encL, h]
theorem encL_take (l : List α) (n : Nat) : (encL f l).take n = encL f (l.take n) := by simp [encL]
theorem encL_drop (l : List α) (n : Nat) : (encL f l).drop n = encL f (l.drop n) := by simp [encL]
theorem encL_app (a b : List α) : encL f a ++ encL f b = encL f (a ++ b) := by simp [encL]
theorem encL_snoc (a : List α) (x : α) : encL f a ++ [f x] = encL f (a ++ [x]) := by simp [encL]
theorem encL_set (l : List α) (i : Nat) (x : α) : (encL f l).set i (f x) = encL f (l.set i x) := by simp [encL, List.map_set]
theorem encL_one (x : α) : [f x] = encL f [x] := rfl
theorem encL_repl (n : Nat) (x : α) : List.replicate n (f x) = encL f (List.replicate n x) := by simp [encL]
theorem encL_isEmpty (l : List α) : (encL f l).isEmpty = l.isEmpty := by simp [encL]
theorem encL_all [h : RowEnc f k] (l : List α) : (encL f l).all (fun r => r.length == k && r.all AV.one) = true := by
  simp only [encL, List.all_map, List.all_eq_true, Function.comp, Bool.and_eq_true, beq_iff_eq]
  exact fun x _ => ⟨h.len x, List.all_eq_true.1 (h.one x)⟩
theorem encL_row [h : RowEnc f k] (l : List α) : (encL f l).all (fun r => r.length == k) = true := by
  simp only [encL, List.all_map, List.all_eq_true, Function.comp, beq_iff_eq]
  exact fun x _ => h.len x
theorem encL_ids [h : RowEnc f k] (l : List α) : ∀ row ∈ encL f l, ∀ x ∈ row, NoId x := by
  intro row hr x hx
  simp only [encL, List.mem_map] at hr
  obtain ⟨a, _, rfl⟩ := hr
  exact h.noId a x hx
theorem encL_noId [h : RowEnc f k] (l : List α) : NoId (.snap (encL f l)) := noId_snap.2 (encL_ids l)
theorem encL_noIdE [h : RowEnc f k] (l : List α) : (∀ row, row ∈ encL f l → ∀ x, x ∈ row → NoId x) = True := eq_true (encL_ids l)
theorem nilA_encL (l : List α) (h : l ≠ []) : nilA (.snap (encL f l)) = some false := by
  cases l with
  | nil => exact absurd rfl h
  | cons => rfl
theorem getD_mem' (d : α) {l : List α} {i : Nat} (h : i < l.length) : l.getD i d ∈ l := by
  rw [List.getD_eq_getElem?_getD, List.getElem?_eq_getElem h]; exact List.getElem_mem h
end

def intRow (x : Int) : List AV := [zV x]
instance : RowEnc intRow 1 := ⟨fun _ => rfl, fun _ => rfl, fun _ x hx => by simp [intRow] at hx; subst hx; exact .c _⟩
def boolRow (x : Bool) : List AV := [bV x]
instance : RowEnc boolRow 1 := ⟨fun _ => rfl, fun _ => rfl, fun _ x hx => by simp [boolRow] at hx; subst hx; exact .c _⟩

theorem ints_snocE (a : List Int) (x : Int) : encL intRow a ++ [[zV x]] = encL intRow (a ++ [x]) := encL_snoc a x
theorem bools_snocE (a : List Bool) (x : Bool) : encL boolRow a ++ [[bV x]] = encL boolRow (a ++ [x]) := encL_snoc a x
theorem bools_setE (l : List Bool) (i : Nat) (x : Bool) : (encL boolRow l).set i [bV x] = encL boolRow (l.set i x) := encL_set l i x
theorem ints_setE (l : List Int) (i : Nat) (x : Int) : (encL intRow l).set i [zV x] = encL intRow (l.set i x) := encL_set l i x
theorem bools_repl (n : Nat) (x : Bool) : List.replicate n [bV x] = encL boolRow (List.replicate n x) := encL_repl (f := boolRow) n x
theorem ints_repl (n : Nat) (x : Int) : List.replicate n [zV x] = encL intRow (List.replicate n x) := encL_repl (f := intRow) n x

attribute [go_sem] encL_len encL_take encL_drop encL_app encL_isEmpty encL_all encL_row encL_noId encL_noIdE ints_snocE bools_snocE bools_setE ints_setE bools_repl ints_repl intRow boolRow List.length_append List.length_set List.append_nil Int.toNat_natCast Nat.sub_zero Int.sub_zero
end Go.AL
