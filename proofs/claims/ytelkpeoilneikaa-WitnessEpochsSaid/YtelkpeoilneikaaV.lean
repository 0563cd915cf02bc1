/- The plain law of the witness: what the events keep. -/
import Derived.Test.YtelkpeoilneikaaI
import Derived.Test.YtelkpeoilneikaaM
import Derived.Test.YtelkpeoilneikaaC
namespace Go.Proofs.Ytelkpeoilneikaa
set_option linter.unusedVariables false
set_option linter.unusedSimpArgs false

/-- a lease of a site -/
structure Ls where
  e : Int
  u : Int
/-- the state of the sites and the witness -/
structure St where
  E : Int
  H : Int
  U : Int
  l : Nat → Ls
  flight : List Msg
  sent : List Int
  now : Int
  owner : Nat → Int
  right : Bool

def St.begin : St := ⟨0, 0, 0, fun _ => ⟨0, 0⟩, [], [], 0, fun _ => 0, true⟩
def St.request (st : St) (m : Msg) : St := { st with flight := st.flight ++ [{ m with number := st.sent.length }], sent := st.sent ++ [st.now] }
def St.req (st : St) (m : Msg) : Req := ⟨st.E, st.H, st.U, st.now, 20, m.kind, m.frm, m.to, m.number, m.value, m.epoch⟩
def St.award (st : St) (x : Msg) : St := if x.kind = 16 ∧ 0 ≤ x.epoch ∧ x.epoch < 80 then { st with right := st.right && (st.owner x.epoch.toNat == 0 || st.owner x.epoch.toNat == x.to + 1), owner := fun k => if k = x.epoch.toNat then x.to + 1 else st.owner k } else st
def St.setL (st : St) (i : Nat) (x : Ls) : St := { st with l := fun k => if k = i then x else st.l k }
def St.handled (st : St) (m : Msg) : St := { st with E := (handleQ (st.req m)).1.e, H := (handleQ (st.req m)).1.h, U := (handleQ (st.req m)).1.u, flight := st.flight ++ (handleQ (st.req m)).2, right := st.right && decide (st.E ≤ (handleQ (st.req m)).1.e) }
def St.learned (st : St) (m : Msg) : St := st.setL m.to.toNat ⟨learnE m.to (st.l m.to.toNat).e (st.l m.to.toNat).u (st.sent.getD m.number.toNat 0) 20 1 m.kind m.to m.value m.epoch, learnU m.to (st.l m.to.toNat).e (st.l m.to.toNat).u (st.sent.getD m.number.toNat 0) 20 1 m.kind m.to m.value m.epoch⟩
def St.receive (st : St) (m : Msg) : St :=
  if m.to = 4 then (handleQ (st.req m)).2.foldl St.award (st.handled m)
  else if m.to < 0 ∨ 2 < m.to ∨ m.number < 0 ∨ (st.sent.length : Int) ≤ m.number then { st with right := false }
  else st.learned m
def St.drop (st : St) (k : Nat) : St := { st with flight := st.flight.take k ++ st.flight.drop (k + 1) }
/-- kind: the event's kind, modulo 7 -/
def St.flightEv (st : St) (kind which : Nat) : St :=
  if st.flight.length = 0 then st
  else if kind = 5 then st.drop (which % st.flight.length)
  else (if kind = 4 then st else st.drop (which % st.flight.length)).receive (st.flight.getD (which % st.flight.length) Msg.zero)
def St.ask (st : St) (i which : Nat) : Int := max (st.l i).e st.E + ((which % 3 : Nat) : Int)
def St.step (st : St) (kind i which : Nat) : St :=
  if kind = 0 then (if askE i (st.l i).e (st.l i).u (st.ask i which) = 0 then st.request (askM i (st.l i).e (st.l i).u (st.ask i which)) else st)
  else if kind = 1 then (if renewE i (st.l i).e (st.l i).u = 0 then st.request (renewM i (st.l i).e (st.l i).u) else st)
  else if kind = 2 then (st.setL i ⟨giveE i (st.l i).e (st.l i).u, giveU i (st.l i).e (st.l i).u⟩).request (giveM i (st.l i).e (st.l i).u)
  else if kind = 6 then { st with now := st.now + ((which % 8 : Nat) : Int) }
  else st.flightEv kind which
def St.holds (st : St) (i : Nat) : Bool := formedB i (st.l i).e (st.l i).u && decide (st.now < (st.l i).u)

/-! ### The invariant -/
def Cov (st : St) (i b : Int) : Prop := b ≤ st.now ∨ (st.H = i ∧ b < st.U)
structure IsReq (N : Int) (st : St) (m : Msg) : Prop where
  to : m.to = 4
  frm : 0 ≤ m.frm ∧ m.frm ≤ 2
  num : 0 ≤ m.number ∧ m.number < st.sent.length
  ep : 0 ≤ m.epoch ∧ m.epoch ≤ N
  kind : m.kind = 15 ∨ m.kind = 17 ∨ (m.kind = 18 ∧ m.epoch < (st.l m.frm.toNat).e)
structure IsAns (st : St) (m : Msg) : Prop where
  to : 0 ≤ m.to ∧ m.to ≤ 2
  num : 0 ≤ m.number ∧ m.number < st.sent.length
  ep : 0 ≤ m.epoch ∧ m.epoch ≤ st.E
  kind : (m.kind = 16 ∧ m.value = 20 ∧ ((st.l m.to.toNat).e ≤ m.epoch → Cov st m.to (st.sent.getD m.number.toNat 0 + 19))) ∨ m.kind = 12
structure Inv (N : Int) (st : St) : Prop where
  nb : N ≤ 200
  e0 : 0 ≤ st.E
  e1 : st.E ≤ N
  h : st.H = -1 ∨ (0 ≤ st.H ∧ st.H ≤ 2)
  u0 : 0 ≤ st.U
  u1 : st.U ≤ st.now + 20
  now0 : 0 ≤ st.now
  now1 : st.now ≤ 10000
  le : ∀ i, i < 3 → 0 ≤ (st.l i).e ∧ (st.l i).e ≤ N
  lu : ∀ i, i < 3 → 0 ≤ (st.l i).u ∧ (st.l i).u ≤ st.now + 20
  lc : ∀ i, i < 3 → 0 < (st.l i).u → (st.l i).e ≤ st.E ∧ Cov st i (st.l i).u
  sent : ∀ x ∈ st.sent, 0 ≤ x ∧ x ≤ st.now
  fl : ∀ m ∈ st.flight, IsReq N st m ∨ IsAns st m
  own : ∀ k, k < 80 → st.owner k ≠ 0 → (k : Int) ≤ st.E
  ownH : st.H ≠ -1 → 0 < st.U → st.E < 80 → st.owner st.E.toNat = st.H + 1
  right : st.right = true

theorem inv_begin : Inv 0 St.begin := by
  refine ⟨?_, ?_, ?_, ?_, ?_, ?_, ?_, ?_, ?_, ?_, ?_, ?_, ?_, ?_, ?_, ?_⟩ <;> simp [St.begin]

theorem getD_mem {α : Type} (l : List α) (k : Nat) (d : α) (h : k < l.length) : l.getD k d ∈ l := by
  simp [List.getD, List.getElem?_eq_getElem h]
theorem getD_append {α : Type} (l l' : List α) (k : Nat) (d : α) (h : k < l.length) : (l ++ l').getD k d = l.getD k d := by
  simp [List.getD, List.getElem?_append_left h]

/-- The invariant does not ask for less when the bound grows. -/
theorem IsReq.mono {N N' : Int} {st : St} {m : Msg} (h : IsReq N st m) (hn : N ≤ N') : IsReq N' st m := ⟨h.to, h.frm, h.num, ⟨h.ep.1, by have := h.ep.2; omega⟩, h.kind⟩
theorem Inv.mono {N N' : Int} {st : St} (h : Inv N st) (hn : N ≤ N') (hb : N' ≤ 200) : Inv N' st :=
  { h with nb := hb, e1 := by have := h.e1; omega, le := fun i hi => ⟨(h.le i hi).1, by have := (h.le i hi).2; omega⟩, fl := fun m hm => (h.fl m hm).imp (fun r => r.mono hn) id }

theorem req_step {N : Int} {st : St} {m m' : Msg} (h : IsReq N st m) : IsReq N (st.request m') m :=
  ⟨h.to, h.frm, ⟨h.num.1, by simp [St.request]; have := h.num.2; omega⟩, h.ep, h.kind⟩
theorem ans_step {st : St} {m m' : Msg} (h : IsAns st m) : IsAns (st.request m') m := by
  refine ⟨h.to, ⟨h.num.1, by simp [St.request]; have := h.num.2; omega⟩, h.ep, ?_⟩
  rcases h.kind with ⟨h1, h2, h3⟩ | h1
  · refine .inl ⟨h1, h2, fun he => ?_⟩
    have := h3 he
    have hk : m.number.toNat < st.sent.length := by have := h.num; omega
    simp only [St.request]
    rw [getD_append _ _ _ _ hk]
    exact this
  · exact .inr h1
theorem inv_request {N : Int} {st : St} {m : Msg} (h : Inv N st) (hm : IsReq N (st.request m) { m with number := st.sent.length }) : Inv N (st.request m) := by
  refine { h with sent := ?_, fl := ?_, lc := h.lc }
  · intro x hx
    simp only [St.request, List.mem_append, List.mem_singleton] at hx
    rcases hx with hx | rfl
    · exact h.sent x hx
    · exact ⟨h.now0, by simp [St.request]⟩
  · intro x hx
    simp only [St.request, List.mem_append, List.mem_singleton] at hx
    rcases hx with hx | rfl
    · exact (h.fl x hx).imp req_step ans_step
    · exact .inl hm

/-! ### What the witness does with a request -/
def HGrant (q : Req) (r : Req × List Msg) : Prop := r.1.e = q.epoch ∧ r.1.h = q.frm ∧ r.1.u = q.now + 20 ∧ r.2 = [⟨16, 4, q.frm, q.number, 20, q.epoch⟩] ∧ ((q.e < q.epoch ∧ (q.h = -1 ∨ q.u ≤ q.now ∨ q.h = q.frm)) ∨ (q.epoch = q.e ∧ q.h = q.frm ∧ q.h ≠ -1 ∧ q.now < q.u))
def HRefuse (q : Req) (r : Req × List Msg) : Prop := r.1.e = q.e ∧ r.1.h = q.h ∧ r.1.u = q.u ∧ r.2 = [⟨12, 4, q.frm, q.number, 0, q.e⟩]
def HFree (q : Req) (r : Req × List Msg) : Prop := r.1.e = q.e ∧ r.1.h = -1 ∧ r.1.u = 0 ∧ r.2 = [] ∧ q.kind = 18 ∧ q.epoch = q.e ∧ q.frm = q.h
def HNone (q : Req) (r : Req × List Msg) : Prop := r.1.e = q.e ∧ r.1.h = q.h ∧ r.1.u = q.u ∧ r.2 = []
theorem renew_cases (q : Req) (ht : q.term = 20) (hu : q.u ≤ q.now + 20) : HGrant q (renewQ q) ∨ HRefuse q (renewQ q) := by
  unfold renewQ
  cases ho : ownB q
  · right; simp [HRefuse]
  · left
    simp only [ownB, heldB, Bool.and_eq_true, beq_iff_eq, bne_iff_ne, decide_eq_true_eq] at ho
    obtain ⟨⟨h1, h2⟩, h3, h4⟩ := ho
    have hmx : mx q.u (q.now + q.term) = q.now + 20 := by unfold mx; rw [ht]; split <;> omega
    refine ⟨h1.symm, h2, hmx, ?_, .inr ⟨h1, h2, h3, h4⟩⟩
    simp [ht, h1]
theorem handle_cases (q : Req) (hok : okB q = true) (ht : q.term = 20) (hu : q.u ≤ q.now + 20) (hk : q.kind = 15 ∨ q.kind = 17 ∨ q.kind = 18) :
    HGrant q (handleQ q) ∨ HRefuse q (handleQ q) ∨ HFree q (handleQ q) ∨ HNone q (handleQ q) := by
  unfold handleQ
  rw [if_pos hok]
  rcases hk with hk | hk | hk
  · rw [if_pos hk]
    unfold acquireQ
    cases hT : takeB q
    · rcases renew_cases q ht hu with h | h
      · exact .inl h
      · exact .inr (.inl h)
    · left
      simp only [takeB, heldB, Bool.and_eq_true, decide_eq_true_eq, Bool.or_eq_true, Bool.not_eq_true', Bool.and_eq_false_iff, beq_iff_eq, decide_eq_false_iff_not, bne_eq_false_iff_eq] at hT
      obtain ⟨h1, h2⟩ := hT
      refine ⟨rfl, rfl, by simp [ht], by simp [ht], .inl ⟨h1, ?_⟩⟩
      rcases h2 with (h2 | h2) | h2
      · exact .inl h2
      · exact .inr (.inl (by omega))
      · exact .inr (.inr h2)
  · rw [if_neg (by omega), if_pos hk]
    rcases renew_cases q ht hu with h | h
    · exact .inl h
    · exact .inr (.inl h)
  · rw [if_neg (by omega), if_neg (by omega), if_pos hk]
    unfold releaseQ
    cases hr : (q.epoch == q.e && q.frm == q.h)
    · right; right; right
      simp [HNone]
    · right; right; left
      simp only [Bool.and_eq_true, beq_iff_eq] at hr
      exact ⟨rfl, rfl, rfl, rfl, hk, hr.1, hr.2⟩
theorem ok_req {N : Int} {st : St} {m : Msg} (h : Inv N st) (hm : IsReq N st m) : okB (st.req m) = true := by
  have := h.nb; have := h.e0; have := h.e1; have := h.h; have := h.u0; have := h.u1; have := h.now0; have := h.now1; have := hm.frm; have := hm.ep
  have c1 : inR 0 st.E 1073741824 = true := inR_t (by omega) (by omega)
  have c2 : inR 0 st.U 1073741824 = true := inR_t (by omega) (by omega)
  have c3 : inR 0 st.now 1073741824 = true := inR_t (by omega) (by omega)
  have c4 : inR 1 20 (1073741824 - st.now) = true := inR_t (by omega) (by omega)
  have c5 : inR 0 m.frm 3 = true := inR_t (by omega) (by omega)
  have c6 : inR 0 m.epoch 1073741824 = true := inR_t (by omega) (by omega)
  have c7 : (!(st.H != -1) || inR 0 st.H 3) = true := by
    by_cases hh : st.H = -1
    · simp [hh]
    · have : inR 0 st.H 3 = true := inR_t (by omega) (by omega)
      simp [this]
  show (inR 0 st.E 1073741824 && inR 0 st.U 1073741824 && (!(st.H != -1) || inR 0 st.H 3) && inR 0 st.now 1073741824 && inR 1 20 (1073741824 - st.now) && inR 0 m.frm 3 && inR 0 m.epoch 1073741824) = true
  rw [c1, c2, c7, c3, c4, c5, c6]
  rfl

/-! ### The invariant behind a handled request -/
theorem award_other {st : St} {x : Msg} (h : ¬ x.kind = 16) : st.award x = st := by unfold St.award; rw [if_neg (fun c => h c.1)]

theorem award_yes {st : St} {x : Msg} (h : x.kind = 16 ∧ 0 ≤ x.epoch ∧ x.epoch < 80) : st.award x = { st with right := st.right && (st.owner x.epoch.toNat == 0 || st.owner x.epoch.toNat == x.to + 1), owner := fun k => if k = x.epoch.toNat then x.to + 1 else st.owner k } := by unfold St.award; rw [if_pos h]
theorem award_no {st : St} {x : Msg} (h : ¬ x.epoch < 80) : st.award x = st := by unfold St.award; rw [if_neg (fun c => h c.2.2)]
theorem inv_refuse {N : Int} {st : St} {x : Msg} (h : Inv N st) (hx : IsAns st x) : Inv N { st with flight := st.flight ++ [x] } := by
  refine { h with fl := ?_ }
  intro y hy
  simp only [List.mem_append, List.mem_singleton] at hy
  rcases hy with hy | rfl
  · exact (h.fl y hy).imp (fun r => ⟨r.to, r.frm, r.num, r.ep, r.kind⟩) (fun a => ⟨a.to, a.num, a.ep, a.kind⟩)
  · exact .inr ⟨hx.to, hx.num, hx.ep, hx.kind⟩

/-- Taking a lease: the holder becomes m.frm, in the epoch m.epoch, until now + 20. -/
theorem inv_take {N : Int} {st : St} {m : Msg} {st' : St} (h : Inv N st) (hm : IsReq N st m) (hc : (st.E < m.epoch ∧ (st.H = -1 ∨ st.U ≤ st.now ∨ st.H = m.frm)) ∨ (m.epoch = st.E ∧ st.H = m.frm ∧ st.H ≠ -1 ∧ st.now < st.U))
    (hE : st'.E = m.epoch) (hH : st'.H = m.frm) (hU : st'.U = st.now + 20) (hl : st'.l = st.l) (hf : st'.flight = st.flight ++ [⟨16, 4, m.frm, m.number, 20, m.epoch⟩]) (hs : st'.sent = st.sent) (hn : st'.now = st.now)
    (ho : st'.owner = fun k => if m.epoch < 80 ∧ k = m.epoch.toNat then m.frm + 1 else st.owner k) (hr : st'.right = (st.right && decide (st.E ≤ m.epoch) && (decide (80 ≤ m.epoch) || (st.owner m.epoch.toNat == 0 || st.owner m.epoch.toNat == m.frm + 1)))) : Inv N st' := by
  have hge : st.E ≤ m.epoch := by rcases hc with ⟨h1, _⟩ | ⟨h1, _⟩ <;> omega
  have hcov : ∀ i b : Int, 0 ≤ i → Cov st i b → Cov st' i b := by
    intro i b hi hb
    rcases hb with hb | ⟨hb1, hb2⟩
    · exact .inl (by rw [hn]; exact hb)
    · by_cases hbn : b ≤ st.now
      · exact .inl (by rw [hn]; exact hbn)
      · right
        have hu := h.u1
        refine ⟨?_, by rw [hU]; omega⟩
        rw [hH]
        rcases hc with ⟨_, h2⟩ | ⟨_, h2, _⟩
        · rcases h2 with h2 | h2 | h2 <;> omega
        · omega
  have hm1 := hm.frm
  have hm2 := hm.ep
  have hu := h.u1
  have hn0 := h.now0
  refine ⟨h.nb, by rw [hE]; exact hm2.1, by rw [hE]; exact hm2.2, by rw [hH]; omega, by rw [hU]; omega, by rw [hU, hn]; omega, by rw [hn]; exact hn0, by rw [hn]; exact h.now1, by rw [hl]; exact h.le, by rw [hl, hn]; exact h.lu, ?_, by rw [hs, hn]; exact h.sent, ?_, ?_, ?_, ?_⟩
  · intro i hi hpos
    rw [hl] at hpos ⊢
    obtain ⟨c1, c2⟩ := h.lc i hi hpos
    exact ⟨by rw [hE]; omega, hcov _ _ (by omega) c2⟩
  · intro y hy
    rw [hf] at hy
    simp only [List.mem_append, List.mem_singleton] at hy
    rcases hy with hy | rfl
    · rcases h.fl y hy with r | a
      · exact .inl ⟨r.to, r.frm, by rw [hs]; exact r.num, r.ep, by rw [hl]; exact r.kind⟩
      · refine .inr ⟨a.to, by rw [hs]; exact a.num, ⟨a.ep.1, by rw [hE]; have := a.ep.2; omega⟩, ?_⟩
        rcases a.kind with ⟨k1, k2, k3⟩ | k1
        · exact .inl ⟨k1, k2, fun he => by rw [hs]; exact hcov _ _ a.to.1 (k3 (by rw [hl] at he; exact he))⟩
        · exact .inr k1
    · refine .inr ⟨hm1, by rw [hs]; exact hm.num, ⟨hm2.1, by rw [hE]; exact Int.le_refl _⟩, .inl ⟨rfl, rfl, fun _ => .inr ⟨hH, ?_⟩⟩⟩
      have hlt : m.number.toNat < st.sent.length := by have := hm.num; omega
      have := h.sent _ (getD_mem st.sent m.number.toNat 0 hlt)
      rw [hU, hs]
      show st.sent.getD m.number.toNat 0 + 19 < _
      omega
  · intro k hk hne
    rw [ho] at hne
    rw [hE]
    by_cases hk2 : m.epoch < 80 ∧ k = m.epoch.toNat
    · omega
    · simp only [hk2, if_false] at hne
      have := h.own k hk hne
      omega
  · intro _ _ hlt
    rw [ho, hE, hH]
    rw [hE] at hlt
    simp [hlt]
  · rw [hr, h.right]
    simp only [Bool.true_and, Bool.and_eq_true, decide_eq_true_eq, Bool.or_eq_true, beq_iff_eq]
    refine ⟨hge, ?_⟩
    by_cases h80 : 80 ≤ m.epoch
    · exact .inl h80
    · right
      rcases hc with ⟨h1, _⟩ | ⟨h1, h2, h3, h4⟩
      · left
        apply Classical.byContradiction
        intro hne
        have := h.own m.epoch.toNat (by omega) hne
        omega
      · right
        have := h.ownH h3 (by omega) (by omega)
        rw [h1, this, h2]

theorem inv_same {N : Int} {st st' : St} (h : Inv N st) (hE : st'.E = st.E) (hH : st'.H = st.H) (hU : st'.U = st.U) (hl : st'.l = st.l) (hf : st'.flight = st.flight) (hs : st'.sent = st.sent) (hn : st'.now = st.now) (ho : st'.owner = st.owner) (hr : st'.right = st.right) : Inv N st' := by
  have : st' = st := by
    cases st; cases st'
    simp only at hE hH hU hl hf hs hn ho hr
    subst hE hH hU hl hf hs hn ho hr
    rfl
  rw [this]; exact h
/-- A lease is given up: the epoch's holder leaves. -/
theorem inv_free {N : Int} {st : St} {m : Msg} {st' : St} (h : Inv N st) (hm : IsReq N st m) (hk : m.kind = 18) (he : m.epoch = st.E) (hf' : m.frm = st.H)
    (hE : st'.E = st.E) (hH : st'.H = -1) (hU : st'.U = 0) (hl : st'.l = st.l) (hf : st'.flight = st.flight) (hs : st'.sent = st.sent) (hn : st'.now = st.now) (ho : st'.owner = st.owner) (hr : st'.right = st.right) : Inv N st' := by
  have hm1 := hm.frm
  have hlt : st.E < (st.l m.frm.toNat).e := by
    rcases hm.kind with h1 | h1 | ⟨h1, h2⟩
    · omega
    · omega
    · omega
  have hcov : ∀ i b : Int, i ≠ m.frm → Cov st i b → Cov st' i b := by
    intro i b hi hb
    rcases hb with hb | ⟨hb1, hb2⟩
    · exact .inl (by rw [hn]; exact hb)
    · exact absurd (hf'.trans hb1).symm hi
  have hu := h.u1
  have hn0 := h.now0
  refine ⟨h.nb, by rw [hE]; exact h.e0, by rw [hE]; exact h.e1, .inl hH, by rw [hU]; omega, by rw [hU, hn]; omega, by rw [hn]; exact hn0, by rw [hn]; exact h.now1, by rw [hl]; exact h.le, by rw [hl, hn]; exact h.lu, ?_, by rw [hs, hn]; exact h.sent, ?_, ?_, ?_, by rw [hr]; exact h.right⟩
  · intro i hi hpos
    rw [hl] at hpos ⊢
    obtain ⟨c1, c2⟩ := h.lc i hi hpos
    refine ⟨by rw [hE]; exact c1, hcov _ _ (fun e => ?_) c2⟩
    have : i = m.frm.toNat := by omega
    rw [this] at c1
    omega
  · intro y hy
    rw [hf] at hy
    rcases h.fl y hy with r | a
    · exact .inl ⟨r.to, r.frm, by rw [hs]; exact r.num, r.ep, by rw [hl]; exact r.kind⟩
    · refine .inr ⟨a.to, by rw [hs]; exact a.num, by rw [hE]; exact a.ep, ?_⟩
      rcases a.kind with ⟨k1, k2, k3⟩ | k1
      · refine .inl ⟨k1, k2, fun hle => ?_⟩
        rw [hl] at hle
        rw [hs]
        refine hcov _ _ (fun e => ?_) (k3 hle)
        rw [e] at hle
        have := a.ep.2
        omega
      · exact .inr k1
  · intro k hk hne
    rw [ho] at hne
    rw [hE]
    exact h.own k hk hne
  · intro hne
    exact absurd hH hne

theorem inv_handled {N : Int} {st : St} {m : Msg} (h : Inv N st) (hm : IsReq N st m) : Inv N ((handleQ (st.req m)).2.foldl St.award (st.handled m)) := by
  have hk : (st.req m).kind = 15 ∨ (st.req m).kind = 17 ∨ (st.req m).kind = 18 := by
    rcases hm.kind with h1 | h1 | ⟨h1, _⟩
    · exact .inl h1
    · exact .inr (.inl h1)
    · exact .inr (.inr h1)
  rcases handle_cases (st.req m) (ok_req h hm) rfl h.u1 hk with ⟨r1, r2, r3, r4, r5⟩ | ⟨r1, r2, r3, r4⟩ | ⟨r1, r2, r3, r4, r5, r6, r7⟩ | ⟨r1, r2, r3, r4⟩
  · rw [r4]
    simp only [List.foldl_cons, List.foldl_nil]
    have hm2 := hm.ep
    have hf : (st.handled m).flight = st.flight ++ [⟨16, 4, m.frm, m.number, 20, m.epoch⟩] := by simp only [St.handled]; rw [r4]; rfl
    have hr : (st.handled m).right = (st.right && decide (st.E ≤ m.epoch)) := by simp only [St.handled]; rw [r1]; rfl
    by_cases h80 : m.epoch < 80
    · rw [award_yes (show ((16 : Int) = 16 ∧ 0 ≤ m.epoch ∧ m.epoch < 80) from ⟨rfl, hm2.1, h80⟩)]
      refine inv_take (m := m) h hm r5 r1 r2 r3 rfl hf rfl rfl ?_ ?_
      · funext k
        show (if k = m.epoch.toNat then m.frm + 1 else st.owner k) = _
        by_cases hk2 : k = m.epoch.toNat <;> simp [h80, hk2]
      · have h80' : decide (80 ≤ m.epoch) = false := by simp; omega
        show ((st.handled m).right && (st.owner m.epoch.toNat == 0 || st.owner m.epoch.toNat == m.frm + 1)) = _
        rw [hr, h80', Bool.false_or]
    · rw [award_no (x := ⟨16, 4, (st.req m).frm, (st.req m).number, 20, (st.req m).epoch⟩) (show ¬ m.epoch < 80 from h80)]
      refine inv_take (m := m) h hm r5 r1 r2 r3 rfl hf rfl rfl ?_ ?_
      · funext k
        show st.owner k = _
        simp [h80]
      · have h80' : decide (80 ≤ m.epoch) = true := by simp; omega
        rw [hr, h80']
        simp
  · rw [r4]
    simp only [List.foldl_cons, List.foldl_nil]
    rw [award_other (by show ¬ (12 : Int) = 16; decide)]
    have hx : IsAns st ⟨12, 4, m.frm, m.number, 0, st.E⟩ := ⟨hm.frm, hm.num, ⟨h.e0, Int.le_refl _⟩, .inr rfl⟩
    refine inv_same (inv_refuse h hx) r1 r2 r3 rfl ?_ rfl rfl rfl ?_
    · simp only [St.handled]; rw [r4]; rfl
    · simp only [St.handled]; rw [r1]; simp [St.req]
  · rw [r4]
    simp only [List.foldl_nil]
    refine inv_free h hm r5 r6 r7 r1 r2 r3 rfl ?_ rfl rfl rfl ?_
    · simp only [St.handled]; rw [r4]; simp
    · simp only [St.handled]; rw [r1]; simp [St.req]
  · rw [r4]
    simp only [List.foldl_nil]
    refine inv_same h r1 r2 r3 rfl ?_ rfl rfl rfl ?_
    · simp only [St.handled]; rw [r4]; simp
    · simp only [St.handled]; rw [r1]; simp [St.req]

/-! ### Answers -/
theorem okL_ans {N : Int} {st : St} {m : Msg} (h : Inv N st) (hm : IsAns st m) (s : Int) (hs : 0 ≤ s ∧ s ≤ st.now) : okL m.to (st.l m.to.toNat).e (st.l m.to.toNat).u s 20 1 m.to m.epoch = true := by
  have a1 := hm.to
  have a2 := hm.ep
  have a3 := h.le m.to.toNat (by omega)
  have a4 := h.lu m.to.toNat (by omega)
  have := h.nb; have := h.now1; have := h.now0; have := h.e1
  have c1 : inR 0 m.to 3 = true := inR_t (by omega) (by omega)
  have c2 : inR 0 (st.l m.to.toNat).e 1073741824 = true := inR_t (by omega) (by omega)
  have c3 : inR 0 (st.l m.to.toNat).u 1073741824 = true := inR_t (by omega) (by omega)
  have c4 : inR 0 s 1073741824 = true := inR_t (by omega) (by omega)
  have c5 : inR 0 20 1073741824 = true := inR_t (by omega) (by omega)
  have c6 : inR 0 1 1073741824 = true := inR_t (by omega) (by omega)
  have c7 : inR 0 m.epoch 1073741824 = true := inR_t (by omega) (by omega)
  simp [okL, formedB, c1, c2, c3, c4, c5, c6, c7]
theorem until_20 {s : Int} (h0 : 0 ≤ s) (h1 : s ≤ 10000) : untilL s 20 1 20 = s + 19 := by
  unfold untilL
  rw [if_pos (by omega), if_neg (by omega), if_neg (by omega), if_neg (by omega)]
  omega

theorem inv_learned {N : Int} {st : St} {m : Msg} (h : Inv N st) (hm : IsAns st m) : Inv N (st.learned m) := by
  have a1 := hm.to
  have a2 := hm.ep
  have hnum : m.number.toNat < st.sent.length := by have := hm.num; omega
  have hs := h.sent _ (getD_mem st.sent m.number.toNat 0 hnum)
  have hok := okL_ans h hm _ hs
  have ht3 : m.to.toNat < 3 := by omega
  have hle := h.le m.to.toNat ht3
  have hlu := h.lu m.to.toNat ht3
  have hlc := h.lc m.to.toNat ht3
  have hc : ((m.to.toNat : Nat) : Int) = m.to := by omega
  have he1 := h.e1
  have hnow := h.now1
  -- what the lease becomes
  have key : ∃ e' u', (st.learned m) = st.setL m.to.toNat ⟨e', u'⟩ ∧ (st.l m.to.toNat).e ≤ e' ∧ e' ≤ N ∧ 0 ≤ u' ∧ u' ≤ st.now + 20 ∧ (0 < u' → e' ≤ st.E ∧ Cov st m.to u') := by
    refine ⟨_, _, rfl, ?_⟩
    unfold learnE learnU
    rw [if_pos hok, if_pos hok]
    rcases hm.kind with ⟨k1, k2, k3⟩ | k1
    · rw [if_pos k1, if_pos k1, k2, until_20 hs.1 (by omega)]
      by_cases g : (st.l m.to.toNat).e < m.epoch
      · rw [if_pos g, if_pos g]
        exact ⟨by omega, by omega, by omega, by omega, fun _ => ⟨a2.2, k3 (by omega)⟩⟩
      · rw [if_neg g, if_neg g]
        by_cases g2 : m.epoch = (st.l m.to.toNat).e
        · rw [if_pos g2]
          by_cases g3 : (st.l m.to.toNat).u < st.sent.getD m.number.toNat 0 + 19
          · rw [if_pos g3]
            exact ⟨by omega, by omega, by omega, by omega, fun _ => ⟨by omega, k3 (by omega)⟩⟩
          · rw [if_neg g3]
            exact ⟨by omega, by omega, by omega, by omega, fun hp => by rw [hc] at hlc; exact hlc hp⟩
        · rw [if_neg g2]
          exact ⟨by omega, by omega, by omega, by omega, fun hp => by rw [hc] at hlc; exact hlc hp⟩
    · rw [if_neg (show ¬ m.kind = 16 by omega), if_neg (show ¬ m.kind = 16 by omega), if_pos k1]
      by_cases g : (st.l m.to.toNat).e < m.epoch
      · rw [if_pos g]
        exact ⟨by omega, by omega, by omega, by omega, fun hp => by omega⟩
      · rw [if_neg g]
        exact ⟨by omega, by omega, by omega, by omega, fun hp => by rw [hc] at hlc; exact hlc hp⟩
  obtain ⟨e', u', hst, h1, h2, h3, h4, h5⟩ := key
  rw [hst]
  refine { h with le := ?_, lu := ?_, lc := ?_, fl := ?_ }
  · intro i hi
    simp only [St.setL]
    by_cases hi2 : i = m.to.toNat
    · rw [if_pos hi2]; exact ⟨by show 0 ≤ e'; omega, h2⟩
    · rw [if_neg hi2]; exact h.le i hi
  · intro i hi
    simp only [St.setL]
    by_cases hi2 : i = m.to.toNat
    · rw [if_pos hi2]; exact ⟨h3, h4⟩
    · rw [if_neg hi2]; exact h.lu i hi
  · intro i hi
    simp only [St.setL]
    by_cases hi2 : i = m.to.toNat
    · rw [if_pos hi2]
      intro hp
      rw [hi2, hc]
      exact h5 hp
    · rw [if_neg hi2]; exact h.lc i hi
  · intro y hy
    rcases h.fl y hy with r | a
    · refine .inl ⟨r.to, r.frm, r.num, r.ep, ?_⟩
      rcases r.kind with q | q | ⟨q1, q2⟩
      · exact .inl q
      · exact .inr (.inl q)
      · refine .inr (.inr ⟨q1, ?_⟩)
        simp only [St.setL]
        by_cases hi2 : y.frm.toNat = m.to.toNat
        · rw [if_pos hi2]; rw [hi2] at q2; show y.epoch < e'; omega
        · rw [if_neg hi2]; exact q2
    · refine .inr ⟨a.to, a.num, a.ep, ?_⟩
      rcases a.kind with ⟨k1, k2, k3⟩ | k1
      · refine .inl ⟨k1, k2, fun hle => ?_⟩
        simp only [St.setL] at hle
        by_cases hi2 : y.to.toNat = m.to.toNat
        · rw [if_pos hi2] at hle
          have hle' : e' ≤ y.epoch := hle
          exact k3 (by rw [hi2]; omega)
        · rw [if_neg hi2] at hle
          exact k3 hle
      · exact .inr k1

/-! ### A step -/
theorem inv_drop {N : Int} {st : St} (h : Inv N st) (k : Nat) : Inv N (st.drop k) := by
  refine { h with fl := ?_ }
  intro m hm
  simp only [St.drop, List.mem_append] at hm
  have hm' : m ∈ st.flight := by
    rcases hm with hm | hm
    · exact List.mem_of_mem_take hm
    · exact List.mem_of_mem_drop hm
  exact (h.fl m hm').imp (fun r => ⟨r.to, r.frm, r.num, r.ep, r.kind⟩) (fun a => ⟨a.to, a.num, a.ep, a.kind⟩)
theorem inv_receive {N : Int} {st : St} {m : Msg} (h : Inv N st) (hm : IsReq N st m ∨ IsAns st m) : Inv N (st.receive m) := by
  unfold St.receive
  rcases hm with r | a
  · rw [if_pos r.to]
    exact inv_handled h r
  · have := a.to
    have := a.num
    rw [if_neg (by omega), if_neg (by omega)]
    exact inv_learned h a
theorem inv_flightEv {N : Int} {st : St} (h : Inv N st) (kind which : Nat) : Inv N (st.flightEv kind which) := by
  unfold St.flightEv
  by_cases h0 : st.flight.length = 0
  · rw [if_pos h0]; exact h
  · rw [if_neg h0]
    have hk : which % st.flight.length < st.flight.length := Nat.mod_lt _ (by omega)
    have hm := h.fl _ (getD_mem st.flight _ Msg.zero hk)
    by_cases h5 : kind = 5
    · rw [if_pos h5]; exact inv_drop h _
    · rw [if_neg h5]
      by_cases h4 : kind = 4
      · rw [if_pos h4]; exact inv_receive h hm
      · rw [if_neg h4]
        refine inv_receive (inv_drop h _) ?_
        exact hm.imp (fun r => ⟨r.to, r.frm, r.num, r.ep, r.kind⟩) (fun a => ⟨a.to, a.num, a.ep, a.kind⟩)
theorem formed_l {N : Int} {st : St} (h : Inv N st) {i : Nat} (hi : i < 3) : formedB i (st.l i).e (st.l i).u = true := by
  have a3 := h.le i hi
  have a4 := h.lu i hi
  have := h.nb; have := h.now1
  have c1 : inR 0 (i : Int) 3 = true := inR_t (by omega) (by omega)
  have c2 : inR 0 (st.l i).e 1073741824 = true := inR_t (by omega) (by omega)
  have c3 : inR 0 (st.l i).u 1073741824 = true := inR_t (by omega) (by omega)
  simp [formedB, c1, c2, c3]
theorem inv_ask {N : Int} {st : St} (h : Inv N st) (hn : N + 3 ≤ 200) {i : Nat} (hi : i < 3) (which : Nat) (ha : askE i (st.l i).e (st.l i).u (st.ask i which) = 0) : Inv (N + 3) (st.request (askM i (st.l i).e (st.l i).u (st.ask i which))) := by
  have hF := formed_l h hi
  have hle := h.le i hi
  have he0 := h.e0
  have he1 := h.e1
  have hask : (st.l i).e ≤ st.ask i which ∧ st.ask i which ≤ N + 2 := by
    unfold St.ask
    have : which % 3 < 3 := Nat.mod_lt _ (by omega)
    omega
  unfold askE at ha
  rw [if_pos hF] at ha
  have hR : inR 1 (st.ask i which) 1073741824 = true := by
    cases hx : inR 1 (st.ask i which) 1073741824
    · rw [hx] at ha; simp at ha
    · rfl
  refine inv_request (h.mono (by omega) hn) ?_
  unfold askM
  rw [if_pos hF, if_pos hR, if_neg (by omega)]
  exact ⟨rfl, by dsimp only; omega, by dsimp only; simp [St.request]; omega, by dsimp only; omega, .inl rfl⟩
theorem inv_renew {N : Int} {st : St} (h : Inv N st) {i : Nat} (hi : i < 3) (ha : renewE i (st.l i).e (st.l i).u = 0) : Inv N (st.request (renewM i (st.l i).e (st.l i).u)) := by
  have hF := formed_l h hi
  have hle := h.le i hi
  unfold renewE at ha
  rw [if_pos hF] at ha
  have hu : ¬ (st.l i).u = 0 := fun e => by rw [if_pos e] at ha; simp at ha
  refine inv_request h ?_
  unfold renewM
  rw [if_pos hF, if_neg hu]
  exact ⟨rfl, by dsimp only; omega, by dsimp only; simp [St.request]; omega, by dsimp only; omega, .inr (.inl rfl)⟩
theorem inv_give {N : Int} {st : St} (h : Inv N st) (hn : N + 3 ≤ 200) {i : Nat} (hi : i < 3) : Inv (N + 3) ((st.setL i ⟨giveE i (st.l i).e (st.l i).u, giveU i (st.l i).e (st.l i).u⟩).request (giveM i (st.l i).e (st.l i).u)) := by
  have hF := formed_l h hi
  have hle := h.le i hi
  have hE : giveE i (st.l i).e (st.l i).u = (st.l i).e + 1 := by unfold giveE; rw [if_pos hF, if_neg (by omega)]
  have hU : giveU i (st.l i).e (st.l i).u = 0 := by unfold giveU; rw [if_pos hF]
  have hM : giveM i (st.l i).e (st.l i).u = ⟨18, i, 4, 0, 0, (st.l i).e⟩ := by unfold giveM; rw [if_pos hF]
  rw [hE, hU, hM]
  have h1 : Inv (N + 3) (st.setL i ⟨(st.l i).e + 1, 0⟩) := by
    have h' := h.mono (N' := N + 3) (by omega) hn
    have hn0 := h.now0
    refine { h' with le := ?_, lu := ?_, lc := ?_, fl := ?_ }
    · intro k hk
      simp only [St.setL]
      by_cases e : k = i
      · rw [if_pos e]; exact ⟨by show 0 ≤ (st.l i).e + 1; omega, by show (st.l i).e + 1 ≤ N + 3; omega⟩
      · rw [if_neg e]; exact h'.le k hk
    · intro k hk
      simp only [St.setL]
      by_cases e : k = i
      · rw [if_pos e]; exact ⟨Int.le_refl _, by show 0 ≤ st.now + 20; omega⟩
      · rw [if_neg e]; exact h'.lu k hk
    · intro k hk
      simp only [St.setL]
      by_cases e : k = i
      · rw [if_pos e]; intro hp; exact absurd hp (by show ¬ (0 : Int) < 0; omega)
      · rw [if_neg e]; exact h'.lc k hk
    · intro y hy
      rcases h'.fl y hy with r | a
      · refine .inl ⟨r.to, r.frm, r.num, r.ep, ?_⟩
        rcases r.kind with q | q | ⟨q1, q2⟩
        · exact .inl q
        · exact .inr (.inl q)
        · refine .inr (.inr ⟨q1, ?_⟩)
          simp only [St.setL]
          by_cases e : y.frm.toNat = i
          · rw [if_pos e]; rw [e] at q2; show y.epoch < (st.l i).e + 1; omega
          · rw [if_neg e]; exact q2
      · refine .inr ⟨a.to, a.num, a.ep, ?_⟩
        rcases a.kind with ⟨k1, k2, k3⟩ | k1
        · refine .inl ⟨k1, k2, fun hle2 => ?_⟩
          simp only [St.setL] at hle2
          by_cases e : y.to.toNat = i
          · rw [if_pos e] at hle2
            have hle3 : (st.l i).e + 1 ≤ y.epoch := hle2
            exact k3 (by rw [e]; omega)
          · rw [if_neg e] at hle2; exact k3 hle2
        · exact .inr k1
  refine inv_request h1 ?_
  refine ⟨rfl, by dsimp only; omega, by dsimp only; simp [St.request, St.setL]; omega, by dsimp only; omega, .inr (.inr ⟨rfl, ?_⟩)⟩
  simp [St.request, St.setL]
  omega
theorem inv_step {N : Int} {st : St} (h : Inv N st) (hn : N + 3 ≤ 200) (ht : st.now + 8 ≤ 10000) {i : Nat} (hi : i < 3) (kind which : Nat) : Inv (N + 3) (st.step kind i which) := by
  have h' := h.mono (N' := N + 3) (by omega) hn
  unfold St.step
  by_cases k0 : kind = 0
  · rw [if_pos k0]
    by_cases ha : askE i (st.l i).e (st.l i).u (st.ask i which) = 0
    · rw [if_pos ha]; exact inv_ask h hn hi which ha
    · rw [if_neg ha]; exact h'
  · rw [if_neg k0]
    by_cases k1 : kind = 1
    · rw [if_pos k1]
      by_cases ha : renewE i (st.l i).e (st.l i).u = 0
      · rw [if_pos ha]; exact inv_renew h' hi ha
      · rw [if_neg ha]; exact h'
    · rw [if_neg k1]
      by_cases k2 : kind = 2
      · rw [if_pos k2]; exact inv_give h hn hi
      · rw [if_neg k2]
        by_cases k6 : kind = 6
        · rw [if_pos k6]
          have hw : which % 8 < 8 := Nat.mod_lt _ (by omega)
          refine { h' with u1 := ?_, now0 := ?_, now1 := ?_, lu := ?_, lc := ?_, sent := ?_, fl := ?_ }
          · have := h.u1; dsimp only; omega
          · have := h.now0; dsimp only; omega
          · dsimp only; omega
          · intro k hk; have := h.lu k hk; dsimp only; omega
          · intro k hk hp
            obtain ⟨c1, c2⟩ := h.lc k hk hp
            refine ⟨c1, ?_⟩
            rcases c2 with c2 | c2
            · left; dsimp only; omega
            · exact .inr c2
          · intro x hx; have := h.sent x hx; dsimp only; omega
          · intro y hy
            rcases h'.fl y hy with r | a
            · exact .inl ⟨r.to, r.frm, r.num, r.ep, r.kind⟩
            · refine .inr ⟨a.to, a.num, a.ep, ?_⟩
              rcases a.kind with ⟨q1, q2, q3⟩ | q1
              · refine .inl ⟨q1, q2, fun hle => ?_⟩
                rcases q3 hle with c2 | c2
                · left; dsimp only; omega
                · exact .inr c2
              · exact .inr q1
        · rw [if_neg k6]; exact inv_flightEv h' kind which

/-! ### What follows -/
theorem holds_cov {N : Int} {st : St} (h : Inv N st) {i : Nat} (hi : i < 3) (hh : st.holds i = true) : st.H = i ∧ (st.l i).e ≤ st.E ∧ st.now < st.U := by
  simp only [St.holds, Bool.and_eq_true, decide_eq_true_eq] at hh
  have hn := h.now0
  obtain ⟨c1, c2⟩ := h.lc i hi (by omega)
  rcases c2 with c2 | ⟨c2, c3⟩
  · omega
  · exact ⟨c2, c1, by omega⟩
theorem holds_one {N : Int} {st : St} (h : Inv N st) {i j : Nat} (hi : i < 3) (hj : j < 3) (h1 : st.holds i = true) (h2 : st.holds j = true) : i = j := by
  have a := (holds_cov h hi h1).1
  have b := (holds_cov h hj h2).1
  omega
theorem inv_witness {N : Int} {st : St} (h : Inv N st) : witB st.E st.H st.U = true := by
  have := h.nb; have := h.e0; have := h.e1; have := h.h; have := h.u0; have := h.u1; have := h.now0; have := h.now1
  have c1 : inR 0 st.E 1073741824 = true := inR_t (by omega) (by omega)
  have c2 : inR 0 st.U 1073741824 = true := inR_t (by omega) (by omega)
  have c7 : (!(st.H != -1) || inR 0 st.H 3) = true := by
    by_cases hh : st.H = -1
    · simp [hh]
    · have : inR 0 st.H 3 = true := inR_t (by omega) (by omega)
      simp [this]
  unfold witB
  rw [c1, c2, c7]
  rfl
/-- The events of a list, one after another: an event is a kind (modulo 7), a site (modulo 3), a number. -/
def St.run (st : St) : List (Nat × Nat × Nat) → St
  | [] => st
  | x :: l => (st.step x.1 x.2.1 x.2.2).run l
theorem step_now {st : St} (kind i which : Nat) : (st.step kind i which).now ≤ st.now + 7 := by
  unfold St.step St.flightEv St.receive
  have hw : which % 8 < 8 := Nat.mod_lt _ (by omega)
  have haw : ∀ (l : List Msg) (s : St), (l.foldl St.award s).now = s.now := by
    intro l
    induction l with
    | nil => intro s; rfl
    | cons x l ih =>
      intro s
      rw [List.foldl_cons, ih]
      unfold St.award
      split <;> rfl
  repeat' split
  all_goals first
    | (simp only [haw, St.handled, St.drop, St.request, St.setL, St.learned]; omega)
    | omega
    | (dsimp only; omega)
theorem step_now0 {st : St} (kind i which : Nat) : st.now ≤ (st.step kind i which).now := by
  unfold St.step St.flightEv St.receive
  have haw : ∀ (l : List Msg) (s : St), (l.foldl St.award s).now = s.now := by
    intro l
    induction l with
    | nil => intro s; rfl
    | cons x l ih =>
      intro s
      rw [List.foldl_cons, ih]
      unfold St.award
      split <;> rfl
  repeat' split
  all_goals first
    | (simp only [haw, St.handled, St.drop, St.request, St.setL, St.learned]; omega)
    | omega
    | (dsimp only; omega)
theorem inv_run : ∀ (l : List (Nat × Nat × Nat)) {N : Int} {st : St}, Inv N st → (∀ x ∈ l, x.2.1 < 3) → N + 3 * (l.length : Int) ≤ 200 → st.now + 8 * (l.length : Int) ≤ 10000 → Inv (N + 3 * (l.length : Int)) (st.run l)
  | [], N, st, h, _, _, _ => by simpa [St.run] using h
  | x :: l, N, st, h, hx, hn, ht => by
    simp only [List.length_cons] at hn ht
    have h1 := inv_step h (by omega) (by omega) (hx x (.head _)) x.1 x.2.2
    have h2 := step_now (st := st) x.1 x.2.1 x.2.2
    have := inv_run l h1 (fun y hy => hx y (.tail _ hy)) (by omega) (by omega)
    have e : N + 3 + 3 * (l.length : Int) = N + 3 * ((x :: l).length : Int) := by simp only [List.length_cons]; omega
    rw [e] at this
    exact this
/-- After any events, when all leases have expired, a site that asks and whose messages arrive at once holds a lease until the term less the margin has passed. -/
theorem grants {N : Int} {st : St} (h : Inv N st) (hn : N + 3 ≤ 200) {i : Nat} (hi : i < 3) (hnow : st.now + 50 ≤ 10000) :
    ∃ st1 ep, ep = max (st.l i).e st.E + 1 ∧ askE i (st.l i).e (st.l i).u ep = 0 ∧ askM i (st.l i).e (st.l i).u ep = ⟨15, i, 4, 0, 0, ep⟩ ∧
      st1 = ((({ st with flight := [], now := st.now + 30 } : St).request ⟨15, i, 4, 0, 0, ep⟩).flightEv 3 0).flightEv 3 0 ∧ (st1.l i).e = ep ∧ (st1.l i).u = st.now + 49 ∧ st1.now = st.now + 30 := by
  have hF := formed_l h hi
  have hle := h.le i hi
  have hlu := h.lu i hi
  have he0 := h.e0
  have he1 := h.e1
  have hu1 := h.u1
  have hn0 := h.now0
  have hH := h.h
  have hu0 := h.u0
  generalize hep : max (st.l i).e st.E + 1 = ep
  have hep1 : (st.l i).e < ep ∧ st.E < ep ∧ ep ≤ N + 1 := by omega
  have hR : inR 1 ep 1073741824 = true := inR_t (by omega) (by omega)
  refine ⟨_, ep, rfl, ?_, ?_, rfl, ?_⟩
  · unfold askE; rw [if_pos hF, if_pos hR, if_neg (by omega)]
  · unfold askM; rw [if_pos hF, if_pos hR, if_neg (by omega)]
  · generalize hs0 : ({ st with flight := [], now := st.now + 30 } : St).request ⟨15, i, 4, 0, 0, ep⟩ = s0
    have f0 : s0.flight = [⟨15, i, 4, st.sent.length, 0, ep⟩] := by rw [← hs0]; simp [St.request]
    have q0 : s0.req ⟨15, i, 4, st.sent.length, 0, ep⟩ = ⟨st.E, st.H, st.U, st.now + 30, 20, 15, i, 4, st.sent.length, 0, ep⟩ := by rw [← hs0]; rfl
    have c1 : inR 0 st.E 1073741824 = true := inR_t (by omega) (by omega)
    have c2 : inR 0 st.U 1073741824 = true := inR_t (by omega) (by omega)
    have c3 : inR 0 (st.now + 30) 1073741824 = true := inR_t (by omega) (by omega)
    have c4 : inR 1 20 (1073741824 - (st.now + 30)) = true := inR_t (by omega) (by omega)
    have c5 : inR 0 (i : Int) 3 = true := inR_t (by omega) (by omega)
    have c6 : inR 0 ep 1073741824 = true := inR_t (by omega) (by omega)
    have hok : okB ⟨st.E, st.H, st.U, st.now + 30, 20, 15, i, 4, st.sent.length, 0, ep⟩ = true := by
      simp only [okB]
      rw [inv_witness h, c3, c4, c5, c6]
      rfl
    have hT : takeB ⟨st.E, st.H, st.U, st.now + 30, 20, 15, i, 4, st.sent.length, 0, ep⟩ = true := by
      simp only [takeB, heldB]
      have d1 : decide (st.E < ep) = true := by simp; omega
      have d2 : decide (st.now + 30 < st.U) = false := by simp; omega
      rw [d1, d2]
      simp
    have hh : handleQ ⟨st.E, st.H, st.U, st.now + 30, 20, 15, i, 4, st.sent.length, 0, ep⟩ = (⟨ep, i, st.now + 30 + 20, st.now + 30, 20, 15, i, 4, st.sent.length, 0, ep⟩, [⟨16, 4, i, st.sent.length, 20, ep⟩]) := by
      unfold handleQ acquireQ
      rw [if_pos hok, if_pos rfl, if_pos hT]
    have e1 : s0.flightEv 3 0 = (s0.drop 0).receive ⟨15, i, 4, st.sent.length, 0, ep⟩ := by
      unfold St.flightEv
      rw [if_neg (by rw [f0]; simp), if_neg (by omega), if_neg (by omega), f0]
      rfl
    generalize hs1 : (s0.drop 0).receive ⟨15, i, 4, st.sent.length, 0, ep⟩ = s1
    rw [e1, hs1]
    have r0 : (s0.drop 0).req ⟨15, i, 4, st.sent.length, 0, ep⟩ = ⟨st.E, st.H, st.U, st.now + 30, 20, 15, i, 4, st.sent.length, 0, ep⟩ := by rw [← q0]; rfl
    have haw : ∀ (x : Msg) (s : St), (s.award x).flight = s.flight ∧ (s.award x).l = s.l ∧ (s.award x).sent = s.sent ∧ (s.award x).now = s.now := by
      intro x s; unfold St.award; split <;> exact ⟨rfl, rfl, rfl, rfl⟩
    have k1 : s1 = ((s0.drop 0).handled ⟨15, i, 4, st.sent.length, 0, ep⟩).award ⟨16, 4, i, st.sent.length, 20, ep⟩ := by
      rw [← hs1]
      unfold St.receive
      rw [if_pos rfl, r0, hh]
      rfl
    have f1 : s1.flight = [⟨16, 4, i, st.sent.length, 20, ep⟩] := by
      rw [k1, (haw _ _).1]
      simp only [St.handled]
      rw [r0, hh]
      simp [St.drop, f0]
    have l1 : s1.l = st.l := by rw [k1, (haw _ _).2.1, ← hs0]; rfl
    have t1 : s1.sent = st.sent ++ [st.now + 30] := by rw [k1, (haw _ _).2.2.1, ← hs0]; rfl
    have n1 : s1.now = st.now + 30 := by rw [k1, (haw _ _).2.2.2, ← hs0]; rfl
    have e2 : s1.flightEv 3 0 = (s1.drop 0).receive ⟨16, 4, i, st.sent.length, 20, ep⟩ := by
      unfold St.flightEv
      rw [if_neg (by rw [f1]; simp), if_neg (by omega), if_neg (by omega), f1]
      rfl
    rw [e2]
    unfold St.receive
    have hlen : (s1.drop 0).sent.length = st.sent.length + 1 := by show s1.sent.length = _; rw [t1]; simp
    rw [if_neg (by dsimp only; omega), if_neg (by dsimp only; rw [hlen]; omega)]
    have hsent : (s1.drop 0).sent.getD st.sent.length 0 = st.now + 30 := by show s1.sent.getD st.sent.length 0 = _; rw [t1]; simp [List.getD]
    have hl2 : (s1.drop 0).l = st.l := l1
    simp only [St.learned, St.setL, Int.toNat_natCast, if_true, hl2, hsent]
    have okl : okL i (st.l i).e (st.l i).u (st.now + 30) 20 1 i ep = true := by
      have d1 : inR 0 20 1073741824 = true := inR_t (by omega) (by omega)
      have d2 : inR 0 1 1073741824 = true := inR_t (by omega) (by omega)
      simp [okL, hF, c3, d1, d2, c6]
    refine ⟨?_, ?_, n1⟩
    · unfold learnE; rw [if_pos okl, if_pos rfl, if_pos (by omega)]
    · unfold learnU; rw [if_pos okl, if_pos rfl, if_pos (by omega), until_20 (by omega) (by omega)]; omega
end Go.Proofs.Ytelkpeoilneikaa
