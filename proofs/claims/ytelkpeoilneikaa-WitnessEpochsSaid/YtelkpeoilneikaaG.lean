/- Contracts: the site's side of a lease. -/
import Derived.Test.YtelkpeoilneikaaF
import Derived.Deep.Light
import Derived.RegionTactic
import Derived.Deep.QuietTactic
import Derived.BigQuiet
import Derived.Deep.RegionHeld3
namespace Go.Proofs.Ytelkpeoilneikaa
open Go.RowKit
set_option linter.unusedSimpArgs false
set_option linter.unusedVariables false
attribute [local go_sem] ltB_addr cellA_past frozenA_past setCellA_past

def mx (a b : Int) : Int := if a < b then b else a
def renewQ (q : Req) : Req × List Msg := if ownB q = true then ({ q with u := mx q.u (q.now + q.term) }, [⟨16, 4, q.frm, q.number, q.term, q.e⟩]) else (q, [⟨12, 4, q.frm, q.number, 0, q.e⟩])
def takeB (q : Req) : Bool := decide (q.e < q.epoch) && (!(heldB q.h q.u q.now) || q.h == q.frm)
def acquireQ (q : Req) : Req × List Msg := if takeB q = true then ({ q with e := q.epoch, h := q.frm, u := q.now + q.term }, [⟨16, 4, q.frm, q.number, q.term, q.epoch⟩]) else renewQ q
def releaseQ (q : Req) : Req × List Msg := if (q.epoch == q.e && q.frm == q.h) = true then ({ q with h := -1, u := 0 }, []) else (q, [])

theorem msgRow_new (w0 : World) (m : Msg) (s : Nat) (hs : s = w0.heap.size) (B : Nat) (hB : B ≤ s) : MsgRow B (w0.alloc (.cells #[.int .i64 m.kind, .int .i64 m.frm, .int .i64 m.to, .int .i64 m.number, .int .i64 m.value, .int .i64 m.epoch, .slice none 0 0, .slice none 0 0] 27)) (.slice (some ⟨s, 0, none⟩) 1 1) [m] := by
  subst hs
  refine ⟨_, 1, rfl, by simp, fun i hi => ⟨w0.heap.size, rfl, hB, by simp, by simp, fun j hj => ?_⟩⟩
  have : i = 0 := by simpa using hi
  subst this
  have hh : ∀ j, ((w0.alloc (.cells #[.int .i64 m.kind, .int .i64 m.frm, .int .i64 m.to, .int .i64 m.number, .int .i64 m.value, .int .i64 m.epoch, .slice none 0 0, .slice none 0 0] 27))).cell? ⟨w0.heap.size, j, none⟩ = (#[.int .i64 m.kind, .int .i64 m.frm, .int .i64 m.to, .int .i64 m.number, .int .i64 m.value, .int .i64 m.epoch, .slice none 0 0, .slice none 0 0] : Array Value)[j]? := fun j => World.cell?_alloc_new _ _ _ _
  rw [hh]
  have : j = 0 ∨ j = 1 ∨ j = 2 ∨ j = 3 ∨ j = 4 ∨ j = 5 ∨ j = 6 ∨ j = 7 := by omega
  rcases this with rfl | rfl | rfl | rfl | rfl | rfl | rfl | rfl <;> rfl
theorem msgRow_nil (B : Nat) (w : World) : MsgRow B w (.slice none 0 0) [] := ⟨none, 0, rfl, by simp, fun i hi => by simp at hi⟩
theorem MsgRow.below {w w' : World} {v : Value} {B : Nat} {ms : List Msg} (h : MsgRow B w v ms) (hb : Below w.heap.size w w') : MsgRow B w' v ms := by
  obtain ⟨o, cap, rfl, hl, hf⟩ := h
  refine ⟨o, cap, rfl, hl, fun i hi => ?_⟩
  obtain ⟨b, rfl, h0, h1, h2, h3⟩ := hf i hi
  exact ⟨b, rfl, h0, Nat.lt_of_lt_of_le h1 hb.size, h2, fun j hj => (hb.cell (p := ⟨b, _, none⟩) h1).trans (h3 j hj)⟩
theorem MsgRow.mono {w : World} {v : Value} {B B' : Nat} {ms : List Msg} (h : MsgRow B w v ms) (hB : B' ≤ B) : MsgRow B' w v ms := by
  obtain ⟨o, cap, rfl, hl, hf⟩ := h
  refine ⟨o, cap, rfl, hl, fun i hi => ?_⟩
  obtain ⟨b, rfl, h0, h1⟩ := hf i hi
  exact ⟨b, rfl, Nat.le_trans hB h0, h1⟩
theorem MsgRow.setCell {w : World} {v : Value} {B : Nat} {ms : List Msg} (h : MsgRow B w v ms) (p : Addr) (hp : p.block < B) (x : Value) : MsgRow B (w.setCell p x) v ms := by
  obtain ⟨o, cap, rfl, hl, hf⟩ := h
  refine ⟨o, cap, rfl, hl, fun i hi => ?_⟩
  obtain ⟨b, rfl, h0, h1, h2, h3⟩ := hf i hi
  refine ⟨b, rfl, h0, by simpa using h1, h2, fun j hj => ?_⟩
  rw [World.cell?_setCell_other _ _ _ _ (fun e => by rw [e] at hp; simp at hp; omega)]
  exact h3 j hj
theorem MsgRow.drew {w : World} {v : Value} {B : Nat} {ms : List Msg} (h : MsgRow B w v ms) : MsgRow B w.drew v ms := h.below ((Below.refl _ _).drew)

theorem ReqAt.drew {w : World} {b : Nat} {q : Req} (h : ReqAt w b q) : ReqAt w.drew b q := h
theorem ReqAt.drewN {w : World} {b n : Nat} {q : Req} (h : ReqAt w b q) : ReqAt (w.drewN n) b q := h.below (below_drewN _ _ _)
theorem ReqAt.alloc {w : World} {b : Nat} {q : Req} (h : ReqAt w b q) (o : Obj) : ReqAt (w.alloc o) b q := h.below ((Below.refl _ _).alloc (Nat.le_refl _) _)
theorem ReqAt.setE {w : World} {b : Nat} {q : Req} (h : ReqAt w b q) (x : Int) : ReqAt (w.setCell ⟨b, 0, none⟩ (.int .i64 x)) b { q with e := x } := by
  obtain ⟨q0, q1, q2, q3, q4, q5, q6, q7, q8, q9, q10, f0, f1, f2, hlt⟩ := h
  have ho : ∀ o, o ≠ 0 → (w.setCell ⟨b, 0, none⟩ (.int .i64 x)).cell? ⟨b, o, none⟩ = w.cell? ⟨b, o, none⟩ := fun o h => World.cell?_setCell_other _ _ _ _ (by simp; try omega)
  refine ⟨World.cell?_setCell_same _ _ _ q0, ?_, ?_, ?_, ?_, ?_, ?_, ?_, ?_, ?_, ?_, by simp; exact f0, by simp; exact f1, by simp; exact f2, by simp; exact hlt⟩
  all_goals (rw [ho _ (by decide)]; assumption)
theorem ReqAt.setH {w : World} {b : Nat} {q : Req} (h : ReqAt w b q) (x : Int) : ReqAt (w.setCell ⟨b, 1, none⟩ (.int .i64 x)) b { q with h := x } := by
  obtain ⟨q0, q1, q2, q3, q4, q5, q6, q7, q8, q9, q10, f0, f1, f2, hlt⟩ := h
  have ho : ∀ o, o ≠ 1 → (w.setCell ⟨b, 1, none⟩ (.int .i64 x)).cell? ⟨b, o, none⟩ = w.cell? ⟨b, o, none⟩ := fun o h => World.cell?_setCell_other _ _ _ _ (by simp; try omega)
  refine ⟨?_, World.cell?_setCell_same _ _ _ q1, ?_, ?_, ?_, ?_, ?_, ?_, ?_, ?_, ?_, by simp; exact f0, by simp; exact f1, by simp; exact f2, by simp; exact hlt⟩
  all_goals (rw [ho _ (by decide)]; assumption)
theorem ReqAt.setU {w : World} {b : Nat} {q : Req} (h : ReqAt w b q) (x : Int) : ReqAt (w.setCell ⟨b, 2, none⟩ (.int .i64 x)) b { q with u := x } := by
  obtain ⟨q0, q1, q2, q3, q4, q5, q6, q7, q8, q9, q10, f0, f1, f2, hlt⟩ := h
  have ho : ∀ o, o ≠ 2 → (w.setCell ⟨b, 2, none⟩ (.int .i64 x)).cell? ⟨b, o, none⟩ = w.cell? ⟨b, o, none⟩ := fun o h => World.cell?_setCell_other _ _ _ _ (by simp; try omega)
  refine ⟨?_, ?_, World.cell?_setCell_same _ _ _ q2, ?_, ?_, ?_, ?_, ?_, ?_, ?_, ?_, by simp; exact f0, by simp; exact f1, by simp; exact f2, by simp; exact hlt⟩
  all_goals (rw [ho _ (by decide)]; assumption)

theorem ReqAt.take {w : World} {b : Nat} {q : Req} (h : ReqAt w b q) (x y z : Int) : ReqAt (((w.setCell ⟨b, 0, none⟩ (.int .i64 x)).setCell ⟨b, 1, none⟩ (.int .i64 y)).setCell ⟨b, 2, none⟩ (.int .i64 z)) b { e := x, h := y, u := z, now := q.now, term := q.term, kind := q.kind, frm := q.frm, to := q.to, number := q.number, value := q.value, epoch := q.epoch } :=
  ((h.setE x).setH y).setU z
theorem ReqAt.free {w : World} {b : Nat} {q : Req} (h : ReqAt w b q) (y z : Int) : ReqAt ((w.setCell ⟨b, 1, none⟩ (.int .i64 y)).setCell ⟨b, 2, none⟩ (.int .i64 z)) b { e := q.e, h := y, u := z, now := q.now, term := q.term, kind := q.kind, frm := q.frm, to := q.to, number := q.number, value := q.value, epoch := q.epoch } :=
  (h.setH y).setU z
theorem below_of_new {b : Nat} {w w1 : World} (h : Below b w w1) (hb : b ≤ w1.heap.size) (o : Obj) : Below b w (w1.alloc o).drew := (h.alloc hb o).drew

set_option maxHeartbeats 1000000 in
theorem renew_q (b : Nat) (q : Req) (w : World) (hq : ReqAt w b q) (n1 : 0 ≤ q.now) (n2 : q.now ≤ 1073741824) (t1 : 1 ≤ q.term) (t2 : q.term ≤ 1073741824) :
    Calls Try.prog 36 #[.pointer (some ⟨b, 0, none⟩)] w fun e w' => ∃ v, e = .returned v ∧ MsgRow w.heap.size w' v (renewQ q).2 ∧ ReqAt w' b (renewQ q).1 ∧ Below b w w' := by
  have HQ := Lib.hid hq
  obtain ⟨q0, q1, q2, q3, q4, q5, q6, q7, q8, q9, q10, f0, f1, f2, hlt⟩ := hq
  cases h1 : ownB q
  · have HR := Lib.hid (show renewQ q = (q, [⟨12, 4, q.frm, q.number, 0, q.e⟩]) from by simp [renewQ, h1])
    go_enter Try.func36, Try.ntmps36
    go_wp2_with (first | (go_at_call 48; refine (own_any b q _ HQ.out).mono ?_; rintro e w' ⟨rfl, n, rfl⟩) | (go_at_call 49; refine (refuse_any b q _ HQ.out.drewN).mono ?_; rintro e w' ⟨rfl, rfl⟩))
    go_ret
    rw [HR.out]
    refine ⟨.slice (some ⟨w.heap.size, 0, none⟩) 1 1, rfl, ?_, ?_, ?_⟩
    · (dsimp only; with_reducible (repeat (refine MsgRow.drew ?_)); exact msgRow_new _ ⟨12, 4, q.frm, q.number, 0, q.e⟩ _ (by simp) _ (by simp))
    · ((try dsimp only); with_reducible (repeat (first | refine ReqAt.drew ?_ | refine ReqAt.alloc ?_ _)); first | exact HQ.out | exact HQ.out.drewN | exact HQ.out.drewN.take _ _ _ | exact HQ.out.drewN.setU _ | exact HQ.out.drewN.free _ _)
    · (go_light; with_reducible (repeat (first | exact Below.refl _ _ | refine Below.setCell ?_ (by first | omega | (simp; done) | (simp; omega)) _ | refine Below.alloc ?_ (by first | omega | (simp; done) | (simp; omega)) _ | refine Below.drew ?_ | refine Below.trans ?_ (below_drewN _ _ _) | refine Below.trans ?_ (Below.mono (by assumption) (by first | omega | (simp; done) | (simp; omega))))))
  · by_cases hM : q.u < q.now + q.term
    · have HR := Lib.hid (show renewQ q = ({ q with u := q.now + q.term }, [⟨16, 4, q.frm, q.number, q.term, q.e⟩]) from by simp [renewQ, h1, mx, hM])
      go_enter Try.func36, Try.ntmps36
      go_wp2_with (first | (go_at_call 48; refine (own_any b q _ HQ.out).mono ?_; rintro e w' ⟨rfl, n, rfl⟩))
      go_region
      go_wp2_with (first | (go_at_call 47; refine (grant_any b { q with u := q.now + q.term } _ (by ((try dsimp only); with_reducible (repeat (first | refine ReqAt.drew ?_ | refine ReqAt.alloc ?_ _)); first | exact HQ.out | exact HQ.out.drewN | exact HQ.out.drewN.take _ _ _ | exact HQ.out.drewN.setU _ | exact HQ.out.drewN.free _ _))).mono ?_; rintro e w' ⟨rfl, rfl⟩))
      go_ret
      rw [HR.out]
      refine ⟨.slice (some ⟨w.heap.size, 0, none⟩) 1 1, rfl, ?_, ?_, ?_⟩
      · (dsimp only; with_reducible (repeat (refine MsgRow.drew ?_)); exact msgRow_new _ ⟨16, 4, q.frm, q.number, q.term, q.e⟩ _ (by simp) _ (by simp))
      · ((try dsimp only); with_reducible (repeat (first | refine ReqAt.drew ?_ | refine ReqAt.alloc ?_ _)); first | exact HQ.out | exact HQ.out.drewN | exact HQ.out.drewN.take _ _ _ | exact HQ.out.drewN.setU _ | exact HQ.out.drewN.free _ _)
      · (go_light; with_reducible (repeat (first | exact Below.refl _ _ | refine Below.setCell ?_ (by first | omega | (simp; done) | (simp; omega)) _ | refine Below.alloc ?_ (by first | omega | (simp; done) | (simp; omega)) _ | refine Below.drew ?_ | refine Below.trans ?_ (below_drewN _ _ _) | refine Below.trans ?_ (Below.mono (by assumption) (by first | omega | (simp; done) | (simp; omega))))))
    · have HR := Lib.hid (show renewQ q = ({ q with u := q.u }, [⟨16, 4, q.frm, q.number, q.term, q.e⟩]) from by simp [renewQ, h1, mx, hM])
      go_enter Try.func36, Try.ntmps36
      go_wp2_with (first | (go_at_call 48; refine (own_any b q _ HQ.out).mono ?_; rintro e w' ⟨rfl, n, rfl⟩))
      go_region
      go_wp2_with (first | (go_at_call 47; refine (grant_any b { q with u := q.u } _ (by ((try dsimp only); with_reducible (repeat (first | refine ReqAt.drew ?_ | refine ReqAt.alloc ?_ _)); first | exact HQ.out | exact HQ.out.drewN | exact HQ.out.drewN.take _ _ _ | exact HQ.out.drewN.setU _ | exact HQ.out.drewN.free _ _))).mono ?_; rintro e w' ⟨rfl, rfl⟩))
      go_ret
      rw [HR.out]
      refine ⟨.slice (some ⟨w.heap.size, 0, none⟩) 1 1, rfl, ?_, ?_, ?_⟩
      · (dsimp only; with_reducible (repeat (refine MsgRow.drew ?_)); exact msgRow_new _ ⟨16, 4, q.frm, q.number, q.term, q.e⟩ _ (by simp) _ (by simp))
      · ((try dsimp only); with_reducible (repeat (first | refine ReqAt.drew ?_ | refine ReqAt.alloc ?_ _)); first | exact HQ.out | exact HQ.out.drewN | exact HQ.out.drewN.take _ _ _ | exact HQ.out.drewN.setU _ | exact HQ.out.drewN.free _ _)
      · (go_light; with_reducible (repeat (first | exact Below.refl _ _ | refine Below.setCell ?_ (by first | omega | (simp; done) | (simp; omega)) _ | refine Below.alloc ?_ (by first | omega | (simp; done) | (simp; omega)) _ | refine Below.drew ?_ | refine Below.trans ?_ (below_drewN _ _ _) | refine Below.trans ?_ (Below.mono (by assumption) (by first | omega | (simp; done) | (simp; omega))))))

theorem held_val (b : Nat) (q : Req) (w : World) (hq : ReqAt w b q) (x : Bool) (hx : heldB q.h q.u q.now = x) :
    Calls Try.prog 46 #[.pointer (some ⟨b, 0, none⟩)] w fun e w' => e = .returned (.bool x) ∧ ∃ n, w' = w.drewN n := by subst hx; exact held_any b q w hq
theorem drewN_below {b n : Nat} {w w' : World} (h : Below b (w.drewN n) w') : Below b w w' := (below_drewN _ _ _).trans h
set_option maxHeartbeats 1000000 in
theorem acquire_q (b : Nat) (q : Req) (w : World) (hq : ReqAt w b q) (n1 : 0 ≤ q.now) (n2 : q.now ≤ 1073741824) (t1 : 1 ≤ q.term) (t2 : q.term ≤ 1073741824) :
    Calls Try.prog 35 #[.pointer (some ⟨b, 0, none⟩)] w fun e w' => ∃ v, e = .returned v ∧ MsgRow w.heap.size w' v (acquireQ q).2 ∧ ReqAt w' b (acquireQ q).1 ∧ Below b w w' := by
  have HQ := Lib.hid hq
  obtain ⟨q0, q1, q2, q3, q4, q5, q6, q7, q8, q9, q10, f0, f1, f2, hlt⟩ := hq
  cases hT : takeB q
  · have HR := Lib.hid (show acquireQ q = renewQ q from by simp [acquireQ, hT])
    by_cases h1 : q.e < q.epoch
    · have h2 : heldB q.h q.u q.now = true := by simp [takeB, h1] at hT; exact hT.1
      have h3 : (q.h == q.frm) = false := by simp [takeB, h1] at hT; simpa using hT.2
      go_enter Try.func35, Try.ntmps35
      go_wp2_with fail
      go_quiet ((go_at_call 46; exact Calls.quiet_of (held_val _ _ _ (by exact HQ.out) true h2)))
      go_wp2_with (first | (go_at_call 36; refine (renew_q b q _ HQ.out.drewN n1 n2 t1 t2).mono ?_; rintro e w' ⟨v, rfl, hr, hq', hb⟩))
      go_ret
      rw [HR.out]
      exact ⟨_, rfl, hr, hq', drewN_below hb⟩
    · have hd : decide (q.e < q.epoch) = false := by simpa using h1
      go_enter Try.func35, Try.ntmps35
      go_wp2_with fail
      go_quiet (fail)
      go_wp2_with (first | (go_at_call 36; refine (renew_q b q _ HQ.out.drewN n1 n2 t1 t2).mono ?_; rintro e w' ⟨v, rfl, hr, hq', hb⟩))
      go_ret
      rw [HR.out]
      exact ⟨_, rfl, hr, hq', drewN_below hb⟩
  · have HR := Lib.hid (show acquireQ q = ({ q with e := q.epoch, h := q.frm, u := q.now + q.term }, [⟨16, 4, q.frm, q.number, q.term, q.epoch⟩]) from by simp [acquireQ, hT])
    have h1 : q.e < q.epoch := by simp [takeB] at hT; exact hT.1
    have h3 : heldB q.h q.u q.now = true → (q.h == q.frm) = true := fun h => by simp [takeB, h1, h] at hT; simpa using hT
    have H3 := Lib.hid h3
    clear h3
    cases h2 : heldB q.h q.u q.now
    · go_enter Try.func35, Try.ntmps35
      go_wp2_with fail
      go_quiet ((go_at_call 46; exact Calls.quiet_of (held_val _ _ _ (by exact HQ.out) false h2)))
      go_wp2
      go_region
      go_wp2_with (first | (go_at_call 47; refine (grant_any b { q with e := q.epoch, h := q.frm, u := q.now + q.term } _ (by ((try dsimp only); with_reducible (repeat (first | refine ReqAt.drew ?_ | refine ReqAt.alloc ?_ _)); first | exact HQ.out | exact HQ.out.drewN | exact HQ.out.drewN.take _ _ _ | exact HQ.out.drewN.setU _ | exact HQ.out.drewN.free _ _))).mono ?_; rintro e w' ⟨rfl, rfl⟩))
      go_ret
      rw [HR.out]
      refine ⟨.slice (some ⟨w.heap.size, 0, none⟩) 1 1, rfl, ?_, ?_, ?_⟩
      · (dsimp only; with_reducible (repeat (refine MsgRow.drew ?_)); exact msgRow_new _ ⟨16, 4, q.frm, q.number, q.term, q.epoch⟩ _ (by simp) _ (by simp))
      · ((try dsimp only); with_reducible (repeat (first | refine ReqAt.drew ?_ | refine ReqAt.alloc ?_ _)); first | exact HQ.out | exact HQ.out.drewN | exact HQ.out.drewN.take _ _ _ | exact HQ.out.drewN.setU _ | exact HQ.out.drewN.free _ _)
      · (go_light; with_reducible (repeat (first | exact Below.refl _ _ | refine Below.setCell ?_ (by first | omega | (simp; done) | (simp; omega)) _ | refine Below.alloc ?_ (by first | omega | (simp; done) | (simp; omega)) _ | refine Below.drew ?_ | refine Below.trans ?_ (below_drewN _ _ _) | refine Below.trans ?_ (Below.mono (by assumption) (by first | omega | (simp; done) | (simp; omega))))))
    · have h3 := H3.out h2
      go_enter Try.func35, Try.ntmps35
      go_wp2_with fail
      go_quiet ((go_at_call 46; exact Calls.quiet_of (held_val _ _ _ (by exact HQ.out) true h2)))
      go_wp2
      go_region
      go_wp2_with (first | (go_at_call 47; refine (grant_any b { q with e := q.epoch, h := q.frm, u := q.now + q.term } _ (by ((try dsimp only); with_reducible (repeat (first | refine ReqAt.drew ?_ | refine ReqAt.alloc ?_ _)); first | exact HQ.out | exact HQ.out.drewN | exact HQ.out.drewN.take _ _ _ | exact HQ.out.drewN.setU _ | exact HQ.out.drewN.free _ _))).mono ?_; rintro e w' ⟨rfl, rfl⟩))
      go_ret
      rw [HR.out]
      refine ⟨.slice (some ⟨w.heap.size, 0, none⟩) 1 1, rfl, ?_, ?_, ?_⟩
      · (dsimp only; with_reducible (repeat (refine MsgRow.drew ?_)); exact msgRow_new _ ⟨16, 4, q.frm, q.number, q.term, q.epoch⟩ _ (by simp) _ (by simp))
      · ((try dsimp only); with_reducible (repeat (first | refine ReqAt.drew ?_ | refine ReqAt.alloc ?_ _)); first | exact HQ.out | exact HQ.out.drewN | exact HQ.out.drewN.take _ _ _ | exact HQ.out.drewN.setU _ | exact HQ.out.drewN.free _ _)
      · (go_light; with_reducible (repeat (first | exact Below.refl _ _ | refine Below.setCell ?_ (by first | omega | (simp; done) | (simp; omega)) _ | refine Below.alloc ?_ (by first | omega | (simp; done) | (simp; omega)) _ | refine Below.drew ?_ | refine Below.trans ?_ (below_drewN _ _ _) | refine Below.trans ?_ (Below.mono (by assumption) (by first | omega | (simp; done) | (simp; omega))))))

set_option maxHeartbeats 1000000 in
theorem release_q (b : Nat) (q : Req) (w : World) (hq : ReqAt w b q) :
    Calls Try.prog 37 #[.pointer (some ⟨b, 0, none⟩)] w fun e w' => ∃ v, e = .returned v ∧ MsgRow w.heap.size w' v (releaseQ q).2 ∧ ReqAt w' b (releaseQ q).1 ∧ Below b w w' := by
  have HQ := Lib.hid hq
  obtain ⟨q0, q1, q2, q3, q4, q5, q6, q7, q8, q9, q10, f0, f1, f2, hlt⟩ := hq
  cases h1 : (q.epoch == q.e)
  · have HR := Lib.hid (show releaseQ q = (q, []) from by simp [releaseQ, h1])
    go_enter Try.func37, Try.ntmps37
    go_wp2_with fail
    go_quiet (fail)
    go_wp2
    go_ret
    rw [HR.out]
    exact ⟨_, rfl, msgRow_nil _ _, HQ.out.drewN, below_drewN _ _ _⟩
  · cases h2 : (q.frm == q.h)
    · have HR := Lib.hid (show releaseQ q = (q, []) from by simp [releaseQ, h1, h2])
      go_enter Try.func37, Try.ntmps37
      go_wp2_with fail
      go_quiet (fail)
      go_wp2
      go_ret
      rw [HR.out]
      exact ⟨_, rfl, msgRow_nil _ _, HQ.out.drewN, below_drewN _ _ _⟩
    · have HR := Lib.hid (show releaseQ q = ({ q with h := -1, u := 0 }, []) from by simp [releaseQ, h1, h2])
      go_enter Try.func37, Try.ntmps37
      go_wp2_with fail
      go_quiet (fail)
      go_wp2
      go_ret
      rw [HR.out]
      refine ⟨_, rfl, msgRow_nil _ _, ?_, ?_⟩
      · ((try dsimp only); with_reducible (repeat (first | refine ReqAt.drew ?_ | refine ReqAt.alloc ?_ _)); first | exact HQ.out | exact HQ.out.drewN | exact HQ.out.drewN.take _ _ _ | exact HQ.out.drewN.setU _ | exact HQ.out.drewN.free _ _)
      · (go_light; with_reducible (repeat (first | exact Below.refl _ _ | refine Below.setCell ?_ (by first | omega | (simp; done) | (simp; omega)) _ | refine Below.alloc ?_ (by first | omega | (simp; done) | (simp; omega)) _ | refine Below.drew ?_ | refine Below.trans ?_ (below_drewN _ _ _) | refine Below.trans ?_ (Below.mono (by assumption) (by first | omega | (simp; done) | (simp; omega))))))
end Go.Proofs.Ytelkpeoilneikaa
