/- Contracts: the site's side of a lease. -/
import Derived.Test.YtelkpeoilneikaaI
import Derived.Deep.Light
import Derived.RegionTactic
import Derived.Deep.QuietTactic
import Derived.BigQuiet
import Derived.Deep.RegionHeld3
namespace Go.Proofs.Ytelkpeoilneikaa
open Go.RowKit
set_option linter.unusedSimpArgs false
set_option linter.unusedVariables false
attribute [local go_sem] ltB_addr cellA_past frozenA_past setCellA_past

set_option maxHeartbeats 2000000 in
theorem rh_a15t0 (q : Req) (oa ob : Option Addr) (la ca lb cb : Nat) (w : World) (ho : okB q = true) (hk : q.kind = 15) (hL : decide (q.e < q.epoch) = true) (hH : heldB q.h q.u q.now = false) :
    Calls Try.prog 13 #[.agg #[.int .i64 q.e, .int .i64 q.h, .int .i64 q.u], .int .i64 q.now, .int .i64 q.term, .agg #[.int .i64 q.kind, .int .i64 q.frm, .int .i64 q.to, .int .i64 q.number, .int .i64 q.value, .int .i64 q.epoch, .slice oa la ca, .slice ob lb cb]] w (handP q w) := by
  obtain ⟨h1, h2, h3, h4, h5⟩ := okB_parts ho
  have k1 : wchkE q.e q.h q.u = 0 := by simp [wchkE, h1]
  obtain ⟨b1, b2⟩ := inR_lo h2
  obtain ⟨b3, b4⟩ := inR_lo h3
  have n2 : q.term ≤ 1073741824 := by omega
  have hL' : q.e < q.epoch := by simpa using hL
  have HR := Lib.hid (show handleQ q = ({ q with e := q.epoch, h := q.frm, u := q.now + q.term }, [⟨16, 4, q.frm, q.number, q.term, q.epoch⟩]) from by simp [handleQ, ho, hk, acquireQ, renewQ, releaseQ, takeB, ownB, mx, hL, hH])
  obtain ⟨qe, qh, qu, qnow, qterm, qkind, qfrm, qto, qnumber, qvalue, qepoch⟩ := q
  dsimp only at *
  subst hk
  have hwr : IntKind.i64.wrap (qnow + qterm) = qnow + qterm := IntWalk.i64_in _ (by omega)
  go_enter Try.func13, Try.ntmps13
  go_wp2_with (first | (go_at_call 16; refine (rwcheck_any _ _ _ _).mono ?_; rintro e w' ⟨rfl, hb⟩; obtain ⟨hc, hf, hz⟩ := arm hb; (try simp only [World.size_alloc, World.size_setCell, World.size_drew] at hz)) | (go_at_call 38; refine (rin_any _ _).mono ?_; rintro e w' ⟨rfl, rfl⟩) | (go_at_call 39; refine (rsite_any _ _).mono ?_; rintro e w' ⟨rfl, rfl⟩) | (go_at_call 40; refine (rheld_any _ _ _ _ _).mono ?_; rintro e w' ⟨rfl, hb⟩; obtain ⟨hc, hf, hz⟩ := arm hb; (try simp only [World.size_alloc, World.size_setCell, World.size_drew] at hz)))
  go_region_held3 (fun w4 => w4.cell? ⟨w.heap.size + 1, 0, none⟩ = some (.int .i64 15) ∧ w4.cell? ⟨w.heap.size + 1, 1, none⟩ = some (.int .i64 qfrm) ∧ w4.cell? ⟨w.heap.size + 1, 2, none⟩ = some (.int .i64 qto) ∧ w4.cell? ⟨w.heap.size + 1, 3, none⟩ = some (.int .i64 qnumber) ∧ w4.cell? ⟨w.heap.size + 1, 4, none⟩ = some (.int .i64 qvalue) ∧ w4.cell? ⟨w.heap.size + 1, 5, none⟩ = some (.int .i64 qepoch) ∧ w4.cell? ⟨w.heap.size + 1, 6, none⟩ = some (.slice oa la ca) ∧ w4.cell? ⟨w.heap.size + 1, 7, none⟩ = some (.slice ob lb cb)) ((first | (go_keep; done) | (((try dsimp only); (try go_split_ands); (repeat' apply And.intro)) <;> (first | (go_keep; done) | omega | (go_simp; done))))) (first | (go_at_call 41; refine (ranswer_exact _ _ _ _ _ _ _ _ _ _ _ _ _ _ _ _).mono ?_; rintro e w3 ⟨rfl, rfl⟩))
  all_goals go_wp2
  all_goals
    refine bodyPost_ret (v := .tuple #[.agg #[.int .i64 qepoch, .int .i64 qfrm, .int .i64 (qnow + qterm)], .slice (some ⟨w'.heap.size + 1, 0, none⟩) 1 1]) ?_ rfl ?_
    · (go_light; simp only [results, Try.results13]; go_simp; done)
    · go_light
      unfold handP
      rw [HR.out]
      refine ⟨_, rfl, ?_, ?_⟩
      · refine MsgRow.mono (B := w'.heap.size + 1) ?_ (by omega)
        with_reducible (repeat (first | refine MsgRow.drew ?_ | refine MsgRow.setCell ?_ _ (by simp; omega) _))
        exact msgRow_new _ ⟨16, 4, qfrm, qnumber, qterm, qepoch⟩ _ (by simp) _ (by simp)
      · (go_light; with_reducible (repeat (first | exact Below.refl _ _ | refine Below.setCell ?_ (by first | omega | (simp; done) | (simp; omega)) _ | refine Below.alloc ?_ (by first | omega | (simp; done) | (simp; omega)) _ | refine Below.drew ?_ | refine Below.trans ?_ (below_drewN _ _ _) | refine Below.trans ?_ (Below.mono (by assumption) (by first | omega | (simp; done) | (simp; omega))))))

set_option maxHeartbeats 2000000 in
theorem rh_a15t1 (q : Req) (oa ob : Option Addr) (la ca lb cb : Nat) (w : World) (ho : okB q = true) (hk : q.kind = 15) (hL : decide (q.e < q.epoch) = true) (hS : (q.frm == q.h) = true) (hH : heldB q.h q.u q.now = true) :
    Calls Try.prog 13 #[.agg #[.int .i64 q.e, .int .i64 q.h, .int .i64 q.u], .int .i64 q.now, .int .i64 q.term, .agg #[.int .i64 q.kind, .int .i64 q.frm, .int .i64 q.to, .int .i64 q.number, .int .i64 q.value, .int .i64 q.epoch, .slice oa la ca, .slice ob lb cb]] w (handP q w) := by
  obtain ⟨h1, h2, h3, h4, h5⟩ := okB_parts ho
  have k1 : wchkE q.e q.h q.u = 0 := by simp [wchkE, h1]
  obtain ⟨b1, b2⟩ := inR_lo h2
  obtain ⟨b3, b4⟩ := inR_lo h3
  have n2 : q.term ≤ 1073741824 := by omega
  have hS' : (q.h == q.frm) = true := by rw [← hS]; simp [BEq.comm]
  have hL' : q.e < q.epoch := by simpa using hL
  have HR := Lib.hid (show handleQ q = ({ q with e := q.epoch, h := q.frm, u := q.now + q.term }, [⟨16, 4, q.frm, q.number, q.term, q.epoch⟩]) from by simp [handleQ, ho, hk, acquireQ, renewQ, releaseQ, takeB, ownB, mx, hL, hS, hS', hH])
  obtain ⟨qe, qh, qu, qnow, qterm, qkind, qfrm, qto, qnumber, qvalue, qepoch⟩ := q
  dsimp only at *
  subst hk
  have hwr : IntKind.i64.wrap (qnow + qterm) = qnow + qterm := IntWalk.i64_in _ (by omega)
  go_enter Try.func13, Try.ntmps13
  go_wp2_with (first | (go_at_call 16; refine (rwcheck_any _ _ _ _).mono ?_; rintro e w' ⟨rfl, hb⟩; obtain ⟨hc, hf, hz⟩ := arm hb; (try simp only [World.size_alloc, World.size_setCell, World.size_drew] at hz)) | (go_at_call 38; refine (rin_any _ _).mono ?_; rintro e w' ⟨rfl, rfl⟩) | (go_at_call 39; refine (rsite_any _ _).mono ?_; rintro e w' ⟨rfl, rfl⟩) | (go_at_call 40; refine (rheld_any _ _ _ _ _).mono ?_; rintro e w' ⟨rfl, hb⟩; obtain ⟨hc, hf, hz⟩ := arm hb; (try simp only [World.size_alloc, World.size_setCell, World.size_drew] at hz)))
  go_region_held3 (fun w4 => w4.cell? ⟨w.heap.size + 1, 0, none⟩ = some (.int .i64 15) ∧ w4.cell? ⟨w.heap.size + 1, 1, none⟩ = some (.int .i64 qfrm) ∧ w4.cell? ⟨w.heap.size + 1, 2, none⟩ = some (.int .i64 qto) ∧ w4.cell? ⟨w.heap.size + 1, 3, none⟩ = some (.int .i64 qnumber) ∧ w4.cell? ⟨w.heap.size + 1, 4, none⟩ = some (.int .i64 qvalue) ∧ w4.cell? ⟨w.heap.size + 1, 5, none⟩ = some (.int .i64 qepoch) ∧ w4.cell? ⟨w.heap.size + 1, 6, none⟩ = some (.slice oa la ca) ∧ w4.cell? ⟨w.heap.size + 1, 7, none⟩ = some (.slice ob lb cb)) ((first | (go_keep; done) | (((try dsimp only); (try go_split_ands); (repeat' apply And.intro)) <;> (first | (go_keep; done) | omega | (go_simp; done))))) (first | (go_at_call 41; refine (ranswer_exact _ _ _ _ _ _ _ _ _ _ _ _ _ _ _ _).mono ?_; rintro e w3 ⟨rfl, rfl⟩))
  all_goals go_wp2
  all_goals
    refine bodyPost_ret (v := .tuple #[.agg #[.int .i64 qepoch, .int .i64 qfrm, .int .i64 (qnow + qterm)], .slice (some ⟨w'.heap.size + 1, 0, none⟩) 1 1]) ?_ rfl ?_
    · (go_light; simp only [results, Try.results13]; go_simp; done)
    · go_light
      unfold handP
      rw [HR.out]
      refine ⟨_, rfl, ?_, ?_⟩
      · refine MsgRow.mono (B := w'.heap.size + 1) ?_ (by omega)
        with_reducible (repeat (first | refine MsgRow.drew ?_ | refine MsgRow.setCell ?_ _ (by simp; omega) _))
        exact msgRow_new _ ⟨16, 4, qfrm, qnumber, qterm, qepoch⟩ _ (by simp) _ (by simp)
      · (go_light; with_reducible (repeat (first | exact Below.refl _ _ | refine Below.setCell ?_ (by first | omega | (simp; done) | (simp; omega)) _ | refine Below.alloc ?_ (by first | omega | (simp; done) | (simp; omega)) _ | refine Below.drew ?_ | refine Below.trans ?_ (below_drewN _ _ _) | refine Below.trans ?_ (Below.mono (by assumption) (by first | omega | (simp; done) | (simp; omega))))))
end Go.Proofs.Ytelkpeoilneikaa
