/- Contracts: the site's side of a lease. -/
import Derived.Test.YtelkpeoilneikaaI
import Derived.Deep.Light
import Derived.RegionTactic
import Derived.Deep.QuietTactic
import Derived.BigQuiet
import Derived.Deep.RegionHeld3
namespace Go.Proofs.Ytelkpeoilneikaa
open Go.RowKit
set_option linter.unusedSimpArgs false
set_option linter.unusedVariables false
attribute [local go_sem] ltB_addr cellA_past frozenA_past setCellA_past

set_option maxHeartbeats 2000000 in
theorem rh_a15r1 (q : Req) (oa ob : Option Addr) (la ca lb cb : Nat) (w : World) (ho : okB q = true) (hk : q.kind = 15) (hL : decide (q.e < q.epoch) = false) (hE : (q.epoch == q.e) = false) :
    Calls Try.prog 13 #[.agg #[.int .i64 q.e, .int .i64 q.h, .int .i64 q.u], .int .i64 q.now, .int .i64 q.term, .agg #[.int .i64 q.kind, .int .i64 q.frm, .int .i64 q.to, .int .i64 q.number, .int .i64 q.value, .int .i64 q.epoch, .slice oa la ca, .slice ob lb cb]] w (handP q w) := by
  obtain ⟨h1, h2, h3, h4, h5⟩ := okB_parts ho
  have k1 : wchkE q.e q.h q.u = 0 := by simp [wchkE, h1]
  obtain ⟨b1, b2⟩ := inR_lo h2
  obtain ⟨b3, b4⟩ := inR_lo h3
  have n2 : q.term ≤ 1073741824 := by omega
  have HR := Lib.hid (show handleQ q = (q, [⟨12, 4, q.frm, q.number, 0, q.e⟩]) from by simp [handleQ, ho, hk, acquireQ, renewQ, releaseQ, takeB, ownB, mx, hL, hE])
  obtain ⟨qe, qh, qu, qnow, qterm, qkind, qfrm, qto, qnumber, qvalue, qepoch⟩ := q
  dsimp only at *
  subst hk
  go_enter Try.func13, Try.ntmps13
  go_wp2_with (first | (go_at_call 16; refine (rwcheck_any _ _ _ _).mono ?_; rintro e w' ⟨rfl, hb⟩; obtain ⟨hc, hf, hz⟩ := arm hb; (try simp only [World.size_alloc, World.size_setCell, World.size_drew] at hz)) | (go_at_call 38; refine (rin_any _ _).mono ?_; rintro e w' ⟨rfl, rfl⟩) | (go_at_call 39; refine (rsite_any _ _).mono ?_; rintro e w' ⟨rfl, rfl⟩) | (go_at_call 40; refine (rheld_any _ _ _ _ _).mono ?_; rintro e w' ⟨rfl, hb⟩; obtain ⟨hc, hf, hz⟩ := arm hb; (try simp only [World.size_alloc, World.size_setCell, World.size_drew] at hz)))
  go_region_with (go_at_call 41; refine (ranswer_exact _ _ _ _ _ _ _ _ _ _ _ _ _ _ _ _).mono ?_; rintro e w3 ⟨rfl, rfl⟩)
  all_goals go_wp2
  all_goals
    refine bodyPost_ret (v := .tuple #[.agg #[.int .i64 qe, .int .i64 qh, .int .i64 qu], .slice (some ⟨w'.heap.size + 1, 0, none⟩) 1 1]) ?_ rfl ?_
    · (go_light; simp only [results, Try.results13]; go_simp; done)
    · go_light
      unfold handP
      rw [HR.out]
      refine ⟨_, rfl, ?_, ?_⟩
      · refine MsgRow.mono (B := w'.heap.size + 1) ?_ (by omega)
        with_reducible (repeat (first | refine MsgRow.drew ?_ | refine MsgRow.setCell ?_ _ (by simp; omega) _))
        exact msgRow_new _ ⟨12, 4, qfrm, qnumber, 0, qe⟩ _ (by simp) _ (by simp)
      · (go_light; with_reducible (repeat (first | exact Below.refl _ _ | refine Below.setCell ?_ (by first | omega | (simp; done) | (simp; omega)) _ | refine Below.alloc ?_ (by first | omega | (simp; done) | (simp; omega)) _ | refine Below.drew ?_ | refine Below.trans ?_ (below_drewN _ _ _) | refine Below.trans ?_ (Below.mono (by assumption) (by first | omega | (simp; done) | (simp; omega))))))

set_option maxHeartbeats 2000000 in
theorem rh_a15r2 (q : Req) (oa ob : Option Addr) (la ca lb cb : Nat) (w : World) (ho : okB q = true) (hk : q.kind = 15) (hL : decide (q.e < q.epoch) = false) (hE : (q.epoch == q.e) = true) (hS : (q.frm == q.h) = false) :
    Calls Try.prog 13 #[.agg #[.int .i64 q.e, .int .i64 q.h, .int .i64 q.u], .int .i64 q.now, .int .i64 q.term, .agg #[.int .i64 q.kind, .int .i64 q.frm, .int .i64 q.to, .int .i64 q.number, .int .i64 q.value, .int .i64 q.epoch, .slice oa la ca, .slice ob lb cb]] w (handP q w) := by
  obtain ⟨h1, h2, h3, h4, h5⟩ := okB_parts ho
  have k1 : wchkE q.e q.h q.u = 0 := by simp [wchkE, h1]
  obtain ⟨b1, b2⟩ := inR_lo h2
  obtain ⟨b3, b4⟩ := inR_lo h3
  have n2 : q.term ≤ 1073741824 := by omega
  have hS' : (q.h == q.frm) = false := by rw [← hS]; simp [BEq.comm]
  have hE' : q.epoch = q.e := by simpa using hE
  have HR := Lib.hid (show handleQ q = (q, [⟨12, 4, q.frm, q.number, 0, q.e⟩]) from by simp [handleQ, ho, hk, acquireQ, renewQ, releaseQ, takeB, ownB, mx, hL, hE, hS, hS'])
  clear hE'
  obtain ⟨qe, qh, qu, qnow, qterm, qkind, qfrm, qto, qnumber, qvalue, qepoch⟩ := q
  dsimp only at *
  subst hk
  go_enter Try.func13, Try.ntmps13
  go_wp2_with (first | (go_at_call 16; refine (rwcheck_any _ _ _ _).mono ?_; rintro e w' ⟨rfl, hb⟩; obtain ⟨hc, hf, hz⟩ := arm hb; (try simp only [World.size_alloc, World.size_setCell, World.size_drew] at hz)) | (go_at_call 38; refine (rin_any _ _).mono ?_; rintro e w' ⟨rfl, rfl⟩) | (go_at_call 39; refine (rsite_any _ _).mono ?_; rintro e w' ⟨rfl, rfl⟩) | (go_at_call 40; refine (rheld_any _ _ _ _ _).mono ?_; rintro e w' ⟨rfl, hb⟩; obtain ⟨hc, hf, hz⟩ := arm hb; (try simp only [World.size_alloc, World.size_setCell, World.size_drew] at hz)))
  go_region_with (go_at_call 41; refine (ranswer_exact _ _ _ _ _ _ _ _ _ _ _ _ _ _ _ _).mono ?_; rintro e w3 ⟨rfl, rfl⟩)
  all_goals go_wp2
  all_goals
    refine bodyPost_ret (v := .tuple #[.agg #[.int .i64 qe, .int .i64 qh, .int .i64 qu], .slice (some ⟨w'.heap.size + 1, 0, none⟩) 1 1]) ?_ rfl ?_
    · (go_light; simp only [results, Try.results13]; go_simp; done)
    · go_light
      unfold handP
      rw [HR.out]
      refine ⟨_, rfl, ?_, ?_⟩
      · refine MsgRow.mono (B := w'.heap.size + 1) ?_ (by omega)
        with_reducible (repeat (first | refine MsgRow.drew ?_ | refine MsgRow.setCell ?_ _ (by simp; omega) _))
        exact msgRow_new _ ⟨12, 4, qfrm, qnumber, 0, qe⟩ _ (by simp) _ (by simp)
      · (go_light; with_reducible (repeat (first | exact Below.refl _ _ | refine Below.setCell ?_ (by first | omega | (simp; done) | (simp; omega)) _ | refine Below.alloc ?_ (by first | omega | (simp; done) | (simp; omega)) _ | refine Below.drew ?_ | refine Below.trans ?_ (below_drewN _ _ _) | refine Below.trans ?_ (Below.mono (by assumption) (by first | omega | (simp; done) | (simp; omega))))))

set_option maxHeartbeats 2000000 in
theorem rh_a15r3 (q : Req) (oa ob : Option Addr) (la ca lb cb : Nat) (w : World) (ho : okB q = true) (hk : q.kind = 15) (hL : decide (q.e < q.epoch) = false) (hE : (q.epoch == q.e) = true) (hS : (q.frm == q.h) = true) (hH : heldB q.h q.u q.now = false) :
    Calls Try.prog 13 #[.agg #[.int .i64 q.e, .int .i64 q.h, .int .i64 q.u], .int .i64 q.now, .int .i64 q.term, .agg #[.int .i64 q.kind, .int .i64 q.frm, .int .i64 q.to, .int .i64 q.number, .int .i64 q.value, .int .i64 q.epoch, .slice oa la ca, .slice ob lb cb]] w (handP q w) := by
  obtain ⟨h1, h2, h3, h4, h5⟩ := okB_parts ho
  have k1 : wchkE q.e q.h q.u = 0 := by simp [wchkE, h1]
  obtain ⟨b1, b2⟩ := inR_lo h2
  obtain ⟨b3, b4⟩ := inR_lo h3
  have n2 : q.term ≤ 1073741824 := by omega
  have hS' : (q.h == q.frm) = true := by rw [← hS]; simp [BEq.comm]
  have hE' : q.epoch = q.e := by simpa using hE
  have HR := Lib.hid (show handleQ q = (q, [⟨12, 4, q.frm, q.number, 0, q.e⟩]) from by simp [handleQ, ho, hk, acquireQ, renewQ, releaseQ, takeB, ownB, mx, hL, hE, hS, hS', hH])
  clear hE'
  obtain ⟨qe, qh, qu, qnow, qterm, qkind, qfrm, qto, qnumber, qvalue, qepoch⟩ := q
  dsimp only at *
  subst hk
  go_enter Try.func13, Try.ntmps13
  go_wp2_with (first | (go_at_call 16; refine (rwcheck_any _ _ _ _).mono ?_; rintro e w' ⟨rfl, hb⟩; obtain ⟨hc, hf, hz⟩ := arm hb; (try simp only [World.size_alloc, World.size_setCell, World.size_drew] at hz)) | (go_at_call 38; refine (rin_any _ _).mono ?_; rintro e w' ⟨rfl, rfl⟩) | (go_at_call 39; refine (rsite_any _ _).mono ?_; rintro e w' ⟨rfl, rfl⟩) | (go_at_call 40; refine (rheld_any _ _ _ _ _).mono ?_; rintro e w' ⟨rfl, hb⟩; obtain ⟨hc, hf, hz⟩ := arm hb; (try simp only [World.size_alloc, World.size_setCell, World.size_drew] at hz)))
  go_region_with (go_at_call 41; refine (ranswer_exact _ _ _ _ _ _ _ _ _ _ _ _ _ _ _ _).mono ?_; rintro e w3 ⟨rfl, rfl⟩)
  all_goals go_wp2
  all_goals
    refine bodyPost_ret (v := .tuple #[.agg #[.int .i64 qe, .int .i64 qh, .int .i64 qu], .slice (some ⟨w'.heap.size + 1, 0, none⟩) 1 1]) ?_ rfl ?_
    · (go_light; simp only [results, Try.results13]; go_simp; done)
    · go_light
      unfold handP
      rw [HR.out]
      refine ⟨_, rfl, ?_, ?_⟩
      · refine MsgRow.mono (B := w'.heap.size + 1) ?_ (by omega)
        with_reducible (repeat (first | refine MsgRow.drew ?_ | refine MsgRow.setCell ?_ _ (by simp; omega) _))
        exact msgRow_new _ ⟨12, 4, qfrm, qnumber, 0, qe⟩ _ (by simp) _ (by simp)
      · (go_light; with_reducible (repeat (first | exact Below.refl _ _ | refine Below.setCell ?_ (by first | omega | (simp; done) | (simp; omega)) _ | refine Below.alloc ?_ (by first | omega | (simp; done) | (simp; omega)) _ | refine Below.drew ?_ | refine Below.trans ?_ (below_drewN _ _ _) | refine Below.trans ?_ (Below.mono (by assumption) (by first | omega | (simp; done) | (simp; omega))))))

set_option maxHeartbeats 2000000 in
theorem rh_a18n1 (q : Req) (oa ob : Option Addr) (la ca lb cb : Nat) (w : World) (ho : okB q = true) (hk : q.kind = 18) (hE : (q.epoch == q.e) = true) (hS : (q.frm == q.h) = false) :
    Calls Try.prog 13 #[.agg #[.int .i64 q.e, .int .i64 q.h, .int .i64 q.u], .int .i64 q.now, .int .i64 q.term, .agg #[.int .i64 q.kind, .int .i64 q.frm, .int .i64 q.to, .int .i64 q.number, .int .i64 q.value, .int .i64 q.epoch, .slice oa la ca, .slice ob lb cb]] w (handP q w) := by
  obtain ⟨h1, h2, h3, h4, h5⟩ := okB_parts ho
  have k1 : wchkE q.e q.h q.u = 0 := by simp [wchkE, h1]
  obtain ⟨b1, b2⟩ := inR_lo h2
  obtain ⟨b3, b4⟩ := inR_lo h3
  have n2 : q.term ≤ 1073741824 := by omega
  have hS' : (q.h == q.frm) = false := by rw [← hS]; simp [BEq.comm]
  have hE' : q.epoch = q.e := by simpa using hE
  have HR := Lib.hid (show handleQ q = (q, []) from by simp [handleQ, ho, hk, acquireQ, renewQ, releaseQ, takeB, ownB, mx, hE, hS, hS'])
  clear hE'
  obtain ⟨qe, qh, qu, qnow, qterm, qkind, qfrm, qto, qnumber, qvalue, qepoch⟩ := q
  dsimp only at *
  subst hk
  go_enter Try.func13, Try.ntmps13
  go_wp2_with (first | (go_at_call 16; refine (rwcheck_any _ _ _ _).mono ?_; rintro e w' ⟨rfl, hb⟩; obtain ⟨hc, hf, hz⟩ := arm hb; (try simp only [World.size_alloc, World.size_setCell, World.size_drew] at hz)) | (go_at_call 38; refine (rin_any _ _).mono ?_; rintro e w' ⟨rfl, rfl⟩) | (go_at_call 39; refine (rsite_any _ _).mono ?_; rintro e w' ⟨rfl, rfl⟩) | (go_at_call 40; refine (rheld_any _ _ _ _ _).mono ?_; rintro e w' ⟨rfl, hb⟩; obtain ⟨hc, hf, hz⟩ := arm hb; (try simp only [World.size_alloc, World.size_setCell, World.size_drew] at hz)))
  refine bodyPost_ret (v := .tuple #[.agg #[.int .i64 qe, .int .i64 qh, .int .i64 qu], .slice none 0 0]) ?_ rfl ?_
  · (go_light; simp only [results, Try.results13]; go_simp; done)
  · go_light
    unfold handP
    rw [HR.out]
    refine ⟨_, rfl, msgRow_nil _ _, ?_⟩
    (go_light; with_reducible (repeat (first | exact Below.refl _ _ | refine Below.setCell ?_ (by first | omega | (simp; done) | (simp; omega)) _ | refine Below.alloc ?_ (by first | omega | (simp; done) | (simp; omega)) _ | refine Below.drew ?_ | refine Below.trans ?_ (below_drewN _ _ _) | refine Below.trans ?_ (Below.mono (by assumption) (by first | omega | (simp; done) | (simp; omega))))))
end Go.Proofs.Ytelkpeoilneikaa
