/- Contracts: the site's side of a lease. -/
import Derived.Test.YtelkpeoilneikaaI
import Derived.Deep.Light
import Derived.RegionTactic
import Derived.Deep.QuietTactic
import Derived.BigQuiet
import Derived.Deep.RegionHeld3
namespace Go.Proofs.Ytelkpeoilneikaa
open Go.RowKit
set_option linter.unusedSimpArgs false
set_option linter.unusedVariables false
attribute [local go_sem] ltB_addr cellA_past frozenA_past setCellA_past
open Go.MapKept
theorem reqAt_new (w : World) (q : Req) (oa ob : Option Addr) (la ca lb cb : Nat) (o : Obj) : ReqAt ((w.alloc (.cells #[.int .i64 q.e, .int .i64 q.h, .int .i64 q.u, .int .i64 q.now, .int .i64 q.term, .int .i64 q.kind, .int .i64 q.frm, .int .i64 q.to, .int .i64 q.number, .int .i64 q.value, .int .i64 q.epoch, .slice oa la ca, .slice ob lb cb] 72)).alloc o) w.heap.size q := by
  refine ReqAt.alloc ?_ _
  refine ⟨?_, ?_, ?_, ?_, ?_, ?_, ?_, ?_, ?_, ?_, ?_, ?_, ?_, ?_, by simp⟩
  all_goals simp

set_option maxHeartbeats 2000000 in
theorem handle_acquire (q : Req) (oa ob : Option Addr) (la ca lb cb : Nat) (w : World) (ho : okB q = true) (hk : q.kind = 15) :
    Calls Try.prog 12 #[.agg #[.int .i64 q.e, .int .i64 q.h, .int .i64 q.u], .int .i64 q.now, .int .i64 q.term, .agg #[.int .i64 q.kind, .int .i64 q.frm, .int .i64 q.to, .int .i64 q.number, .int .i64 q.value, .int .i64 q.epoch, .slice oa la ca, .slice ob lb cb]] w (handP q w) := by
  obtain ⟨h1, h2, h3, h4, h5⟩ := okB_parts ho
  have k1 : wchkE q.e q.h q.u = 0 := by simp [wchkE, h1]
  obtain ⟨b1, b2⟩ := inR_lo h2
  obtain ⟨b3, b4⟩ := inR_lo h3
  have n2 : q.term ≤ 1073741824 := by omega
  have HR := Lib.hid (show handleQ q = acquireQ q from by simp [handleQ, ho, hk])
  obtain ⟨qe, qh, qu, qnow, qterm, qkind, qfrm, qto, qnumber, qvalue, qepoch⟩ := q
  dsimp only at *
  subst hk
  have hmk := @run_makeMap Try.prog
  have i1 := fun (w : World) (n : Nat) (hn : n = w.heap.size) (f : Value) => insert_int (P := Try.prog) Try.underlying74 Try.underlying3 w n hn #[] 0 15 f rfl
  have i2 := fun (w : World) (n : Nat) (hn : n = w.heap.size) (f f' : Value) => insert_int (P := Try.prog) Try.underlying74 Try.underlying3 w n hn #[⟨.int .i64 15, f', 0⟩] 1 17 f rfl
  have i3 := fun (w : World) (n : Nat) (hn : n = w.heap.size) (f f' f'' : Value) => insert_int (P := Try.prog) Try.underlying74 Try.underlying3 w n hn #[⟨.int .i64 15, f', 0⟩, ⟨.int .i64 17, f'', 1⟩] 2 18 f rfl
  have l1 := fun (w : World) (n : Nat) (hn : n = w.heap.size) (f f' f'' : Value) => lookup_hit (P := Try.prog) Try.underlying74 Try.underlying3 w n hn #[⟨.int .i64 15, f, 0⟩, ⟨.int .i64 17, f', 1⟩, ⟨.int .i64 18, f'', 2⟩] 3 15 0 f rfl
  simp only [List.push_toArray, List.nil_append, List.cons_append, Nat.reduceAdd] at i1 i2 i3 l1
  go_enter Try.func12, Try.ntmps12
  go_wp2_with (first | (go_at_call 15; refine (wcheck_any _ _ _ _).mono ?_; rintro e w' ⟨rfl, hb⟩; obtain ⟨hc, hf, hz⟩ := arm hb; simp only [World.size_alloc, World.size_setCell, World.size_drew] at hz) | (go_at_call 32; refine (time_any _ _).mono ?_; rintro e w' ⟨rfl, rfl⟩) | (go_at_call 33; refine (between_any _ _ _ _).mono ?_; rintro e w' ⟨rfl, rfl⟩) | (go_at_call 34; refine (site_any _ _).mono ?_; rintro e w' ⟨rfl, rfl⟩) | (go_at_call 35; refine (acquire_q _ ⟨qe, qh, qu, qnow, qterm, 15, qfrm, qto, qnumber, qvalue, qepoch⟩ _ (reqAt_new _ _ oa ob la ca lb cb _) b1 b2 b3 n2).mono ?_; rintro e w2 ⟨v, rfl, hr, hq', hb2⟩; obtain ⟨hc2, hf2, hz2⟩ := arm hb2; simp only [World.size_alloc, World.size_setCell, World.size_drew] at hz2 hr; obtain ⟨c0, c1, c2, _⟩ := hq'))
  refine bodyPost_ret (v := .tuple #[.agg #[.int .i64 (acquireQ ⟨qe, qh, qu, qnow, qterm, 15, qfrm, qto, qnumber, qvalue, qepoch⟩).1.e, .int .i64 (acquireQ ⟨qe, qh, qu, qnow, qterm, 15, qfrm, qto, qnumber, qvalue, qepoch⟩).1.h, .int .i64 (acquireQ ⟨qe, qh, qu, qnow, qterm, 15, qfrm, qto, qnumber, qvalue, qepoch⟩).1.u], v]) ?_ rfl ?_
  · (go_light; simp only [results, Try.results12]; go_simp; done)
  · go_light
    unfold handP
    rw [HR.out]
    refine ⟨_, rfl, MsgRow.mono (B := w'.heap.size + 1 + 1) ?_ (by omega), ?_⟩
    · (with_reducible (repeat (refine MsgRow.setCell ?_ _ (by simp; omega) _))); exact hr
    · (go_light; with_reducible (repeat (first | exact Below.refl _ _ | refine Below.setCell ?_ (by first | omega | (simp; done) | (simp; omega)) _ | refine Below.alloc ?_ (by first | omega | (simp; done) | (simp; omega)) _ | refine Below.drew ?_ | refine Below.trans ?_ (below_drewN _ _ _) | refine Below.trans ?_ (Below.mono (by assumption) (by first | omega | (simp; done) | (simp; omega))))))
end Go.Proofs.Ytelkpeoilneikaa
