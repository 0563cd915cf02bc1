/- Contracts: the site's side of a lease. -/
import Derived.Test.YtelkpeoilneikaaK1
import Derived.Deep.Light
import Derived.RegionTactic
import Derived.Deep.QuietTactic
import Derived.BigQuiet
import Derived.Deep.RegionHeld3
namespace Go.Proofs.Ytelkpeoilneikaa
open Go.RowKit
set_option linter.unusedSimpArgs false
set_option linter.unusedVariables false
attribute [local go_sem] ltB_addr cellA_past frozenA_past setCellA_past
open Go.MapKept

set_option maxHeartbeats 2000000 in
theorem handle_other (q : Req) (oa ob : Option Addr) (la ca lb cb : Nat) (w : World) (ho : okB q = true) (kk1 : (q.kind == 15) = false) (kk2 : (q.kind == 17) = false) (kk3 : (q.kind == 18) = false) :
    Calls Try.prog 12 #[.agg #[.int .i64 q.e, .int .i64 q.h, .int .i64 q.u], .int .i64 q.now, .int .i64 q.term, .agg #[.int .i64 q.kind, .int .i64 q.frm, .int .i64 q.to, .int .i64 q.number, .int .i64 q.value, .int .i64 q.epoch, .slice oa la ca, .slice ob lb cb]] w (handP q w) := by
  obtain ⟨h1, h2, h3, h4, h5⟩ := okB_parts ho
  have k1 : wchkE q.e q.h q.u = 0 := by simp [wchkE, h1]
  obtain ⟨b1, b2⟩ := inR_lo h2
  obtain ⟨b3, b4⟩ := inR_lo h3
  have n2 : q.term ≤ 1073741824 := by omega
  have HR := Lib.hid (show handleQ q = (q, []) from by
    have e1 : q.kind ≠ 15 := by simpa using kk1
    have e2 : q.kind ≠ 17 := by simpa using kk2
    have e3 : q.kind ≠ 18 := by simpa using kk3
    simp [handleQ, e1, e2, e3])
  have f1 : ((15 : Int) == q.kind) = false := by simpa using fun e => (by simpa using kk1 : q.kind ≠ 15) e.symm
  have f2 : ((17 : Int) == q.kind) = false := by simpa using fun e => (by simpa using kk2 : q.kind ≠ 17) e.symm
  have f3 : ((18 : Int) == q.kind) = false := by simpa using fun e => (by simpa using kk3 : q.kind ≠ 18) e.symm
  have hmk := @run_makeMap Try.prog
  have i1 := fun (w : World) (n : Nat) (hn : n = w.heap.size) (f : Value) => insert_int (P := Try.prog) Try.underlying74 Try.underlying3 w n hn #[] 0 15 f rfl
  have i2 := fun (w : World) (n : Nat) (hn : n = w.heap.size) (f f' : Value) => insert_int (P := Try.prog) Try.underlying74 Try.underlying3 w n hn #[⟨.int .i64 15, f', 0⟩] 1 17 f rfl
  have i3 := fun (w : World) (n : Nat) (hn : n = w.heap.size) (f f' f'' : Value) => insert_int (P := Try.prog) Try.underlying74 Try.underlying3 w n hn #[⟨.int .i64 15, f', 0⟩, ⟨.int .i64 17, f'', 1⟩] 2 18 f rfl
  have hz0 : ∀ w, (zeroValue 73).run Try.prog w = .ok .nilFunc w := fun _ => by kernel_rfl
  have l1 := fun (w : World) (n : Nat) (hn : n = w.heap.size) (f f' f'' : Value) => lookup_miss (P := Try.prog) Try.underlying74 Try.underlying3 w n hn #[⟨.int .i64 15, f, 0⟩, ⟨.int .i64 17, f', 1⟩, ⟨.int .i64 18, f'', 2⟩] 3 q.kind .nilFunc hz0 (by simp [Instr.findNow, Instr.sameNow, kk1, kk2, kk3])
  simp only [List.push_toArray, List.nil_append, List.cons_append, Nat.reduceAdd] at i1 i2 i3 l1
  clear kk1 kk2 kk3 f1 f2 f3
  go_enter Try.func12, Try.ntmps12
  go_wp2_with (first | (go_at_call 15; refine (wcheck_any _ _ _ _).mono ?_; rintro e w' ⟨rfl, hb⟩; obtain ⟨hc, hf, hz⟩ := arm hb; (try simp only [World.size_alloc, World.size_setCell, World.size_drew] at hz)) | (go_at_call 32; refine (time_any _ _).mono ?_; rintro e w' ⟨rfl, rfl⟩) | (go_at_call 33; refine (between_any _ _ _ _).mono ?_; rintro e w' ⟨rfl, rfl⟩) | (go_at_call 34; refine (site_any _ _).mono ?_; rintro e w' ⟨rfl, rfl⟩))
  refine bodyPost_ret (v := .tuple #[.agg #[.int .i64 q.e, .int .i64 q.h, .int .i64 q.u], .slice none 0 0]) ?_ rfl ?_
  · (go_light; simp only [results, Try.results12]; go_simp; done)
  · go_light
    unfold handP
    rw [HR.out]
    refine ⟨_, rfl, msgRow_nil _ _, ?_⟩
    (go_light; with_reducible (repeat (first | exact Below.refl _ _ | refine Below.setCell ?_ (by first | omega | (simp; done) | (simp; omega)) _ | refine Below.alloc ?_ (by first | omega | (simp; done) | (simp; omega)) _ | refine Below.drew ?_ | refine Below.trans ?_ (below_drewN _ _ _) | refine Below.trans ?_ (Below.mono (by assumption) (by first | omega | (simp; done) | (simp; omega))))))
set_option maxHeartbeats 2000000 in
theorem rhandle_other (q : Req) (oa ob : Option Addr) (la ca lb cb : Nat) (w : World) (ho : okB q = true) (kk1 : (q.kind == 15) = false) (kk2 : (q.kind == 17) = false) (kk3 : (q.kind == 18) = false) :
    Calls Try.prog 13 #[.agg #[.int .i64 q.e, .int .i64 q.h, .int .i64 q.u], .int .i64 q.now, .int .i64 q.term, .agg #[.int .i64 q.kind, .int .i64 q.frm, .int .i64 q.to, .int .i64 q.number, .int .i64 q.value, .int .i64 q.epoch, .slice oa la ca, .slice ob lb cb]] w (handP q w) := by
  obtain ⟨h1, h2, h3, h4, h5⟩ := okB_parts ho
  have k1 : wchkE q.e q.h q.u = 0 := by simp [wchkE, h1]
  obtain ⟨b1, b2⟩ := inR_lo h2
  obtain ⟨b3, b4⟩ := inR_lo h3
  have n2 : q.term ≤ 1073741824 := by omega
  have HR := Lib.hid (show handleQ q = (q, []) from by
    have e1 : q.kind ≠ 15 := by simpa using kk1
    have e2 : q.kind ≠ 17 := by simpa using kk2
    have e3 : q.kind ≠ 18 := by simpa using kk3
    simp [handleQ, e1, e2, e3])
  go_enter Try.func13, Try.ntmps13
  go_wp2_with (first | (go_at_call 16; refine (rwcheck_any _ _ _ _).mono ?_; rintro e w' ⟨rfl, hb⟩; obtain ⟨hc, hf, hz⟩ := arm hb; (try simp only [World.size_alloc, World.size_setCell, World.size_drew] at hz)) | (go_at_call 38; refine (rin_any _ _).mono ?_; rintro e w' ⟨rfl, rfl⟩) | (go_at_call 39; refine (rsite_any _ _).mono ?_; rintro e w' ⟨rfl, rfl⟩))
  all_goals
    refine bodyPost_ret (v := .tuple #[.agg #[.int .i64 q.e, .int .i64 q.h, .int .i64 q.u], .slice none 0 0]) ?_ rfl ?_
    · (go_light; simp only [results, Try.results13]; go_simp; done)
    · go_light
      unfold handP
      rw [HR.out]
      refine ⟨_, rfl, msgRow_nil _ _, ?_⟩
      (go_light; with_reducible (repeat (first | exact Below.refl _ _ | refine Below.setCell ?_ (by first | omega | (simp; done) | (simp; omega)) _ | refine Below.alloc ?_ (by first | omega | (simp; done) | (simp; omega)) _ | refine Below.drew ?_ | refine Below.trans ?_ (below_drewN _ _ _) | refine Below.trans ?_ (Below.mono (by assumption) (by first | omega | (simp; done) | (simp; omega))))))
end Go.Proofs.Ytelkpeoilneikaa
