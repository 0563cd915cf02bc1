/- Contracts: the site's side of a lease. -/
import Derived.Test.YtelkpeoilneikaaE
import Derived.Deep.Light
import Derived.RegionTactic
import Derived.Deep.QuietTactic
import Derived.BigQuiet
import Derived.Deep.RegionHeld3
namespace Go.Proofs.Ytelkpeoilneikaa
open Go.RowKit
set_option linter.unusedSimpArgs false
set_option linter.unusedVariables false
attribute [local go_sem] ltB_addr cellA_past frozenA_past setCellA_past

/-- what the block of a request holds -/
structure Req where
  e : Int
  h : Int
  u : Int
  now : Int
  term : Int
  kind : Int
  frm : Int
  to : Int
  number : Int
  value : Int
  epoch : Int

def ReqAt (w : World) (b : Nat) (q : Req) : Prop :=
  w.cell? ⟨b, 0, none⟩ = some (.int .i64 q.e) ∧ w.cell? ⟨b, 1, none⟩ = some (.int .i64 q.h) ∧ w.cell? ⟨b, 2, none⟩ = some (.int .i64 q.u) ∧ w.cell? ⟨b, 3, none⟩ = some (.int .i64 q.now) ∧ w.cell? ⟨b, 4, none⟩ = some (.int .i64 q.term) ∧ w.cell? ⟨b, 5, none⟩ = some (.int .i64 q.kind) ∧ w.cell? ⟨b, 6, none⟩ = some (.int .i64 q.frm) ∧ w.cell? ⟨b, 7, none⟩ = some (.int .i64 q.to) ∧ w.cell? ⟨b, 8, none⟩ = some (.int .i64 q.number) ∧ w.cell? ⟨b, 9, none⟩ = some (.int .i64 q.value) ∧ w.cell? ⟨b, 10, none⟩ = some (.int .i64 q.epoch) ∧
  w.frozen? ⟨b, 0, none⟩ = false ∧ w.frozen? ⟨b, 1, none⟩ = false ∧ w.frozen? ⟨b, 2, none⟩ = false ∧ b < w.heap.size

theorem ReqAt.below {w w' : World} {b : Nat} {q : Req} (h : ReqAt w b q) (hb : Below w.heap.size w w') : ReqAt w' b q := by
  obtain ⟨q0, q1, q2, q3, q4, q5, q6, q7, q8, q9, q10, f0, f1, f2, hlt⟩ := h
  have hc : ∀ o, w'.cell? ⟨b, o, none⟩ = w.cell? ⟨b, o, none⟩ := fun o => hb.cell (p := ⟨b, o, none⟩) hlt
  have hf : ∀ o, w'.frozen? ⟨b, o, none⟩ = w.frozen? ⟨b, o, none⟩ := fun o => hb.frozen (p := ⟨b, o, none⟩) hlt
  exact ⟨(hc _).trans q0, (hc _).trans q1, (hc _).trans q2, (hc _).trans q3, (hc _).trans q4, (hc _).trans q5, (hc _).trans q6, (hc _).trans q7, (hc _).trans q8, (hc _).trans q9, (hc _).trans q10, (hf _).trans f0, (hf _).trans f1, (hf _).trans f2, Nat.lt_of_lt_of_le hlt hb.size⟩

def heldB (h u now : Int) : Bool := (h != -1) && decide (now < u)
def ownB (q : Req) : Bool := (q.epoch == q.e) && (q.h == q.frm) && heldB q.h q.u q.now

theorem held_any (b : Nat) (q : Req) (w : World) (hq : ReqAt w b q) :
    Calls Try.prog 46 #[.pointer (some ⟨b, 0, none⟩)] w fun e w' => e = .returned (.bool (heldB q.h q.u q.now)) ∧ ∃ n, w' = w.drewN n := by
  obtain ⟨q0, q1, q2, q3, q4, q5, q6, q7, q8, q9, q10, f0, f1, f2, hlt⟩ := hq
  cases h1 : (q.h != -1)
  · go_enter Try.func46, Try.ntmps46
    go_wp2_with fail
    go_quiet (fail)
    go_wp2
    go_ret
    exact ⟨ret_bool (by simp [heldB, h1]), _, rfl⟩
  · go_enter Try.func46, Try.ntmps46
    go_wp2_with fail
    go_quiet (fail)
    go_wp2
    go_ret
    exact ⟨ret_bool (by simp [heldB, h1]), _, rfl⟩

theorem own_any (b : Nat) (q : Req) (w : World) (hq : ReqAt w b q) :
    Calls Try.prog 48 #[.pointer (some ⟨b, 0, none⟩)] w fun e w' => e = .returned (.bool (ownB q)) ∧ ∃ n, w' = w.drewN n := by
  have HQ := Lib.hid hq
  obtain ⟨q0, q1, q2, q3, q4, q5, q6, q7, q8, q9, q10, f0, f1, f2, hlt⟩ := hq
  cases h1 : (q.epoch == q.e)
  · go_enter Try.func48, Try.ntmps48
    go_wp2_with fail
    go_quiet (fail)
    go_wp2
    go_ret
    exact ⟨ret_bool (by simp [ownB, h1]), _, rfl⟩
  · cases h2 : (q.h == q.frm)
    · go_enter Try.func48, Try.ntmps48
      go_wp2_with fail
      go_quiet (fail)
      go_wp2
      go_ret
      exact ⟨ret_bool (by simp [ownB, h1, h2]), _, rfl⟩
    · go_enter Try.func48, Try.ntmps48
      go_wp2_with fail
      go_quiet ((go_at_call 46; exact Calls.quiet_of (held_any _ _ _ (by exact HQ.out))))
      go_wp2
      go_ret
      exact ⟨ret_bool (by simp [ownB, h1, h2]), _, rfl⟩

theorem answer_any (b : Nat) (q : Req) (w : World) (hq : ReqAt w b q) (k v : Int) :
    Calls Try.prog 50 #[.pointer (some ⟨b, 0, none⟩), .int .i64 k, .int .i64 v] w fun e w' => e = .returned (.slice (some ⟨w.heap.size, 0, none⟩) 1 1) ∧ w' = (w.alloc (.cells #[.int .i64 k, .int .i64 4, .int .i64 q.frm, .int .i64 q.number, .int .i64 v, .int .i64 q.e, .slice none 0 0, .slice none 0 0] 27)).drew := by
  obtain ⟨q0, q1, q2, q3, q4, q5, q6, q7, q8, q9, q10, f0, f1, f2, hlt⟩ := hq
  go_enter Try.func50, Try.ntmps50
  go_wp2_with fail
  go_region
  go_wp2
  go_ret
  exact ⟨rfl, rfl⟩
theorem grant_any (b : Nat) (q : Req) (w : World) (hq : ReqAt w b q) :
    Calls Try.prog 47 #[.pointer (some ⟨b, 0, none⟩)] w fun e w' => e = .returned (.slice (some ⟨w.heap.size, 0, none⟩) 1 1) ∧ w' = (w.alloc (.cells #[.int .i64 16, .int .i64 4, .int .i64 q.frm, .int .i64 q.number, .int .i64 q.term, .int .i64 q.e, .slice none 0 0, .slice none 0 0] 27)).drew := by
  have HQ := Lib.hid hq
  obtain ⟨q0, q1, q2, q3, q4, q5, q6, q7, q8, q9, q10, f0, f1, f2, hlt⟩ := hq
  go_enter Try.func47, Try.ntmps47
  go_wp2_with (go_at_call 50; refine (answer_any b q _ HQ.out 16 q.term).mono ?_; rintro e w' ⟨rfl, rfl⟩)
  go_ret
  exact ⟨rfl, rfl⟩
theorem refuse_any (b : Nat) (q : Req) (w : World) (hq : ReqAt w b q) :
    Calls Try.prog 49 #[.pointer (some ⟨b, 0, none⟩)] w fun e w' => e = .returned (.slice (some ⟨w.heap.size, 0, none⟩) 1 1) ∧ w' = (w.alloc (.cells #[.int .i64 12, .int .i64 4, .int .i64 q.frm, .int .i64 q.number, .int .i64 0, .int .i64 q.e, .slice none 0 0, .slice none 0 0] 27)).drew := by
  have HQ := Lib.hid hq
  obtain ⟨q0, q1, q2, q3, q4, q5, q6, q7, q8, q9, q10, f0, f1, f2, hlt⟩ := hq
  go_enter Try.func49, Try.ntmps49
  go_wp2_with (go_at_call 50; refine (answer_any b q _ HQ.out 12 0).mono ?_; rintro e w' ⟨rfl, rfl⟩)
  go_ret
  exact ⟨rfl, rfl⟩
end Go.Proofs.Ytelkpeoilneikaa
