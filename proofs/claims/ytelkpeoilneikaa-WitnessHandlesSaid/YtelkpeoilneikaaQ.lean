/- Contracts: the site's side of a lease. -/
import Derived.Test.YtelkpeoilneikaaM
import Derived.Deep.Light
import Derived.RegionTactic
import Derived.Deep.QuietTactic
import Derived.BigQuiet
import Derived.Deep.RegionHeld3
namespace Go.Proofs.Ytelkpeoilneikaa
open Go.RowKit
set_option linter.unusedSimpArgs false
set_option linter.unusedVariables false
attribute [local go_sem] ltB_addr cellA_past frozenA_past setCellA_past

def fewB (la lb : Nat) : Bool := decide ((la : Int) ≤ 20) && decide ((lb : Int) ≤ 40)
theorem few_any (kind frm to number value epoch : Int) (oa ob : Option Addr) (la ca lb cb : Nat) (w : World) :
    Calls Try.prog 10 #[.agg #[.int .i64 kind, .int .i64 frm, .int .i64 to, .int .i64 number, .int .i64 value, .int .i64 epoch, .slice oa la ca, .slice ob lb cb]] w fun e' w' => e' = .returned (.bool (fewB la lb)) ∧ w' = w.alloc (.cells #[.int .i64 kind, .int .i64 frm, .int .i64 to, .int .i64 number, .int .i64 value, .int .i64 epoch, .slice oa la ca, .slice ob lb cb] 27) := by
  cases h1 : decide ((la : Int) ≤ 20)
  all_goals
    go_enter Try.func10, Try.ntmps10
    go_wp2
    go_ret
    exact ⟨ret_bool (by simp [fewB, h1]), rfl⟩
theorem few_val (kind frm to number value epoch : Int) (oa ob : Option Addr) (la ca lb cb : Nat) (w : World) (x : Bool) (hx : fewB la lb = x) :
    Calls Try.prog 10 #[.agg #[.int .i64 kind, .int .i64 frm, .int .i64 to, .int .i64 number, .int .i64 value, .int .i64 epoch, .slice oa la ca, .slice ob lb cb]] w fun e' w' => e' = .returned (.bool x) ∧ w' = w.alloc (.cells #[.int .i64 kind, .int .i64 frm, .int .i64 to, .int .i64 number, .int .i64 value, .int .i64 epoch, .slice oa la ca, .slice ob lb cb] 27) := by subst hx; exact few_any _ _ _ _ _ _ _ _ _ _ _ _ w

def AwakeT : Prop := ∀ w, Calls Try.prog 11 #[] w fun e w' => e = .returned (.bool true) ∧ Below w.heap.size w w'
def Learn17 : Prop := ∀ (s e u sent term margin kind frm to number value epoch : Int) (oa ob : Option Addr) (la ca lb cb : Nat)  (w : World), -9223372036854775808 ≤ value → value ≤ 9223372036854775807 → Calls Try.prog 17 #[.agg #[.int .i64 s, .int .i64 e, .int .i64 u], .int .i64 sent, .int .i64 term, .int .i64 margin, .agg #[.int .i64 kind, .int .i64 frm, .int .i64 to, .int .i64 number, .int .i64 value, .int .i64 epoch, .slice oa la ca, .slice ob lb cb]] w (learnP s e u sent term margin kind to value epoch w)
def Learn18 : Prop := ∀ (s e u sent term margin kind frm to number value epoch : Int) (oa ob : Option Addr) (la ca lb cb : Nat)  (w : World), -9223372036854775808 ≤ value → value ≤ 9223372036854775807 → Calls Try.prog 18 #[.agg #[.int .i64 s, .int .i64 e, .int .i64 u], .int .i64 sent, .int .i64 term, .int .i64 margin, .agg #[.int .i64 kind, .int .i64 frm, .int .i64 to, .int .i64 number, .int .i64 value, .int .i64 epoch, .slice oa la ca, .slice ob lb cb]] w (learnP s e u sent term margin kind to value epoch w)

set_option maxRecDepth 100000 in
set_option maxHeartbeats 4000000 in
theorem learns_walk (haw : AwakeT) (h17 : Learn17) (h18 : Learn18) (s e u kind frm to number value epoch now term sent margin : Int) (oa ob : Option Addr) (la ca lb cb : Nat) (w : World) (v1 : -9223372036854775808 ≤ value) (v2 : value ≤ 9223372036854775807) :
    Calls Try.prog 4 #[.agg #[.int .i64 s, .int .i64 e, .int .i64 u], .agg #[.int .i64 kind, .int .i64 frm, .int .i64 to, .int .i64 number, .int .i64 value, .int .i64 epoch, .slice oa la ca, .slice ob lb cb, .int .i64 now, .int .i64 term, .int .i64 sent, .int .i64 margin]] w fun e w' => e = .returned (.bool true) ∧ Below w.heap.size w w' := by
  cases hf : fewB la lb
  · go_enter Try.func4, Try.ntmps4
    go_wp2_with (first | (go_at_call 10; refine (few_val _ _ _ _ _ _ _ _ _ _ _ _ _ false hf).mono ?_; rintro e w' ⟨rfl, rfl⟩) | (go_at_call 11; refine (haw _).mono ?_; rintro e w' ⟨rfl, hb⟩))
    go_ret
    refine ⟨rfl, ?_⟩
    (go_light; with_reducible (repeat (first | exact Below.refl _ _ | refine Below.setCell ?_ (by first | omega | (simp; done) | (simp; omega)) _ | refine Below.alloc ?_ (by first | omega | (simp; done) | (simp; omega)) _ | refine Below.drew ?_ | refine Below.trans ?_ (below_drewN _ _ _) | refine Below.trans ?_ (Below.mono (by assumption) (by first | omega | (simp; done) | (simp; omega))))))
  · go_enter Try.func4, Try.ntmps4
    go_wp2_with (first | (go_at_call 10; refine (few_val _ _ _ _ _ _ _ _ _ _ _ _ _ true hf).mono ?_; rintro e w' ⟨rfl, rfl⟩))
    go_region_held3 (fun w' => w'.cell? ⟨w.heap.size, 0, none⟩ = some (.int .i64 s) ∧ w'.cell? ⟨w.heap.size, 1, none⟩ = some (.int .i64 e) ∧ w'.cell? ⟨w.heap.size, 2, none⟩ = some (.int .i64 u) ∧ w'.cell? ⟨w.heap.size + 1, 0, none⟩ = some (.int .i64 kind) ∧ w'.cell? ⟨w.heap.size + 1, 1, none⟩ = some (.int .i64 frm) ∧ w'.cell? ⟨w.heap.size + 1, 2, none⟩ = some (.int .i64 to) ∧ w'.cell? ⟨w.heap.size + 1, 3, none⟩ = some (.int .i64 number) ∧ w'.cell? ⟨w.heap.size + 1, 4, none⟩ = some (.int .i64 value) ∧ w'.cell? ⟨w.heap.size + 1, 5, none⟩ = some (.int .i64 epoch) ∧ w'.cell? ⟨w.heap.size + 1, 6, none⟩ = some (.slice oa la ca) ∧ w'.cell? ⟨w.heap.size + 1, 7, none⟩ = some (.slice ob lb cb) ∧ w'.cell? ⟨w.heap.size + 1, 8, none⟩ = some (.int .i64 now) ∧ w'.cell? ⟨w.heap.size + 1, 9, none⟩ = some (.int .i64 term) ∧ w'.cell? ⟨w.heap.size + 1, 10, none⟩ = some (.int .i64 sent) ∧ w'.cell? ⟨w.heap.size + 1, 11, none⟩ = some (.int .i64 margin) ∧ w.heap.size + 2 < w'.heap.size ∧ Below w.heap.size w w') ((((try dsimp only); (try go_split_ands); (repeat' apply And.intro)) <;> (first | (go_simp; done) | omega | (simp only [World.size_drew, World.size_alloc, World.size_setCell]; omega) | ((go_light; with_reducible (repeat (first | exact Below.refl _ _ | refine Below.setCell ?_ (by first | omega | (simp; done) | (simp; omega)) _ | refine Below.alloc ?_ (by first | omega | (simp; done) | (simp; omega)) _ | refine Below.drew ?_ | refine Below.trans ?_ (below_drewN _ _ _) | refine Below.trans ?_ (Below.mono (by assumption) (by first | omega | (simp; done) | (simp; omega)))))); done) | (go_keep; done)))) (first | (go_at_call 11; refine (haw _).mono ?_; rintro e w' ⟨rfl, hb⟩; obtain ⟨hc, hf, hz⟩ := arm hb; (try simp only [World.size_drew, World.cell?_drew, World.frozen?_drew] at hc hf); (try simp only [World.size_alloc, World.size_setCell, World.size_drew] at hz)) | (go_at_call 17; refine (h17 _ _ _ _ _ _ _ _ _ _ _ _ _ _ _ _ _ _ _ v1 v2).mono ?_; rintro e w' ⟨rfl, hb⟩; obtain ⟨hc, hf, hz⟩ := arm hb; (try simp only [World.size_drew, World.cell?_drew, World.frozen?_drew] at hc hf); (try simp only [World.size_alloc, World.size_setCell, World.size_drew] at hz)) | (go_at_call 18; refine (h18 _ _ _ _ _ _ _ _ _ _ _ _ _ _ _ _ _ _ _ v1 v2).mono ?_; rintro e w' ⟨rfl, hb⟩; obtain ⟨hc, hf, hz⟩ := arm hb; (try simp only [World.size_drew, World.cell?_drew, World.frozen?_drew] at hc hf); (try simp only [World.size_alloc, World.size_setCell, World.size_drew] at hz)))
    go_wp2
    go_ret
    refine ⟨ret_bool (by simp), ?_⟩
    (go_light; with_reducible (repeat (first | exact Below.refl _ _ | refine Below.setCell ?_ (by first | omega | (simp; done) | (simp; omega)) _ | refine Below.alloc ?_ (by first | omega | (simp; done) | (simp; omega)) _ | refine Below.drew ?_ | refine Below.trans ?_ (below_drewN _ _ _) | refine Below.trans ?_ (Below.mono (by assumption) (by first | omega | (simp; done) | (simp; omega))))))
end Go.Proofs.Ytelkpeoilneikaa
