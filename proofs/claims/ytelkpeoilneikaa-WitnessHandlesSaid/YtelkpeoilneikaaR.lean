/- Contracts: the site's side of a lease. -/
import Derived.Test.YtelkpeoilneikaaQ
import Derived.Test.YtelkpeoilneikaaJ
import Derived.Deep.Light
import Derived.RegionTactic
import Derived.Deep.QuietTactic
import Derived.BigQuiet
import Derived.Deep.RegionHeld3
namespace Go.Proofs.Ytelkpeoilneikaa
open Go.RowKit
set_option linter.unusedSimpArgs false
set_option linter.unusedVariables false
attribute [local go_sem] ltB_addr cellA_past frozenA_past setCellA_past

theorem MsgRow.alloc {w : World} {v : Value} {B : Nat} {ms : List Msg} (h : MsgRow B w v ms) (o : Obj) : MsgRow B (w.alloc o) v ms := h.below ((Below.refl _ _).alloc (Nat.le_refl _) o)
def Handle12 : Prop := ∀ (q : Req) (oa ob : Option Addr) (la ca lb cb : Nat) (w : World), Calls Try.prog 12 #[.agg #[.int .i64 q.e, .int .i64 q.h, .int .i64 q.u], .int .i64 q.now, .int .i64 q.term, .agg #[.int .i64 q.kind, .int .i64 q.frm, .int .i64 q.to, .int .i64 q.number, .int .i64 q.value, .int .i64 q.epoch, .slice oa la ca, .slice ob lb cb]] w (handP q w)
def Handle13 : Prop := ∀ (q : Req) (oa ob : Option Addr) (la ca lb cb : Nat) (w : World), Calls Try.prog 13 #[.agg #[.int .i64 q.e, .int .i64 q.h, .int .i64 q.u], .int .i64 q.now, .int .i64 q.term, .agg #[.int .i64 q.kind, .int .i64 q.frm, .int .i64 q.to, .int .i64 q.number, .int .i64 q.value, .int .i64 q.epoch, .slice oa la ca, .slice ob lb cb]] w (handP q w)
set_option maxRecDepth 100000 in
set_option maxHeartbeats 4000000 in
theorem handles_walk (haw : AwakeT) (h12 : Handle12) (h13 : Handle13) (q : Req) (sent margin : Int) (oa ob : Option Addr) (la ca lb cb : Nat) (w : World) :
    Calls Try.prog 3 #[.agg #[.int .i64 q.e, .int .i64 q.h, .int .i64 q.u], .agg #[.int .i64 q.kind, .int .i64 q.frm, .int .i64 q.to, .int .i64 q.number, .int .i64 q.value, .int .i64 q.epoch, .slice oa la ca, .slice ob lb cb, .int .i64 q.now, .int .i64 q.term, .int .i64 sent, .int .i64 margin]] w fun e w' => e = .returned (.bool true) ∧ Below w.heap.size w w' := by
  cases hfw : fewB la lb
  · go_enter Try.func3, Try.ntmps3
    go_wp2_with (first | (go_at_call 10; refine (few_val _ _ _ _ _ _ _ _ _ _ _ _ _ false hfw).mono ?_; rintro e w' ⟨rfl, rfl⟩) | (go_at_call 11; refine (haw _).mono ?_; rintro e w' ⟨rfl, hb⟩))
    go_ret
    refine ⟨rfl, ?_⟩
    (go_light; with_reducible (repeat (first | exact Below.refl _ _ | refine Below.setCell ?_ (by first | omega | (simp; done) | (simp; omega)) _ | refine Below.alloc ?_ (by first | omega | (simp; done) | (simp; omega)) _ | refine Below.drew ?_ | refine Below.trans ?_ (below_drewN _ _ _) | refine Below.trans ?_ (Below.mono (by assumption) (by first | omega | (simp; done) | (simp; omega))))))
  · go_enter Try.func3, Try.ntmps3
    go_wp2_with (first | (go_at_call 10; refine (few_val _ _ _ _ _ _ _ _ _ _ _ _ _ true hfw).mono ?_; rintro e w' ⟨rfl, rfl⟩) | (go_at_call 12; refine (h12 q oa ob la ca lb cb _).mono ?_; rintro e w1 ⟨va, rfl, hra, hb1⟩; obtain ⟨hc1, hf1, hz1⟩ := arm hb1; (try simp only [World.size_alloc, World.size_setCell, World.size_drew] at hz1 hra)) | (go_at_call 13; refine (h13 q oa ob la ca lb cb _).mono ?_; rintro e w2 ⟨vb, rfl, hrb, hb2⟩; obtain ⟨hc2, hf2, hz2⟩ := arm hb2; (try simp only [World.size_alloc, World.size_setCell, World.size_drew] at hz2 hrb)))
    have hva := fun (o : Obj) => (((hra.mono (B' := w.heap.size) (by omega)).alloc _).below hb2).alloc o
    have hvb := fun (o : Obj) => (hrb.mono (B' := w.heap.size) (by omega)).alloc o
    go_region_held3 (fun w' => w'.cell? ⟨w.heap.size, 0, none⟩ = some (.int .i64 q.e) ∧ w'.cell? ⟨w.heap.size, 1, none⟩ = some (.int .i64 q.h) ∧ w'.cell? ⟨w.heap.size, 2, none⟩ = some (.int .i64 q.u) ∧ w'.cell? ⟨w1.heap.size, 0, none⟩ = some (.int .i64 (handleQ q).1.e) ∧ w'.cell? ⟨w1.heap.size, 1, none⟩ = some (.int .i64 (handleQ q).1.h) ∧ w'.cell? ⟨w1.heap.size, 2, none⟩ = some (.int .i64 (handleQ q).1.u) ∧ w'.cell? ⟨w2.heap.size, 0, none⟩ = some (.int .i64 (handleQ q).1.e) ∧ w'.cell? ⟨w2.heap.size, 1, none⟩ = some (.int .i64 (handleQ q).1.h) ∧ w'.cell? ⟨w2.heap.size, 2, none⟩ = some (.int .i64 (handleQ q).1.u) ∧ w.heap.size + 2 < w'.heap.size ∧ w1.heap.size < w'.heap.size ∧ w2.heap.size < w'.heap.size ∧ MsgRow w.heap.size w' va (handleQ q).2 ∧ MsgRow w.heap.size w' vb (handleQ q).2 ∧ Below w.heap.size w w') ((((try dsimp only); (try go_split_ands); (repeat' apply And.intro)) <;> (first | (exact (hva _).drew) | (exact (hvb _).drew) | (exact MsgRow.below (by assumption) hb) | (go_simp; done) | omega | (simp only [World.size_drew, World.size_alloc, World.size_setCell]; omega) | ((go_light; with_reducible (repeat (first | exact Below.refl _ _ | refine Below.setCell ?_ (by first | omega | (simp; done) | (simp; omega)) _ | refine Below.alloc ?_ (by first | omega | (simp; done) | (simp; omega)) _ | refine Below.drew ?_ | refine Below.trans ?_ (below_drewN _ _ _) | refine Below.trans ?_ (Below.mono (by assumption) (by first | omega | (simp; done) | (simp; omega)))))); done) | (go_keep; done)))) (first | (go_at_call 11; refine (haw _).mono ?_; rintro e w' ⟨rfl, hb⟩; obtain ⟨hc, hf, hz⟩ := arm hb; (try simp only [World.size_alloc, World.size_setCell, World.size_drew] at hz)) | (go_at_call 14; go_split_ands; refine (same_msgs va vb (handleQ q).2 _ w.heap.size w.heap.size (by assumption) (by assumption)).mono ?_; rintro e w' ⟨rfl, hb⟩; obtain ⟨hc, hf, hz⟩ := arm hb; (try simp only [World.size_alloc, World.size_setCell, World.size_drew] at hz)) | (go_at_call 15; refine (wcheck_any _ _ _ _).mono ?_; rintro e w' ⟨rfl, hb⟩; obtain ⟨hc, hf, hz⟩ := arm hb; (try simp only [World.size_alloc, World.size_setCell, World.size_drew] at hz)) | (go_at_call 16; refine (rwcheck_any _ _ _ _).mono ?_; rintro e w' ⟨rfl, hb⟩; obtain ⟨hc, hf, hz⟩ := arm hb; (try simp only [World.size_alloc, World.size_setCell, World.size_drew] at hz)))
    go_wp2
    go_ret
    refine ⟨ret_bool (by simp), ?_⟩
    (go_light; with_reducible (repeat (first | exact Below.refl _ _ | refine Below.setCell ?_ (by first | omega | (simp; done) | (simp; omega)) _ | refine Below.alloc ?_ (by first | omega | (simp; done) | (simp; omega)) _ | refine Below.drew ?_ | refine Below.trans ?_ (below_drewN _ _ _) | refine Below.trans ?_ (Below.mono (by assumption) (by first | omega | (simp; done) | (simp; omega))))))
end Go.Proofs.Ytelkpeoilneikaa
