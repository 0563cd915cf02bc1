/- Contracts: the site's side of a lease. -/
import Derived.Test.YtelkpeoilneikaaN
import Derived.Deep.Light
import Derived.RegionTactic
import Derived.Deep.QuietTactic
import Derived.BigQuiet
import Derived.Deep.RegionHeld3
namespace Go.Proofs.Ytelkpeoilneikaa
open Go.RowKit
set_option linter.unusedSimpArgs false
set_option linter.unusedVariables false
attribute [local go_sem] ltB_addr cellA_past frozenA_past setCellA_past

theorem msgRow_one {B : Nat} {w' : World} {v : Value} {m : Msg} (h : MsgRow B w' v [m]) : ∃ b cap, v = .slice (some ⟨b, 0, none⟩) 1 cap ∧ B ≤ b ∧ b < w'.heap.size ∧ 1 ≤ cap ∧ w'.cell? ⟨b, 0, none⟩ = some (.int .i64 m.kind) ∧ w'.cell? ⟨b, 1, none⟩ = some (.int .i64 m.frm) ∧ w'.cell? ⟨b, 2, none⟩ = some (.int .i64 m.to) ∧ w'.cell? ⟨b, 3, none⟩ = some (.int .i64 m.number) ∧ w'.cell? ⟨b, 4, none⟩ = some (.int .i64 m.value) ∧ w'.cell? ⟨b, 5, none⟩ = some (.int .i64 m.epoch) ∧ w'.cell? ⟨b, 6, none⟩ = some (.slice none 0 0) ∧ w'.cell? ⟨b, 7, none⟩ = some (.slice none 0 0) := by
  obtain ⟨o, cap, rfl, _, hf⟩ := h
  obtain ⟨b, rfl, h1, h2, h3, h4⟩ := hf 0 (by simp)
  exact ⟨b, cap, rfl, h1, h2, by simpa using h3, by simpa [Msg.cell] using h4 0 (by omega), by simpa [Msg.cell] using h4 1 (by omega), by simpa [Msg.cell] using h4 2 (by omega), by simpa [Msg.cell] using h4 3 (by omega), by simpa [Msg.cell] using h4 4 (by omega), by simpa [Msg.cell] using h4 5 (by omega), by simpa [Msg.cell] using h4 6 (by omega), by simpa [Msg.cell] using h4 7 (by omega)⟩
theorem ask1 (w : World) : Calls Try.prog 19 #[.agg #[.int .i64 0, .int .i64 0, .int .i64 0], .int .i64 1] w fun e w' => e = .returned (.tuple #[.agg #[.int .i64 15, .int .i64 0, .int .i64 4, .int .i64 0, .int .i64 0, .int .i64 1, .slice none 0 0, .slice none 0 0], .int .i64 0]) ∧ Below w.heap.size w w' := by
  have e1 : askM 0 0 0 1 = ⟨15, 0, 4, 0, 0, 1⟩ := by kernel_rfl
  have e2 : askE 0 0 0 1 = 0 := by kernel_rfl
  have := ask_any 0 0 0 1 w
  rw [e1, e2] at this
  exact this
theorem ask2 (w : World) : Calls Try.prog 19 #[.agg #[.int .i64 1, .int .i64 0, .int .i64 0], .int .i64 2] w fun e w' => e = .returned (.tuple #[.agg #[.int .i64 15, .int .i64 1, .int .i64 4, .int .i64 0, .int .i64 0, .int .i64 2, .slice none 0 0, .slice none 0 0], .int .i64 0]) ∧ Below w.heap.size w w' := by
  have e1 : askM 1 0 0 2 = ⟨15, 1, 4, 0, 0, 2⟩ := by kernel_rfl
  have e2 : askE 1 0 0 2 = 0 := by kernel_rfl
  have := ask_any 1 0 0 2 w
  rw [e1, e2] at this
  exact this
theorem hand1 (w : World) : Calls Try.prog 12 #[.agg #[.int .i64 0, .int .i64 0, .int .i64 0], .int .i64 5, .int .i64 10, .agg #[.int .i64 15, .int .i64 0, .int .i64 4, .int .i64 0, .int .i64 0, .int .i64 1, .slice none 0 0, .slice none 0 0]] w fun e w' => ∃ b cap, e = .returned (.tuple #[.agg #[.int .i64 1, .int .i64 0, .int .i64 15], .slice (some ⟨b, 0, none⟩) 1 cap]) ∧ w.heap.size ≤ b ∧ b < w'.heap.size ∧ 1 ≤ cap ∧ w'.cell? ⟨b, 0, none⟩ = some (.int .i64 16) ∧ w'.cell? ⟨b, 1, none⟩ = some (.int .i64 4) ∧ w'.cell? ⟨b, 2, none⟩ = some (.int .i64 0) ∧ w'.cell? ⟨b, 3, none⟩ = some (.int .i64 0) ∧ w'.cell? ⟨b, 4, none⟩ = some (.int .i64 10) ∧ w'.cell? ⟨b, 5, none⟩ = some (.int .i64 1) ∧ w'.cell? ⟨b, 6, none⟩ = some (.slice none 0 0) ∧ w'.cell? ⟨b, 7, none⟩ = some (.slice none 0 0) ∧ Below w.heap.size w w' := by
  refine (handle_any ⟨0, 0, 0, 5, 10, 15, 0, 4, 0, 0, 1⟩ none none 0 0 0 0 w).mono ?_
  rintro e w' ⟨v, rfl, hr, hb⟩
  have e1 : handleQ ⟨0, 0, 0, 5, 10, 15, 0, 4, 0, 0, 1⟩ = (⟨1, 0, 15, 5, 10, 15, 0, 4, 0, 0, 1⟩, [⟨16, 4, 0, 0, 10, 1⟩]) := by kernel_rfl
  rw [e1] at hr ⊢
  obtain ⟨b, cap, rfl, h1, h2, h3, h4⟩ := msgRow_one hr
  exact ⟨b, cap, rfl, h1, h2, h3, h4.1, h4.2.1, h4.2.2.1, h4.2.2.2.1, h4.2.2.2.2.1, h4.2.2.2.2.2.1, h4.2.2.2.2.2.2.1, h4.2.2.2.2.2.2.2, hb⟩
theorem hand2 (w : World) : Calls Try.prog 12 #[.agg #[.int .i64 1, .int .i64 0, .int .i64 15], .int .i64 14, .int .i64 10, .agg #[.int .i64 15, .int .i64 1, .int .i64 4, .int .i64 0, .int .i64 0, .int .i64 2, .slice none 0 0, .slice none 0 0]] w fun e w' => ∃ b cap, e = .returned (.tuple #[.agg #[.int .i64 1, .int .i64 0, .int .i64 15], .slice (some ⟨b, 0, none⟩) 1 cap]) ∧ w.heap.size ≤ b ∧ b < w'.heap.size ∧ 1 ≤ cap ∧ w'.cell? ⟨b, 0, none⟩ = some (.int .i64 12) ∧ w'.cell? ⟨b, 1, none⟩ = some (.int .i64 4) ∧ w'.cell? ⟨b, 2, none⟩ = some (.int .i64 1) ∧ w'.cell? ⟨b, 3, none⟩ = some (.int .i64 0) ∧ w'.cell? ⟨b, 4, none⟩ = some (.int .i64 0) ∧ w'.cell? ⟨b, 5, none⟩ = some (.int .i64 1) ∧ w'.cell? ⟨b, 6, none⟩ = some (.slice none 0 0) ∧ w'.cell? ⟨b, 7, none⟩ = some (.slice none 0 0) ∧ Below w.heap.size w w' := by
  refine (handle_any ⟨1, 0, 15, 14, 10, 15, 1, 4, 0, 0, 2⟩ none none 0 0 0 0 w).mono ?_
  rintro e w' ⟨v, rfl, hr, hb⟩
  have e1 : handleQ ⟨1, 0, 15, 14, 10, 15, 1, 4, 0, 0, 2⟩ = (⟨1, 0, 15, 14, 10, 15, 1, 4, 0, 0, 2⟩, [⟨12, 4, 1, 0, 0, 1⟩]) := by kernel_rfl
  rw [e1] at hr ⊢
  obtain ⟨b, cap, rfl, h1, h2, h3, h4⟩ := msgRow_one hr
  exact ⟨b, cap, rfl, h1, h2, h3, h4.1, h4.2.1, h4.2.2.1, h4.2.2.2.1, h4.2.2.2.2.1, h4.2.2.2.2.2.1, h4.2.2.2.2.2.2.1, h4.2.2.2.2.2.2.2, hb⟩
theorem hand3 (w : World) : Calls Try.prog 12 #[.agg #[.int .i64 1, .int .i64 0, .int .i64 15], .int .i64 15, .int .i64 10, .agg #[.int .i64 15, .int .i64 1, .int .i64 4, .int .i64 0, .int .i64 0, .int .i64 2, .slice none 0 0, .slice none 0 0]] w fun e w' => ∃ b cap, e = .returned (.tuple #[.agg #[.int .i64 2, .int .i64 1, .int .i64 25], .slice (some ⟨b, 0, none⟩) 1 cap]) ∧ w.heap.size ≤ b ∧ b < w'.heap.size ∧ 1 ≤ cap ∧ w'.cell? ⟨b, 0, none⟩ = some (.int .i64 16) ∧ w'.cell? ⟨b, 1, none⟩ = some (.int .i64 4) ∧ w'.cell? ⟨b, 2, none⟩ = some (.int .i64 1) ∧ w'.cell? ⟨b, 3, none⟩ = some (.int .i64 0) ∧ w'.cell? ⟨b, 4, none⟩ = some (.int .i64 10) ∧ w'.cell? ⟨b, 5, none⟩ = some (.int .i64 2) ∧ w'.cell? ⟨b, 6, none⟩ = some (.slice none 0 0) ∧ w'.cell? ⟨b, 7, none⟩ = some (.slice none 0 0) ∧ Below w.heap.size w w' := by
  refine (handle_any ⟨1, 0, 15, 15, 10, 15, 1, 4, 0, 0, 2⟩ none none 0 0 0 0 w).mono ?_
  rintro e w' ⟨v, rfl, hr, hb⟩
  have e1 : handleQ ⟨1, 0, 15, 15, 10, 15, 1, 4, 0, 0, 2⟩ = (⟨2, 1, 25, 15, 10, 15, 1, 4, 0, 0, 2⟩, [⟨16, 4, 1, 0, 10, 2⟩]) := by kernel_rfl
  rw [e1] at hr ⊢
  obtain ⟨b, cap, rfl, h1, h2, h3, h4⟩ := msgRow_one hr
  exact ⟨b, cap, rfl, h1, h2, h3, h4.1, h4.2.1, h4.2.2.1, h4.2.2.2.1, h4.2.2.2.2.1, h4.2.2.2.2.2.1, h4.2.2.2.2.2.2.1, h4.2.2.2.2.2.2.2, hb⟩
theorem learn1 (w : World) : Calls Try.prog 17 #[.agg #[.int .i64 0, .int .i64 0, .int .i64 0], .int .i64 3, .int .i64 10, .int .i64 1, .agg #[.int .i64 16, .int .i64 4, .int .i64 0, .int .i64 0, .int .i64 10, .int .i64 1, .slice none 0 0, .slice none 0 0]] w fun e w' => e = .returned (.agg #[.int .i64 0, .int .i64 1, .int .i64 12]) ∧ Below w.heap.size w w' := by
  refine (learn17_any 0 0 0 3 10 1 16 4 0 0 10 1 none none 0 0 0 0 w (by omega) (by omega)).mono ?_
  rintro e w' ⟨rfl, hb⟩
  have e1 : learnE 0 0 0 3 10 1 16 0 10 1 = 1 := by kernel_rfl
  have e2 : learnU 0 0 0 3 10 1 16 0 10 1 = 12 := by kernel_rfl
  rw [e1, e2]
  exact ⟨rfl, hb⟩
theorem learn2 (w : World) : Calls Try.prog 17 #[.agg #[.int .i64 0, .int .i64 2, .int .i64 0], .int .i64 3, .int .i64 10, .int .i64 1, .agg #[.int .i64 16, .int .i64 4, .int .i64 0, .int .i64 0, .int .i64 10, .int .i64 1, .slice none 0 0, .slice none 0 0]] w fun e w' => e = .returned (.agg #[.int .i64 0, .int .i64 2, .int .i64 0]) ∧ Below w.heap.size w w' := by
  refine (learn17_any 0 2 0 3 10 1 16 4 0 0 10 1 none none 0 0 0 0 w (by omega) (by omega)).mono ?_
  rintro e w' ⟨rfl, hb⟩
  have e1 : learnE 0 2 0 3 10 1 16 0 10 1 = 2 := by kernel_rfl
  have e2 : learnU 0 2 0 3 10 1 16 0 10 1 = 0 := by kernel_rfl
  rw [e1, e2]
  exact ⟨rfl, hb⟩

theorem give1 (w : World) : Calls Try.prog 23 #[.agg #[.int .i64 0, .int .i64 1, .int .i64 12]] w fun e w' => e = .returned (.tuple #[.agg #[.int .i64 0, .int .i64 2, .int .i64 0], .agg #[.int .i64 18, .int .i64 0, .int .i64 4, .int .i64 0, .int .i64 0, .int .i64 1, .slice none 0 0, .slice none 0 0]]) ∧ Below w.heap.size w w' := by
  have e1 : giveE 0 1 12 = 2 := by kernel_rfl
  have e2 : giveU 0 1 12 = 0 := by kernel_rfl
  have e3 : giveM 0 1 12 = ⟨18, 0, 4, 0, 0, 1⟩ := by kernel_rfl
  have := give_any 0 1 12 w
  rw [e1, e2, e3] at this
  exact this
theorem hold1 (w : World) : Calls Try.prog 25 #[.agg #[.int .i64 0, .int .i64 1, .int .i64 12], .int .i64 11] w fun e w' => e = .returned (.bool true) ∧ Below w.heap.size w w' := by
  have e1 : (formedB 0 1 12 && decide ((11 : Int) < 12)) = true := by kernel_rfl
  have := holds_any 0 1 12 11 w
  rw [e1] at this
  exact this
theorem hold2 (w : World) : Calls Try.prog 25 #[.agg #[.int .i64 0, .int .i64 1, .int .i64 12], .int .i64 12] w fun e w' => e = .returned (.bool false) ∧ Below w.heap.size w w' := by
  have e1 : (formedB 0 1 12 && decide ((12 : Int) < 12)) = false := by kernel_rfl
  have := holds_any 0 1 12 12 w
  rw [e1] at this
  exact this
end Go.Proofs.Ytelkpeoilneikaa
