/- Contracts: the site's side of a lease. -/
import Derived.Test.YtelkpeoilneikaaB
import Derived.Deep.Light
import Derived.RegionTactic
import Derived.Deep.RegionHeld3
namespace Go.Proofs.Ytelkpeoilneikaa
open Go.RowKit
set_option linter.unusedSimpArgs false
set_option linter.unusedVariables false
attribute [local go_sem] ltB_addr cellA_past frozenA_past setCellA_past

open Go.RowKit
/-- the cells of a message -/
def Msg.cell (m : Msg) : Nat → Value
  | 0 => .int .i64 m.kind
  | 1 => .int .i64 m.frm
  | 2 => .int .i64 m.to
  | 3 => .int .i64 m.number
  | 4 => .int .i64 m.value
  | 5 => .int .i64 m.epoch
  | _ => .slice none 0 0

/-- A slice value reads as a list of messages. -/
def MsgRow (B : Nat) (w : World) (v : Value) (ms : List Msg) : Prop :=
  ∃ o cap, v = .slice o ms.length cap ∧ ms.length ≤ 1000000 ∧ ∀ i, i < ms.length → ∃ b, o = some ⟨b, 0, none⟩ ∧ B ≤ b ∧ b < w.heap.size ∧ ms.length ≤ cap ∧ ∀ j, j < 8 → w.cell? ⟨b, i * 8 + j, none⟩ = some ((ms.getD i Msg.zero).cell j)

theorem ints_nil (w : World) : Calls Try.prog 42 #[.slice none 0 0, .slice none 0 0] w fun e w' => e = .returned (.bool true) ∧ w = w' := by
  go_enter Try.func42, Try.ntmps42
  go_wp2
  refine wp_loop_rounds 1 ?_
  rw [rounds_succ]
  go_wp2
  go_ret
  exact ⟨rfl, rfl⟩

set_option maxHeartbeats 1000000 in
theorem same_msgs (va vb : Value) (ms : List Msg) (w : World) (Ba Bb : Nat) (ha : MsgRow Ba w va ms) (hb : MsgRow Bb w vb ms) :
    Calls Try.prog 14 #[va, vb] w fun e w' => e = .returned (.bool true) ∧ Below w.heap.size w w' := by
  obtain ⟨oa, ca, rfl, la, fa⟩ := ha
  obtain ⟨ob, cb, rfl, lb, fb⟩ := hb
  have Fa := Lib.hid fa
  have Fb := Lib.hid fb
  clear fa fb
  have hcv : ∀ w, (convert 25 9 (.slice none 0 0)).run Try.prog w = .ok (.string ByteArray.empty) w := fun _ => by kernel_rfl
  go_enter Try.func14, Try.ntmps14
  go_wp2
  go_loopw [5] (fun i wr => ∃ k : Nat, k ≤ ms.length ∧ i = .int .i64 k ∧ Below w.heap.size w wr) (fun i _ => ms.length - (intOf i).toNat)
  case atStart => exact ⟨0, Nat.zero_le _, rfl, Below.refl _ _⟩
  case round =>
    obtain ⟨k, hk, rfl, hbl⟩ := hrel
    by_cases hlt : k < ms.length
    · obtain ⟨ba, rfl, za, na, ea, ga⟩ := Fa.out k hlt
      obtain ⟨bb, rfl, zb, nb, eb, gb⟩ := Fb.out k hlt
      have hm : ∀ j, j < 8 → wr.cell? ⟨ba, k * 8 + j, none⟩ = some ((ms.getD k Msg.zero).cell j) := fun j hj => by rw [hbl.cell (p := ⟨ba, _, none⟩) na]; exact ga j hj
      have hm' : ∀ j, j < 8 → wr.cell? ⟨bb, k * 8 + j, none⟩ = some ((ms.getD k Msg.zero).cell j) := fun j hj => by rw [hbl.cell (p := ⟨bb, _, none⟩) nb]; exact gb j hj
      have hs := hbl.size
      generalize ms.getD k Msg.zero = m at hm hm'
      obtain ⟨a0, a1, a2, a3, a4, a5, a6, a7⟩ : wr.cell? ⟨ba, k * 8, none⟩ = some (.int .i64 m.kind) ∧ wr.cell? ⟨ba, k * 8 + 1, none⟩ = some (.int .i64 m.frm) ∧ wr.cell? ⟨ba, k * 8 + 2, none⟩ = some (.int .i64 m.to) ∧ wr.cell? ⟨ba, k * 8 + 3, none⟩ = some (.int .i64 m.number) ∧ wr.cell? ⟨ba, k * 8 + 4, none⟩ = some (.int .i64 m.value) ∧ wr.cell? ⟨ba, k * 8 + 5, none⟩ = some (.int .i64 m.epoch) ∧ wr.cell? ⟨ba, k * 8 + 6, none⟩ = some (.slice none 0 0) ∧ wr.cell? ⟨ba, k * 8 + 7, none⟩ = some (.slice none 0 0) :=
        ⟨hm 0 (by omega), hm 1 (by omega), hm 2 (by omega), hm 3 (by omega), hm 4 (by omega), hm 5 (by omega), hm 6 (by omega), hm 7 (by omega)⟩
      obtain ⟨b0, b1, b2, b3, b4, b5, b6, b7⟩ : wr.cell? ⟨bb, k * 8, none⟩ = some (.int .i64 m.kind) ∧ wr.cell? ⟨bb, k * 8 + 1, none⟩ = some (.int .i64 m.frm) ∧ wr.cell? ⟨bb, k * 8 + 2, none⟩ = some (.int .i64 m.to) ∧ wr.cell? ⟨bb, k * 8 + 3, none⟩ = some (.int .i64 m.number) ∧ wr.cell? ⟨bb, k * 8 + 4, none⟩ = some (.int .i64 m.value) ∧ wr.cell? ⟨bb, k * 8 + 5, none⟩ = some (.int .i64 m.epoch) ∧ wr.cell? ⟨bb, k * 8 + 6, none⟩ = some (.slice none 0 0) ∧ wr.cell? ⟨bb, k * 8 + 7, none⟩ = some (.slice none 0 0) :=
        ⟨hm' 0 (by omega), hm' 1 (by omega), hm' 2 (by omega), hm' 3 (by omega), hm' 4 (by omega), hm' 5 (by omega), hm' 6 (by omega), hm' 7 (by omega)⟩
      clear hm hm'
      go_wp2
      go_region
      all_goals
        go_wp2_with (go_at_call 42; refine (ints_nil _).mono ?_; rintro e w' ⟨rfl, rfl⟩)
        go_roundw
        case rel => exact ⟨k + 1, by omega, by go_num, by (go_light; with_reducible (repeat (first | exact Below.refl _ _ | refine Below.setCell ?_ (by first | omega | (simp; done) | (simp; omega)) _ | refine Below.alloc ?_ (by first | omega | (simp; done) | (simp; omega)) _ | refine Below.drew ?_ | refine Below.trans ?_ (below_drewN _ _ _) | refine Below.trans ?_ (Below.mono (by assumption) (by first | omega | (simp; done) | (simp; omega))))))⟩
        case measure => simp [intOf]; omega
    · go_wp2
      go_ret
      exact ⟨rfl, hbl⟩
end Go.Proofs.Ytelkpeoilneikaa
