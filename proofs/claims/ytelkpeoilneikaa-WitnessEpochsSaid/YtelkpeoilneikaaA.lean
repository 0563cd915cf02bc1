/- The contracts of the small functions of the witness package. -/
import Derived.Test.YtelkpeoilneikaaK
import Derived.WalkKit
import Derived.WalkLawsBesides
import Derived.WalkSpells
import Derived.Outline
import Derived.Lib.Hide
import Derived.Deep.DeepFit
namespace Go.Proofs.Ytelkpeoilneikaa
open Go.RowKit

def inR (lo n hi : Int) : Bool := decide (lo ≤ n ∧ n ≤ hi)
def formedB (s e u : Int) : Bool := inR 0 s 3 && inR 0 e 1073741824 && inR 0 u 1073741824

theorem ret_bool {a b : Bool} (h : a = b) : Ending.returned (.bool a) = .returned (.bool b) := by rw [h]
theorem ret_int {k : IntKind} {a b : Int} (h : a = b) : Ending.returned (.int k a) = .returned (.int k b) := by rw [h]
theorem inR_t {lo n hi : Int} (h1 : lo ≤ n) (h2 : n ≤ hi) : inR lo n hi = true := by simp [inR]; omega
theorem inR_f {lo n hi : Int} (h1 : n < lo ∨ hi < n) : inR lo n hi = false := by simp [inR]; omega

theorem between_any (n lo hi : Int) (w : World) :
    Calls Try.prog 33 #[.int .i64 n, .int .i64 lo, .int .i64 hi] w fun e w' => e = .returned (.bool (inR lo n hi)) ∧ w = w' := by
  go_enter Try.func33, Try.ntmps33
  go_wp2
  all_goals go_ret
  all_goals exact ⟨ret_bool (by simp [inR, *] <;> omega), rfl⟩

theorem time_any (n : Int) (w : World) :
    Calls Try.prog 32 #[.int .i64 n] w fun e w' => e = .returned (.bool (inR 0 n 1073741824)) ∧ w = w' := by
  go_enter Try.func32, Try.ntmps32
  go_wp2_with (go_at_call 33; refine (between_any _ _ _ _).mono ?_; rintro e w' ⟨rfl, rfl⟩)
  go_ret
  exact ⟨rfl, rfl⟩

theorem site_any (n : Int) (w : World) :
    Calls Try.prog 34 #[.int .i64 n] w fun e w' => e = .returned (.bool (inR 0 n 3)) ∧ w = w' := by
  go_enter Try.func34, Try.ntmps34
  go_wp2_with (go_at_call 33; refine (between_any _ _ _ _).mono ?_; rintro e w' ⟨rfl, rfl⟩)
  go_ret
  exact ⟨rfl, rfl⟩

theorem rin_any (n : Int) (w : World) :
    Calls Try.prog 38 #[.int .i64 n] w fun e w' => e = .returned (.bool (inR 0 n 1073741824)) ∧ w = w' := by
  go_enter Try.func38, Try.ntmps38
  go_wp2
  all_goals go_ret
  all_goals exact ⟨ret_bool (by simp [inR, *] <;> omega), rfl⟩

theorem rsite_any (n : Int) (w : World) :
    Calls Try.prog 39 #[.int .i64 n] w fun e w' => e = .returned (.bool (inR 0 n 3)) ∧ w = w' := by
  go_enter Try.func39, Try.ntmps39
  go_wp2
  all_goals go_ret
  all_goals exact ⟨ret_bool (by simp [inR, *] <;> omega), rfl⟩

theorem formed_any (s e u : Int) (w : World) :
    Calls Try.prog 43 #[.agg #[.int .i64 s, .int .i64 e, .int .i64 u]] w fun e' w' => e' = .returned (.bool (formedB s e u)) ∧ Below w.heap.size w w' := by
  go_enter Try.func43, Try.ntmps43
  go_wp2_with (first | (go_at_call 34; refine (site_any _ _).mono ?_; rintro e w' ⟨rfl, rfl⟩) | (go_at_call 32; refine (time_any _ _).mono ?_; rintro e w' ⟨rfl, rfl⟩))
  all_goals go_ret
  all_goals exact ⟨ret_bool (by simp [formedB, *]), (Below.refl _ _).alloc (Nat.le_refl _) _⟩

end Go.Proofs.Ytelkpeoilneikaa
