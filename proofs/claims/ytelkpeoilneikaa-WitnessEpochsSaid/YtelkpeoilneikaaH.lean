/- Contracts: the site's side of a lease. -/
import Derived.Test.YtelkpeoilneikaaG
import Derived.Deep.Light
import Derived.RegionTactic
import Derived.MapKept
import Derived.Deep.QuietTactic
import Derived.BigQuiet
import Derived.Deep.RegionHeld3
namespace Go.Proofs.Ytelkpeoilneikaa
open Go.RowKit
set_option linter.unusedSimpArgs false
set_option linter.unusedVariables false
attribute [local go_sem] ltB_addr cellA_past frozenA_past setCellA_past

open Go.MapKept
theorem insert_int {P : Program} {t k e : TypeId} {q : IntKind} (ht : P.underlying t = some (.map k e)) (hk : P.underlying k = some (.int q)) (w : World) (n : Nat) (hn : n = w.heap.size) (es : Array MapEntry) (clock : Nat) (x : Int) (v : Value)
    (hf : Instr.findNow (.int q) (.int q x) es.toList 0 = some none) : (Instr.mapUpdate t (.map (some n)) (.int q x) v).run P (w.alloc (.map es clock)) = .ok () (w.alloc (.map (es.push ⟨.int q x, v, clock⟩) (clock + 1))) := by
  subst hn
  have hb : (w.alloc (.map es clock)).heap[w.heap.size]? = some (.map es clock) := by show (w.heap.push _)[w.heap.size]? = _; simp
  have e1 := Go.MapKept.run_getObj_map (P := P) hb
  have e2 := Go.MapKept.run_setObj_map (P := P) (w := w.alloc (.map es clock)) (.map (es.push ⟨.int q x, v, clock⟩) (clock + 1)) hb
  have e3 := run_checkKey (P := P) (w := w.alloc (.map es clock)) hk (k := .int q x) rfl false 9999
  have e4 := run_findKey (P := P) (w := w.alloc (.map es clock)) hk hf
  simp only [Instr.mapUpdate, Sem.run_bind, run_underlying ht, Result.andThen, e1, e3, e4, e2]
  have e5 : (w.heap.push (.map es clock)).setIfInBounds w.heap.size (.map (es.push ⟨.int q x, v, clock⟩) (clock + 1)) = w.heap.push (.map (es.push ⟨.int q x, v, clock⟩) (clock + 1)) := by
    apply Array.ext
    · simp
    · intro i h1 h2
      rw [Array.getElem_setIfInBounds (by simpa using h1), Array.getElem_push, Array.getElem_push]
      have h3 : i < w.heap.size + 1 := by simpa using h1
      split <;> split <;> first | rfl | omega
  show Result.ok () { (w.alloc (.map es clock)) with heap := (w.heap.push (.map es clock)).setIfInBounds w.heap.size (.map (es.push ⟨.int q x, v, clock⟩) (clock + 1)) } = _
  rw [e5]
  rfl
theorem lookup_hit {P : Program} {t k e : TypeId} {q : IntKind} (ht : P.underlying t = some (.map k e)) (hk : P.underlying k = some (.int q)) (w : World) (n : Nat) (hn : n = w.heap.size) (es : Array MapEntry) (clock : Nat) (x : Int) (i : Nat) (v : Value)
    (hf : Instr.findNow (.int q) (.int q x) es.toList 0 = some (some (i, v))) : (Instr.lookup t (.map (some n)) (.int q x) true).run P (w.alloc (.map es clock)) = .ok (.tuple #[v, .bool true]) (w.alloc (.map es clock)) := by
  subst hn
  have hb : (w.alloc (.map es clock)).heap[w.heap.size]? = some (.map es clock) := by show (w.heap.push _)[w.heap.size]? = _; simp
  have e1 := Go.MapKept.run_getObj_map (P := P) hb
  have e3 := run_checkKey (P := P) (w := w.alloc (.map es clock)) hk (k := .int q x) rfl es.isEmpty 9999
  have e4 := run_findKey (P := P) (w := w.alloc (.map es clock)) hk hf
  simp [Instr.lookup, Sem.run_bind, run_underlying ht, Result.andThen, e1, e3, e4]
theorem lookup_miss {P : Program} {t k e : TypeId} {q : IntKind} (ht : P.underlying t = some (.map k e)) (hk : P.underlying k = some (.int q)) (w : World) (n : Nat) (hn : n = w.heap.size) (es : Array MapEntry) (clock : Nat) (x : Int) (z : Value)
    (hz : ∀ w, (zeroValue e).run P w = .ok z w) (hf : Instr.findNow (.int q) (.int q x) es.toList 0 = some none) : (Instr.lookup t (.map (some n)) (.int q x) true).run P (w.alloc (.map es clock)) = .ok (.tuple #[z, .bool false]) (w.alloc (.map es clock)) := by
  subst hn
  have hb : (w.alloc (.map es clock)).heap[w.heap.size]? = some (.map es clock) := by show (w.heap.push _)[w.heap.size]? = _; simp
  have e1 := Go.MapKept.run_getObj_map (P := P) hb
  have e3 := run_checkKey (P := P) (w := w.alloc (.map es clock)) hk (k := .int q x) rfl es.isEmpty 9999
  have e4 := run_findKey (P := P) (w := w.alloc (.map es clock)) hk hf
  simp [Instr.lookup, Sem.run_bind, run_underlying ht, Result.andThen, e1, e3, e4, hz]

def witB (e h u : Int) : Bool := inR 0 e 1073741824 && inR 0 u 1073741824 && (!(h != -1) || inR 0 h 3)
def wchkE (e h u : Int) : Int := if witB e h u = true then 0 else 3

theorem wcheck_any (e h u : Int) (w : World) :
    Calls Try.prog 15 #[.agg #[.int .i64 e, .int .i64 h, .int .i64 u]] w fun e' w' => e' = .returned (.int .i64 (wchkE e h u)) ∧ Below w.heap.size w w' := by
  cases h1 : inR 0 e 1073741824
  · go_enter Try.func15, Try.ntmps15
    go_wp2_with (first | (go_at_call 32; refine (time_any _ _).mono ?_; rintro e w' ⟨rfl, rfl⟩) | (go_at_call 34; refine (site_any _ _).mono ?_; rintro e w' ⟨rfl, rfl⟩))
    go_ret
    exact ⟨ret_int (by simp [wchkE, witB, h1]), (Below.refl _ _).alloc (Nat.le_refl _) _⟩
  · cases h2 : inR 0 u 1073741824
    · go_enter Try.func15, Try.ntmps15
      go_wp2_with (first | (go_at_call 32; refine (time_any _ _).mono ?_; rintro e w' ⟨rfl, rfl⟩) | (go_at_call 34; refine (site_any _ _).mono ?_; rintro e w' ⟨rfl, rfl⟩))
      go_ret
      exact ⟨ret_int (by simp [wchkE, witB, h1, h2]), (Below.refl _ _).alloc (Nat.le_refl _) _⟩
    · cases h3 : (h != -1) <;> cases h4 : inR 0 h 3
      all_goals
        go_enter Try.func15, Try.ntmps15
        go_wp2_with (first | (go_at_call 32; refine (time_any _ _).mono ?_; rintro e w' ⟨rfl, rfl⟩) | (go_at_call 34; refine (site_any _ _).mono ?_; rintro e w' ⟨rfl, rfl⟩))
        go_ret
        exact ⟨ret_int (by simp [wchkE, witB, h1, h2, h3, h4]), (Below.refl _ _).alloc (Nat.le_refl _) _⟩
theorem rwcheck_any (e h u : Int) (w : World) :
    Calls Try.prog 16 #[.agg #[.int .i64 e, .int .i64 h, .int .i64 u]] w fun e' w' => e' = .returned (.int .i64 (wchkE e h u)) ∧ Below w.heap.size w w' := by
  cases h1 : inR 0 e 1073741824
  · go_enter Try.func16, Try.ntmps16
    go_wp2_with (first | (go_at_call 38; refine (rin_any _ _).mono ?_; rintro e w' ⟨rfl, rfl⟩) | (go_at_call 39; refine (rsite_any _ _).mono ?_; rintro e w' ⟨rfl, rfl⟩))
    go_ret
    exact ⟨ret_int (by simp [wchkE, witB, h1]), (Below.refl _ _).alloc (Nat.le_refl _) _⟩
  · cases h2 : inR 0 u 1073741824
    · go_enter Try.func16, Try.ntmps16
      go_wp2_with (first | (go_at_call 38; refine (rin_any _ _).mono ?_; rintro e w' ⟨rfl, rfl⟩) | (go_at_call 39; refine (rsite_any _ _).mono ?_; rintro e w' ⟨rfl, rfl⟩))
      go_ret
      exact ⟨ret_int (by simp [wchkE, witB, h1, h2]), (Below.refl _ _).alloc (Nat.le_refl _) _⟩
    · cases h3 : (h != -1) <;> cases h4 : inR 0 h 3
      all_goals
        go_enter Try.func16, Try.ntmps16
        go_wp2_with (first | (go_at_call 38; refine (rin_any _ _).mono ?_; rintro e w' ⟨rfl, rfl⟩) | (go_at_call 39; refine (rsite_any _ _).mono ?_; rintro e w' ⟨rfl, rfl⟩))
        go_ret
        exact ⟨ret_int (by simp [wchkE, witB, h1, h2, h3, h4]), (Below.refl _ _).alloc (Nat.le_refl _) _⟩
theorem rheld_any (e h u now : Int) (w : World) :
    Calls Try.prog 40 #[.agg #[.int .i64 e, .int .i64 h, .int .i64 u], .int .i64 now] w fun e' w' => e' = .returned (.bool (heldB h u now)) ∧ Below w.heap.size w w' := by
  cases h1 : (h != -1)
  all_goals
    go_enter Try.func40, Try.ntmps40
    go_wp2
    go_ret
    exact ⟨ret_bool (by simp [heldB, h1]), (Below.refl _ _).alloc (Nat.le_refl _) _⟩
theorem ranswer_any (kind frm to number value epoch k e v : Int) (oa ob : Option Addr) (la ca lb cb : Nat) (w : World) :
    Calls Try.prog 41 #[.agg #[.int .i64 kind, .int .i64 frm, .int .i64 to, .int .i64 number, .int .i64 value, .int .i64 epoch, .slice oa la ca, .slice ob lb cb], .int .i64 k, .int .i64 e, .int .i64 v] w fun e' w' => ∃ b, e' = .returned (.slice (some ⟨b, 0, none⟩) 1 1) ∧ MsgRow w.heap.size w' (.slice (some ⟨b, 0, none⟩) 1 1) [⟨k, 4, frm, number, v, e⟩] ∧ Below w.heap.size w w' := by
  go_enter Try.func41, Try.ntmps41
  go_wp2
  go_ret
  exact ⟨w.heap.size + 1, rfl, msgRow_new _ ⟨k, 4, frm, number, v, e⟩ _ (by simp) _ (by simp), ((Below.refl _ _).alloc (Nat.le_refl _) _).alloc (by simp) _⟩
theorem ranswer_exact (kind frm to number value epoch k e v : Int) (oa ob : Option Addr) (la ca lb cb : Nat) (w : World) :
    Calls Try.prog 41 #[.agg #[.int .i64 kind, .int .i64 frm, .int .i64 to, .int .i64 number, .int .i64 value, .int .i64 epoch, .slice oa la ca, .slice ob lb cb], .int .i64 k, .int .i64 e, .int .i64 v] w fun e' w' => e' = .returned (.slice (some ⟨w.heap.size + 1, 0, none⟩) 1 1) ∧ w' = (w.alloc (.cells #[.int .i64 kind, .int .i64 frm, .int .i64 to, .int .i64 number, .int .i64 value, .int .i64 epoch, .slice oa la ca, .slice ob lb cb] 27)).alloc (.cells #[.int .i64 k, .int .i64 4, .int .i64 frm, .int .i64 number, .int .i64 v, .int .i64 e, .slice none 0 0, .slice none 0 0] 27) := by
  go_enter Try.func41, Try.ntmps41
  go_wp2
  go_ret
  exact ⟨rfl, rfl⟩
end Go.Proofs.Ytelkpeoilneikaa
