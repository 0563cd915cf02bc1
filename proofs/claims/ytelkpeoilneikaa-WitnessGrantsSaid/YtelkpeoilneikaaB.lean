/- Contracts: the site's side of a lease. -/
import Derived.Test.YtelkpeoilneikaaA
import Derived.Deep.Light
import Derived.RegionTactic
namespace Go.Proofs.Ytelkpeoilneikaa
open Go.RowKit
set_option linter.unusedSimpArgs false
set_option linter.unusedVariables false
attribute [local go_sem] ltB_addr cellA_past frozenA_past setCellA_past

/-- A message without Values and Body. -/
structure Msg where
  kind : Int
  frm : Int
  to : Int
  number : Int
  value : Int
  epoch : Int

def Msg.zero : Msg := ⟨0, 0, 0, 0, 0, 0⟩
def Msg.val (m : Msg) : Value := .agg #[.int .i64 m.kind, .int .i64 m.frm, .int .i64 m.to, .int .i64 m.number, .int .i64 m.value, .int .i64 m.epoch, .slice none 0 0, .slice none 0 0]

def chkE (s e u : Int) : Int := if formedB s e u = true then 0 else 3
def askE (s e u ep : Int) : Int := if formedB s e u = true then (if inR 1 ep 1073741824 = true then (if ep < e then 13 else 0) else 2) else 3
def askM (s e u ep : Int) : Msg := if formedB s e u = true then (if inR 1 ep 1073741824 = true then (if ep < e then Msg.zero else ⟨15, s, 4, 0, 0, ep⟩) else Msg.zero) else Msg.zero
def renewE (s e u : Int) : Int := if formedB s e u = true then (if u = 0 then 12 else 0) else 3
def renewM (s e u : Int) : Msg := if formedB s e u = true then (if u = 0 then Msg.zero else ⟨17, s, 4, 0, 0, e⟩) else Msg.zero
def giveM (s e u : Int) : Msg := if formedB s e u = true then ⟨18, s, 4, 0, 0, e⟩ else Msg.zero
def giveE (s e u : Int) : Int := if formedB s e u = true then (if 1073741824 < e + 1 then 1073741824 else e + 1) else e
def giveU (s e u : Int) : Int := if formedB s e u = true then 0 else u

theorem below_drewN (B : Nat) (w : World) (n : Nat) : Below B w (w.drewN n) := ⟨rfl, rfl, rfl, Nat.le_refl _, fun _ _ => rfl⟩
theorem inR_lo {lo n hi : Int} (h : inR lo n hi = true) : lo ≤ n ∧ n ≤ hi := by simpa [inR] using h
theorem inR_bd {s e u : Int} (h : formedB s e u = true) : 0 ≤ s ∧ s ≤ 3 ∧ 0 ≤ e ∧ e ≤ 1073741824 ∧ 0 ≤ u ∧ u ≤ 1073741824 := by
  simp [formedB, inR] at h
  omega

theorem checkLease_any (s e u : Int) (w : World) :
    Calls Try.prog 44 #[.agg #[.int .i64 s, .int .i64 e, .int .i64 u]] w fun e' w' => e' = .returned (.int .i64 (chkE s e u)) ∧ Below w.heap.size w w' := by
  cases h1 : inR 0 s 3 <;> cases h2 : inR 0 e 1073741824 <;> cases h3 : inR 0 u 1073741824
  all_goals
    go_enter Try.func44, Try.ntmps44
    go_wp2_with (first | (go_at_call 38; refine (rin_any _ _).mono ?_; rintro e w' ⟨rfl, rfl⟩) | (go_at_call 39; refine (rsite_any _ _).mono ?_; rintro e w' ⟨rfl, rfl⟩))
    go_ret
    exact ⟨ret_int (by simp [chkE, formedB, h1, h2, h3]), (Below.refl _ _).alloc (Nat.le_refl _) _⟩

theorem holds_any (s e u now : Int) (w : World) :
    Calls Try.prog 25 #[.agg #[.int .i64 s, .int .i64 e, .int .i64 u], .int .i64 now] w fun e' w' => e' = .returned (.bool (formedB s e u && decide (now < u))) ∧ Below w.heap.size w w' := by
  cases h1 : formedB s e u
  all_goals
    go_enter Try.func25, Try.ntmps25
    go_wp2_with (first | (go_at_call 43; refine (formed_any _ _ _ _).mono ?_; rintro e w' ⟨rfl, hb⟩; obtain ⟨hc, hf, hz⟩ := arm hb; (try simp only [World.size_drew, World.cell?_drew, World.frozen?_drew] at hc hf); (try simp only [World.size_alloc, World.size_setCell, World.size_drew] at hz)))
    go_ret
    refine ⟨ret_bool (by simp), ?_⟩
    (go_light; with_reducible (repeat (first | exact Below.refl _ _ | refine Below.setCell ?_ (by first | omega | (simp; done) | (simp; omega)) _ | refine Below.alloc ?_ (by first | omega | (simp; done) | (simp; omega)) _ | refine Below.drew ?_ | refine Below.trans ?_ (below_drewN _ _ _) | refine Below.trans ?_ (Below.mono (by assumption) (by first | omega | (simp; done) | (simp; omega))))))
theorem rholds_any (s e u now : Int) (w : World) :
    Calls Try.prog 26 #[.agg #[.int .i64 s, .int .i64 e, .int .i64 u], .int .i64 now] w fun e' w' => e' = .returned (.bool (formedB s e u && decide (now < u))) ∧ Below w.heap.size w w' := by
  cases h1 : formedB s e u
  · have h2 : chkE s e u = 3 := by simp [chkE, h1]
    go_enter Try.func26, Try.ntmps26
    go_wp2_with (first | (go_at_call 44; refine (checkLease_any _ _ _ _).mono ?_; rintro e w' ⟨rfl, hb⟩; obtain ⟨hc, hf, hz⟩ := arm hb; (try simp only [World.size_drew, World.cell?_drew, World.frozen?_drew] at hc hf); (try simp only [World.size_alloc, World.size_setCell, World.size_drew] at hz)))
    go_ret
    refine ⟨ret_bool (by simp), ?_⟩
    (go_light; with_reducible (repeat (first | exact Below.refl _ _ | refine Below.setCell ?_ (by first | omega | (simp; done) | (simp; omega)) _ | refine Below.alloc ?_ (by first | omega | (simp; done) | (simp; omega)) _ | refine Below.drew ?_ | refine Below.trans ?_ (below_drewN _ _ _) | refine Below.trans ?_ (Below.mono (by assumption) (by first | omega | (simp; done) | (simp; omega))))))
  · have h2 : chkE s e u = 0 := by simp [chkE, h1]
    go_enter Try.func26, Try.ntmps26
    go_wp2_with (first | (go_at_call 44; refine (checkLease_any _ _ _ _).mono ?_; rintro e w' ⟨rfl, hb⟩; obtain ⟨hc, hf, hz⟩ := arm hb; (try simp only [World.size_drew, World.cell?_drew, World.frozen?_drew] at hc hf); (try simp only [World.size_alloc, World.size_setCell, World.size_drew] at hz)))
    go_ret
    refine ⟨ret_bool (by simp), ?_⟩
    (go_light; with_reducible (repeat (first | exact Below.refl _ _ | refine Below.setCell ?_ (by first | omega | (simp; done) | (simp; omega)) _ | refine Below.alloc ?_ (by first | omega | (simp; done) | (simp; omega)) _ | refine Below.drew ?_ | refine Below.trans ?_ (below_drewN _ _ _) | refine Below.trans ?_ (Below.mono (by assumption) (by first | omega | (simp; done) | (simp; omega))))))
end Go.Proofs.Ytelkpeoilneikaa
