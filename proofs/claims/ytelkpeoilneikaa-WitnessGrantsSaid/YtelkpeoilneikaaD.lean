/- Contracts: the site's side of a lease. -/
import Derived.Test.YtelkpeoilneikaaB
import Derived.Deep.Light
import Derived.RegionTactic
namespace Go.Proofs.Ytelkpeoilneikaa
open Go.RowKit
set_option linter.unusedSimpArgs false
set_option linter.unusedVariables false
attribute [local go_sem] ltB_addr cellA_past frozenA_past setCellA_past

set_option maxHeartbeats 1000000 in
theorem give_any (s e u : Int) (w : World) :
    Calls Try.prog 23 #[.agg #[.int .i64 s, .int .i64 e, .int .i64 u]] w fun e' w' => e' = .returned (.tuple #[.agg #[.int .i64 s, .int .i64 (giveE s e u), .int .i64 (giveU s e u)], (giveM s e u).val]) ∧ Below w.heap.size w w' := by
  cases hF : formedB s e u
  · go_enter Try.func23, Try.ntmps23
    go_wp2_with (first | (go_at_call 43; refine (formed_any _ _ _ _).mono ?_; rintro e w' ⟨rfl, hb⟩; obtain ⟨hc, hf, hz⟩ := arm hb; (try simp only [World.size_drew, World.cell?_drew, World.frozen?_drew] at hc hf); (try simp only [World.size_alloc, World.size_setCell, World.size_drew] at hz)))
    refine bodyPost_ret (v := .tuple #[.agg #[.int .i64 s, .int .i64 (giveE s e u), .int .i64 (giveU s e u)], (giveM s e u).val]) ?_ rfl ⟨rfl, ?_⟩
    · (go_light; simp only [results, Try.results23]; go_simp; simp [giveM, giveE, giveU, Msg.val, Msg.zero, hF]; done)
    · (go_light; with_reducible (repeat (first | exact Below.refl _ _ | refine Below.setCell ?_ (by first | omega | (simp; done) | (simp; omega)) _ | refine Below.alloc ?_ (by first | omega | (simp; done) | (simp; omega)) _ | refine Below.drew ?_ | refine Below.trans ?_ (below_drewN _ _ _) | refine Below.trans ?_ (Below.mono (by assumption) (by first | omega | (simp; done) | (simp; omega))))))
  · have hB := inR_bd hF
    obtain ⟨b1, b2, b3, b4, b5, b6⟩ := hB
    by_cases hM : 1073741824 < e + 1
    all_goals
      go_enter Try.func23, Try.ntmps23
      go_wp2_with (first | (go_at_call 43; refine (formed_any _ _ _ _).mono ?_; rintro e w' ⟨rfl, hb⟩; obtain ⟨hc, hf, hz⟩ := arm hb; (try simp only [World.size_drew, World.cell?_drew, World.frozen?_drew] at hc hf); (try simp only [World.size_alloc, World.size_setCell, World.size_drew] at hz)))
      go_region
      go_wp2
      refine bodyPost_ret (v := .tuple #[.agg #[.int .i64 s, .int .i64 (giveE s e u), .int .i64 (giveU s e u)], (giveM s e u).val]) ?_ rfl ⟨rfl, ?_⟩
      · (go_light; simp only [results, Try.results23]; go_simp; simp [giveM, giveE, giveU, Msg.val, Msg.zero, hF, Int.not_lt.2, *]; done)
      · (go_light; with_reducible (repeat (first | exact Below.refl _ _ | refine Below.setCell ?_ (by first | omega | (simp; done) | (simp; omega)) _ | refine Below.alloc ?_ (by first | omega | (simp; done) | (simp; omega)) _ | refine Below.drew ?_ | refine Below.trans ?_ (below_drewN _ _ _) | refine Below.trans ?_ (Below.mono (by assumption) (by first | omega | (simp; done) | (simp; omega))))))
set_option maxHeartbeats 1000000 in
theorem rgive_any (s e u : Int) (w : World) :
    Calls Try.prog 24 #[.agg #[.int .i64 s, .int .i64 e, .int .i64 u]] w fun e' w' => e' = .returned (.tuple #[.agg #[.int .i64 s, .int .i64 (giveE s e u), .int .i64 (giveU s e u)], (giveM s e u).val]) ∧ Below w.heap.size w w' := by
  cases hF : formedB s e u
  · have hK : chkE s e u = 3 := by simp [chkE, hF]
    go_enter Try.func24, Try.ntmps24
    go_wp2_with (first | (go_at_call 44; refine (checkLease_any _ _ _ _).mono ?_; rintro e w' ⟨rfl, hb⟩; obtain ⟨hc, hf, hz⟩ := arm hb; (try simp only [World.size_drew, World.cell?_drew, World.frozen?_drew] at hc hf); (try simp only [World.size_alloc, World.size_setCell, World.size_drew] at hz)))
    refine bodyPost_ret (v := .tuple #[.agg #[.int .i64 s, .int .i64 (giveE s e u), .int .i64 (giveU s e u)], (giveM s e u).val]) ?_ rfl ⟨rfl, ?_⟩
    · (go_light; simp only [results, Try.results24]; go_simp; simp [giveM, giveE, giveU, Msg.val, Msg.zero, hF]; done)
    · (go_light; with_reducible (repeat (first | exact Below.refl _ _ | refine Below.setCell ?_ (by first | omega | (simp; done) | (simp; omega)) _ | refine Below.alloc ?_ (by first | omega | (simp; done) | (simp; omega)) _ | refine Below.drew ?_ | refine Below.trans ?_ (below_drewN _ _ _) | refine Below.trans ?_ (Below.mono (by assumption) (by first | omega | (simp; done) | (simp; omega))))))
  · have hK : chkE s e u = 0 := by simp [chkE, hF]
    have hB := inR_bd hF
    obtain ⟨b1, b2, b3, b4, b5, b6⟩ := hB
    by_cases hM : 1073741824 < e + 1
    all_goals
      go_enter Try.func24, Try.ntmps24
      go_wp2_with (first | (go_at_call 44; refine (checkLease_any _ _ _ _).mono ?_; rintro e w' ⟨rfl, hb⟩; obtain ⟨hc, hf, hz⟩ := arm hb; (try simp only [World.size_drew, World.cell?_drew, World.frozen?_drew] at hc hf); (try simp only [World.size_alloc, World.size_setCell, World.size_drew] at hz)))
      go_region
      go_wp2
      refine bodyPost_ret (v := .tuple #[.agg #[.int .i64 s, .int .i64 (giveE s e u), .int .i64 (giveU s e u)], (giveM s e u).val]) ?_ rfl ⟨rfl, ?_⟩
      · (go_light; simp only [results, Try.results24]; go_simp; simp [giveM, giveE, giveU, Msg.val, Msg.zero, hF, Int.not_lt.2, *]; done)
      · (go_light; with_reducible (repeat (first | exact Below.refl _ _ | refine Below.setCell ?_ (by first | omega | (simp; done) | (simp; omega)) _ | refine Below.alloc ?_ (by first | omega | (simp; done) | (simp; omega)) _ | refine Below.drew ?_ | refine Below.trans ?_ (below_drewN _ _ _) | refine Below.trans ?_ (Below.mono (by assumption) (by first | omega | (simp; done) | (simp; omega))))))
end Go.Proofs.Ytelkpeoilneikaa
