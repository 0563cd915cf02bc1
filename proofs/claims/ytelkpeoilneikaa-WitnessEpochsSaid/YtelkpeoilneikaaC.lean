/- Contracts: the site's side of a lease. -/
import Derived.Test.YtelkpeoilneikaaB
import Derived.Deep.Light
import Derived.RegionTactic
namespace Go.Proofs.Ytelkpeoilneikaa
open Go.RowKit
set_option linter.unusedSimpArgs false
set_option linter.unusedVariables false
attribute [local go_sem] ltB_addr cellA_past frozenA_past setCellA_past

set_option maxHeartbeats 1000000 in
theorem ask_any (s e u ep : Int) (w : World) :
    Calls Try.prog 19 #[.agg #[.int .i64 s, .int .i64 e, .int .i64 u], .int .i64 ep] w fun e' w' => e' = .returned (.tuple #[(askM s e u ep).val, .int .i64 (askE s e u ep)]) ∧ Below w.heap.size w w' := by
  cases hF : formedB s e u
  · go_enter Try.func19, Try.ntmps19
    go_wp2_with (first | (go_at_call 43; refine (formed_any _ _ _ _).mono ?_; rintro e w' ⟨rfl, hb⟩; obtain ⟨hc, hf, hz⟩ := arm hb; (try simp only [World.size_drew, World.cell?_drew, World.frozen?_drew] at hc hf); (try simp only [World.size_alloc, World.size_setCell, World.size_drew] at hz)) | (go_at_call 33; refine (between_any _ _ _ _).mono ?_; rintro e w' ⟨rfl, rfl⟩))
    refine bodyPost_ret (v := .tuple #[(askM s e u ep).val, .int .i64 (askE s e u ep)]) ?_ rfl ⟨rfl, ?_⟩
    · (go_light; simp only [results, Try.results19]; go_simp; simp [askM, askE, Msg.val, Msg.zero, hF]; done)
    · (go_light; with_reducible (repeat (first | exact Below.refl _ _ | refine Below.setCell ?_ (by first | omega | (simp; done) | (simp; omega)) _ | refine Below.alloc ?_ (by first | omega | (simp; done) | (simp; omega)) _ | refine Below.drew ?_ | refine Below.trans ?_ (below_drewN _ _ _) | refine Below.trans ?_ (Below.mono (by assumption) (by first | omega | (simp; done) | (simp; omega))))))
  · cases hR : inR 1 ep 1073741824
    · go_enter Try.func19, Try.ntmps19
      go_wp2_with (first | (go_at_call 43; refine (formed_any _ _ _ _).mono ?_; rintro e w' ⟨rfl, hb⟩; obtain ⟨hc, hf, hz⟩ := arm hb; (try simp only [World.size_drew, World.cell?_drew, World.frozen?_drew] at hc hf); (try simp only [World.size_alloc, World.size_setCell, World.size_drew] at hz)) | (go_at_call 33; refine (between_any _ _ _ _).mono ?_; rintro e w' ⟨rfl, rfl⟩))
      refine bodyPost_ret (v := .tuple #[(askM s e u ep).val, .int .i64 (askE s e u ep)]) ?_ rfl ⟨rfl, ?_⟩
      · (go_light; simp only [results, Try.results19]; go_simp; simp [askM, askE, Msg.val, Msg.zero, hF, hR]; done)
      · (go_light; with_reducible (repeat (first | exact Below.refl _ _ | refine Below.setCell ?_ (by first | omega | (simp; done) | (simp; omega)) _ | refine Below.alloc ?_ (by first | omega | (simp; done) | (simp; omega)) _ | refine Below.drew ?_ | refine Below.trans ?_ (below_drewN _ _ _) | refine Below.trans ?_ (Below.mono (by assumption) (by first | omega | (simp; done) | (simp; omega))))))
    · by_cases hL : ep < e
      · go_enter Try.func19, Try.ntmps19
        go_wp2_with (first | (go_at_call 43; refine (formed_any _ _ _ _).mono ?_; rintro e w' ⟨rfl, hb⟩; obtain ⟨hc, hf, hz⟩ := arm hb; (try simp only [World.size_drew, World.cell?_drew, World.frozen?_drew] at hc hf); (try simp only [World.size_alloc, World.size_setCell, World.size_drew] at hz)) | (go_at_call 33; refine (between_any _ _ _ _).mono ?_; rintro e w' ⟨rfl, rfl⟩))
        refine bodyPost_ret (v := .tuple #[(askM s e u ep).val, .int .i64 (askE s e u ep)]) ?_ rfl ⟨rfl, ?_⟩
        · (go_light; simp only [results, Try.results19]; go_simp; simp [askM, askE, Msg.val, Msg.zero, hF, hR, hL]; done)
        · (go_light; with_reducible (repeat (first | exact Below.refl _ _ | refine Below.setCell ?_ (by first | omega | (simp; done) | (simp; omega)) _ | refine Below.alloc ?_ (by first | omega | (simp; done) | (simp; omega)) _ | refine Below.drew ?_ | refine Below.trans ?_ (below_drewN _ _ _) | refine Below.trans ?_ (Below.mono (by assumption) (by first | omega | (simp; done) | (simp; omega))))))
      · go_enter Try.func19, Try.ntmps19
        go_wp2_with (first | (go_at_call 43; refine (formed_any _ _ _ _).mono ?_; rintro e w' ⟨rfl, hb⟩; obtain ⟨hc, hf, hz⟩ := arm hb; (try simp only [World.size_drew, World.cell?_drew, World.frozen?_drew] at hc hf); (try simp only [World.size_alloc, World.size_setCell, World.size_drew] at hz)) | (go_at_call 33; refine (between_any _ _ _ _).mono ?_; rintro e w' ⟨rfl, rfl⟩))
        refine bodyPost_ret (v := .tuple #[(askM s e u ep).val, .int .i64 (askE s e u ep)]) ?_ rfl ⟨rfl, ?_⟩
        · (go_light; simp only [results, Try.results19]; go_simp; simp [askM, askE, Msg.val, hF, hR, Int.not_lt.2 hL]; done)
        · (go_light; with_reducible (repeat (first | exact Below.refl _ _ | refine Below.setCell ?_ (by first | omega | (simp; done) | (simp; omega)) _ | refine Below.alloc ?_ (by first | omega | (simp; done) | (simp; omega)) _ | refine Below.drew ?_ | refine Below.trans ?_ (below_drewN _ _ _) | refine Below.trans ?_ (Below.mono (by assumption) (by first | omega | (simp; done) | (simp; omega))))))

set_option maxHeartbeats 1000000 in
theorem rask_any (s e u ep : Int) (w : World) :
    Calls Try.prog 20 #[.agg #[.int .i64 s, .int .i64 e, .int .i64 u], .int .i64 ep] w fun e' w' => e' = .returned (.tuple #[(askM s e u ep).val, .int .i64 (askE s e u ep)]) ∧ Below w.heap.size w w' := by
  cases hF : formedB s e u
  · have hK : chkE s e u = 3 := by simp [chkE, hF]
    go_enter Try.func20, Try.ntmps20
    go_wp2_with (first | (go_at_call 44; refine (checkLease_any _ _ _ _).mono ?_; rintro e w' ⟨rfl, hb⟩; obtain ⟨hc, hf, hz⟩ := arm hb; (try simp only [World.size_drew, World.cell?_drew, World.frozen?_drew] at hc hf); (try simp only [World.size_alloc, World.size_setCell, World.size_drew] at hz)))
    refine bodyPost_ret (v := .tuple #[(askM s e u ep).val, .int .i64 (askE s e u ep)]) ?_ rfl ⟨rfl, ?_⟩
    · (go_light; simp only [results, Try.results20]; go_simp; simp [askM, askE, Msg.val, Msg.zero, hF]; done)
    · (go_light; with_reducible (repeat (first | exact Below.refl _ _ | refine Below.setCell ?_ (by first | omega | (simp; done) | (simp; omega)) _ | refine Below.alloc ?_ (by first | omega | (simp; done) | (simp; omega)) _ | refine Below.drew ?_ | refine Below.trans ?_ (below_drewN _ _ _) | refine Below.trans ?_ (Below.mono (by assumption) (by first | omega | (simp; done) | (simp; omega))))))
  · have hK : chkE s e u = 0 := by simp [chkE, hF]
    by_cases hR1 : ep < 1
    · have hR : inR 1 ep 1073741824 = false := inR_f (by omega)
      go_enter Try.func20, Try.ntmps20
      go_wp2_with (first | (go_at_call 44; refine (checkLease_any _ _ _ _).mono ?_; rintro e w' ⟨rfl, hb⟩; obtain ⟨hc, hf, hz⟩ := arm hb; (try simp only [World.size_drew, World.cell?_drew, World.frozen?_drew] at hc hf); (try simp only [World.size_alloc, World.size_setCell, World.size_drew] at hz)))
      refine bodyPost_ret (v := .tuple #[(askM s e u ep).val, .int .i64 (askE s e u ep)]) ?_ rfl ⟨rfl, ?_⟩
      · (go_light; simp only [results, Try.results20]; go_simp; simp [askM, askE, Msg.val, Msg.zero, hF, hR]; done)
      · (go_light; with_reducible (repeat (first | exact Below.refl _ _ | refine Below.setCell ?_ (by first | omega | (simp; done) | (simp; omega)) _ | refine Below.alloc ?_ (by first | omega | (simp; done) | (simp; omega)) _ | refine Below.drew ?_ | refine Below.trans ?_ (below_drewN _ _ _) | refine Below.trans ?_ (Below.mono (by assumption) (by first | omega | (simp; done) | (simp; omega))))))
    · by_cases hR2 : 1073741824 < ep
      · have hR : inR 1 ep 1073741824 = false := inR_f (by omega)
        go_enter Try.func20, Try.ntmps20
        go_wp2_with (first | (go_at_call 44; refine (checkLease_any _ _ _ _).mono ?_; rintro e w' ⟨rfl, hb⟩; obtain ⟨hc, hf, hz⟩ := arm hb; (try simp only [World.size_drew, World.cell?_drew, World.frozen?_drew] at hc hf); (try simp only [World.size_alloc, World.size_setCell, World.size_drew] at hz)))
        refine bodyPost_ret (v := .tuple #[(askM s e u ep).val, .int .i64 (askE s e u ep)]) ?_ rfl ⟨rfl, ?_⟩
        · (go_light; simp only [results, Try.results20]; go_simp; simp [askM, askE, Msg.val, Msg.zero, hF, hR]; done)
        · (go_light; with_reducible (repeat (first | exact Below.refl _ _ | refine Below.setCell ?_ (by first | omega | (simp; done) | (simp; omega)) _ | refine Below.alloc ?_ (by first | omega | (simp; done) | (simp; omega)) _ | refine Below.drew ?_ | refine Below.trans ?_ (below_drewN _ _ _) | refine Below.trans ?_ (Below.mono (by assumption) (by first | omega | (simp; done) | (simp; omega))))))
      · have hR : inR 1 ep 1073741824 = true := inR_t (by omega) (by omega)
        by_cases hL : ep < e
        · go_enter Try.func20, Try.ntmps20
          go_wp2_with (first | (go_at_call 44; refine (checkLease_any _ _ _ _).mono ?_; rintro e w' ⟨rfl, hb⟩; obtain ⟨hc, hf, hz⟩ := arm hb; (try simp only [World.size_drew, World.cell?_drew, World.frozen?_drew] at hc hf); (try simp only [World.size_alloc, World.size_setCell, World.size_drew] at hz)))
          refine bodyPost_ret (v := .tuple #[(askM s e u ep).val, .int .i64 (askE s e u ep)]) ?_ rfl ⟨rfl, ?_⟩
          · (go_light; simp only [results, Try.results20]; go_simp; simp [askM, askE, Msg.val, Msg.zero, hF, hR, hL]; done)
          · (go_light; with_reducible (repeat (first | exact Below.refl _ _ | refine Below.setCell ?_ (by first | omega | (simp; done) | (simp; omega)) _ | refine Below.alloc ?_ (by first | omega | (simp; done) | (simp; omega)) _ | refine Below.drew ?_ | refine Below.trans ?_ (below_drewN _ _ _) | refine Below.trans ?_ (Below.mono (by assumption) (by first | omega | (simp; done) | (simp; omega))))))
        · go_enter Try.func20, Try.ntmps20
          go_wp2_with (first | (go_at_call 44; refine (checkLease_any _ _ _ _).mono ?_; rintro e w' ⟨rfl, hb⟩; obtain ⟨hc, hf, hz⟩ := arm hb; (try simp only [World.size_drew, World.cell?_drew, World.frozen?_drew] at hc hf); (try simp only [World.size_alloc, World.size_setCell, World.size_drew] at hz)))
          refine bodyPost_ret (v := .tuple #[(askM s e u ep).val, .int .i64 (askE s e u ep)]) ?_ rfl ⟨rfl, ?_⟩
          · (go_light; simp only [results, Try.results20]; go_simp; simp [askM, askE, Msg.val, hF, hR, Int.not_lt.2 hL]; done)
          · (go_light; with_reducible (repeat (first | exact Below.refl _ _ | refine Below.setCell ?_ (by first | omega | (simp; done) | (simp; omega)) _ | refine Below.alloc ?_ (by first | omega | (simp; done) | (simp; omega)) _ | refine Below.drew ?_ | refine Below.trans ?_ (below_drewN _ _ _) | refine Below.trans ?_ (Below.mono (by assumption) (by first | omega | (simp; done) | (simp; omega))))))

set_option maxHeartbeats 1000000 in
theorem renew_any (s e u : Int) (w : World) :
    Calls Try.prog 21 #[.agg #[.int .i64 s, .int .i64 e, .int .i64 u]] w fun e' w' => e' = .returned (.tuple #[(renewM s e u).val, .int .i64 (renewE s e u)]) ∧ Below w.heap.size w w' := by
  cases hF : formedB s e u
  · go_enter Try.func21, Try.ntmps21
    go_wp2_with (first | (go_at_call 43; refine (formed_any _ _ _ _).mono ?_; rintro e w' ⟨rfl, hb⟩; obtain ⟨hc, hf, hz⟩ := arm hb; (try simp only [World.size_drew, World.cell?_drew, World.frozen?_drew] at hc hf); (try simp only [World.size_alloc, World.size_setCell, World.size_drew] at hz)))
    refine bodyPost_ret (v := .tuple #[(renewM s e u).val, .int .i64 (renewE s e u)]) ?_ rfl ⟨rfl, ?_⟩
    · (go_light; simp only [results, Try.results21]; go_simp; simp [renewM, renewE, Msg.val, Msg.zero, hF]; done)
    · (go_light; with_reducible (repeat (first | exact Below.refl _ _ | refine Below.setCell ?_ (by first | omega | (simp; done) | (simp; omega)) _ | refine Below.alloc ?_ (by first | omega | (simp; done) | (simp; omega)) _ | refine Below.drew ?_ | refine Below.trans ?_ (below_drewN _ _ _) | refine Below.trans ?_ (Below.mono (by assumption) (by first | omega | (simp; done) | (simp; omega))))))
  · cases hU : (u == 0)
    · have hU' : u ≠ 0 := by simpa using hU
      go_enter Try.func21, Try.ntmps21
      go_wp2_with (first | (go_at_call 43; refine (formed_any _ _ _ _).mono ?_; rintro e w' ⟨rfl, hb⟩; obtain ⟨hc, hf, hz⟩ := arm hb; (try simp only [World.size_drew, World.cell?_drew, World.frozen?_drew] at hc hf); (try simp only [World.size_alloc, World.size_setCell, World.size_drew] at hz)))
      refine bodyPost_ret (v := .tuple #[(renewM s e u).val, .int .i64 (renewE s e u)]) ?_ rfl ⟨rfl, ?_⟩
      · (go_light; simp only [results, Try.results21]; go_simp; simp [renewM, renewE, Msg.val, Msg.zero, hF, hU']; done)
      · (go_light; with_reducible (repeat (first | exact Below.refl _ _ | refine Below.setCell ?_ (by first | omega | (simp; done) | (simp; omega)) _ | refine Below.alloc ?_ (by first | omega | (simp; done) | (simp; omega)) _ | refine Below.drew ?_ | refine Below.trans ?_ (below_drewN _ _ _) | refine Below.trans ?_ (Below.mono (by assumption) (by first | omega | (simp; done) | (simp; omega))))))
    · obtain rfl : u = 0 := by simpa using hU
      have hU2 : ((0 : Int) == 0) = true := rfl
      go_enter Try.func21, Try.ntmps21
      go_wp2_with (first | (go_at_call 43; refine (formed_any _ _ _ _).mono ?_; rintro e w' ⟨rfl, hb⟩; obtain ⟨hc, hf, hz⟩ := arm hb; (try simp only [World.size_drew, World.cell?_drew, World.frozen?_drew] at hc hf); (try simp only [World.size_alloc, World.size_setCell, World.size_drew] at hz)))
      refine bodyPost_ret (v := .tuple #[(renewM s e 0).val, .int .i64 (renewE s e 0)]) ?_ rfl ⟨rfl, ?_⟩
      · (go_light; simp only [results, Try.results21]; go_simp; simp [renewM, renewE, Msg.val, Msg.zero, hF]; done)
      · (go_light; with_reducible (repeat (first | exact Below.refl _ _ | refine Below.setCell ?_ (by first | omega | (simp; done) | (simp; omega)) _ | refine Below.alloc ?_ (by first | omega | (simp; done) | (simp; omega)) _ | refine Below.drew ?_ | refine Below.trans ?_ (below_drewN _ _ _) | refine Below.trans ?_ (Below.mono (by assumption) (by first | omega | (simp; done) | (simp; omega))))))
set_option maxHeartbeats 1000000 in
theorem rrenew_any (s e u : Int) (w : World) :
    Calls Try.prog 22 #[.agg #[.int .i64 s, .int .i64 e, .int .i64 u]] w fun e' w' => e' = .returned (.tuple #[(renewM s e u).val, .int .i64 (renewE s e u)]) ∧ Below w.heap.size w w' := by
  cases hF : formedB s e u
  · have hK : chkE s e u = 3 := by simp [chkE, hF]
    go_enter Try.func22, Try.ntmps22
    go_wp2_with (first | (go_at_call 44; refine (checkLease_any _ _ _ _).mono ?_; rintro e w' ⟨rfl, hb⟩; obtain ⟨hc, hf, hz⟩ := arm hb; (try simp only [World.size_drew, World.cell?_drew, World.frozen?_drew] at hc hf); (try simp only [World.size_alloc, World.size_setCell, World.size_drew] at hz)))
    refine bodyPost_ret (v := .tuple #[(renewM s e u).val, .int .i64 (renewE s e u)]) ?_ rfl ⟨rfl, ?_⟩
    · (go_light; simp only [results, Try.results22]; go_simp; simp [renewM, renewE, Msg.val, Msg.zero, hF]; done)
    · (go_light; with_reducible (repeat (first | exact Below.refl _ _ | refine Below.setCell ?_ (by first | omega | (simp; done) | (simp; omega)) _ | refine Below.alloc ?_ (by first | omega | (simp; done) | (simp; omega)) _ | refine Below.drew ?_ | refine Below.trans ?_ (below_drewN _ _ _) | refine Below.trans ?_ (Below.mono (by assumption) (by first | omega | (simp; done) | (simp; omega))))))
  · have hK : chkE s e u = 0 := by simp [chkE, hF]
    cases hU : (u == 0)
    · have hU' : u ≠ 0 := by simpa using hU
      go_enter Try.func22, Try.ntmps22
      go_wp2_with (first | (go_at_call 44; refine (checkLease_any _ _ _ _).mono ?_; rintro e w' ⟨rfl, hb⟩; obtain ⟨hc, hf, hz⟩ := arm hb; (try simp only [World.size_drew, World.cell?_drew, World.frozen?_drew] at hc hf); (try simp only [World.size_alloc, World.size_setCell, World.size_drew] at hz)))
      refine bodyPost_ret (v := .tuple #[(renewM s e u).val, .int .i64 (renewE s e u)]) ?_ rfl ⟨rfl, ?_⟩
      · (go_light; simp only [results, Try.results22]; go_simp; simp [renewM, renewE, Msg.val, Msg.zero, hF, hU']; done)
      · (go_light; with_reducible (repeat (first | exact Below.refl _ _ | refine Below.setCell ?_ (by first | omega | (simp; done) | (simp; omega)) _ | refine Below.alloc ?_ (by first | omega | (simp; done) | (simp; omega)) _ | refine Below.drew ?_ | refine Below.trans ?_ (below_drewN _ _ _) | refine Below.trans ?_ (Below.mono (by assumption) (by first | omega | (simp; done) | (simp; omega))))))
    · obtain rfl : u = 0 := by simpa using hU
      have hU2 : ((0 : Int) == 0) = true := rfl
      go_enter Try.func22, Try.ntmps22
      go_wp2_with (first | (go_at_call 44; refine (checkLease_any _ _ _ _).mono ?_; rintro e w' ⟨rfl, hb⟩; obtain ⟨hc, hf, hz⟩ := arm hb; (try simp only [World.size_drew, World.cell?_drew, World.frozen?_drew] at hc hf); (try simp only [World.size_alloc, World.size_setCell, World.size_drew] at hz)))
      refine bodyPost_ret (v := .tuple #[(renewM s e 0).val, .int .i64 (renewE s e 0)]) ?_ rfl ⟨rfl, ?_⟩
      · (go_light; simp only [results, Try.results22]; go_simp; simp [renewM, renewE, Msg.val, Msg.zero, hF]; done)
      · (go_light; with_reducible (repeat (first | exact Below.refl _ _ | refine Below.setCell ?_ (by first | omega | (simp; done) | (simp; omega)) _ | refine Below.alloc ?_ (by first | omega | (simp; done) | (simp; omega)) _ | refine Below.drew ?_ | refine Below.trans ?_ (below_drewN _ _ _) | refine Below.trans ?_ (Below.mono (by assumption) (by first | omega | (simp; done) | (simp; omega))))))
end Go.Proofs.Ytelkpeoilneikaa
