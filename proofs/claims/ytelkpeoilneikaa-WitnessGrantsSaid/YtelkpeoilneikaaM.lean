/- Contracts: the site's side of a lease. -/
import Derived.Test.YtelkpeoilneikaaH
import Derived.Deep.Light
import Derived.RegionTactic
import Derived.Deep.QuietTactic
import Derived.BigQuiet
import Derived.Deep.RegionHeld3
namespace Go.Proofs.Ytelkpeoilneikaa
open Go.RowKit
set_option linter.unusedSimpArgs false
set_option linter.unusedVariables false
attribute [local go_sem] ltB_addr cellA_past frozenA_past setCellA_past

def okL (s e u sent term margin to epoch : Int) : Bool := formedB s e u && inR 0 sent 1073741824 && inR 0 term 1073741824 && inR 0 margin 1073741824 && !(to != s) && inR 0 epoch 1073741824
def untilL (sent term margin value : Int) : Int :=
  if 0 < value then (if term < value then (if sent + term - margin < 0 then 0 else if 1073741824 < sent + term - margin then 1073741824 else sent + term - margin) else (if sent + value - margin < 0 then 0 else if 1073741824 < sent + value - margin then 1073741824 else sent + value - margin))
  else (if value < -1073741824 then 0 else if sent + value - margin < 0 then 0 else sent + value - margin)
def learnE (s e u sent term margin kind to value epoch : Int) : Int := if okL s e u sent term margin to epoch = true then (if kind = 16 then (if e < epoch then epoch else e) else e) else e
def learnU (s e u sent term margin kind to value epoch : Int) : Int := if okL s e u sent term margin to epoch = true then (if kind = 16 then (if e < epoch then untilL sent term margin value else if epoch = e then (if u < untilL sent term margin value then untilL sent term margin value else u) else u) else if kind = 12 then (if e < epoch then 0 else u) else u) else u
def learnP (s e u sent term margin kind to value epoch : Int) (w : World) (e' : Ending) (w' : World) : Prop := e' = .returned (.agg #[.int .i64 s, .int .i64 (learnE s e u sent term margin kind to value epoch), .int .i64 (learnU s e u sent term margin kind to value epoch)]) ∧ Below w.heap.size w w'
theorem okL_parts {s e u sent term margin to epoch : Int} (h : okL s e u sent term margin to epoch = true) : formedB s e u = true ∧ inR 0 sent 1073741824 = true ∧ inR 0 term 1073741824 = true ∧ inR 0 margin 1073741824 = true ∧ (to != s) = false ∧ inR 0 epoch 1073741824 = true := by
  simpa [okL, and_assoc] using h

set_option maxHeartbeats 2000000 in
theorem learn17_bad (s e u sent term margin kind frm to number value epoch : Int) (oa ob : Option Addr) (la ca lb cb : Nat) (w : World) (v1 : -9223372036854775808 ≤ value) (v2 : value ≤ 9223372036854775807) (ho : okL s e u sent term margin to epoch = false) :
    Calls Try.prog 17 #[.agg #[.int .i64 s, .int .i64 e, .int .i64 u], .int .i64 sent, .int .i64 term, .int .i64 margin, .agg #[.int .i64 kind, .int .i64 frm, .int .i64 to, .int .i64 number, .int .i64 value, .int .i64 epoch, .slice oa la ca, .slice ob lb cb]] w (learnP s e u sent term margin kind to value epoch w) := by
  have HE := Lib.hid (show learnE s e u sent term margin kind to value epoch = e from by simp [learnE, ho])
  have HU := Lib.hid (show learnU s e u sent term margin kind to value epoch = u from by simp [learnU, ho])
  cases h1 : formedB s e u
  · have k1 : chkE s e u = 3 := by simp [chkE, h1]
    go_enter Try.func17, Try.ntmps17
    go_wp2_with (first | (go_at_call 43; refine (formed_any _ _ _ _).mono ?_; rintro e w' ⟨rfl, hb⟩; obtain ⟨hc, hf, hz⟩ := arm hb; (try simp only [World.size_alloc, World.size_setCell, World.size_drew] at hz)) | (go_at_call 32; refine (time_any _ _).mono ?_; rintro e w' ⟨rfl, rfl⟩))
    all_goals
      refine bodyPost_ret (v := .agg #[.int .i64 s, .int .i64 (learnE s e u sent term margin kind to value epoch), .int .i64 (learnU s e u sent term margin kind to value epoch)]) ?_ rfl ⟨rfl, ?_⟩
      · (go_light; rw [HE.out, HU.out]; simp only [results, Try.results17]; go_simp; done)
      · (go_light; with_reducible (repeat (first | exact Below.refl _ _ | refine Below.setCell ?_ (by first | omega | (simp; done) | (simp; omega)) _ | refine Below.alloc ?_ (by first | omega | (simp; done) | (simp; omega)) _ | refine Below.drew ?_ | refine Below.trans ?_ (below_drewN _ _ _) | refine Below.trans ?_ (Below.mono (by assumption) (by first | omega | (simp; done) | (simp; omega))))))
  · have k1 : chkE s e u = 0 := by simp [chkE, h1]
    cases h2 : inR 0 sent 1073741824
    · skip
      go_enter Try.func17, Try.ntmps17
      go_wp2_with (first | (go_at_call 43; refine (formed_any _ _ _ _).mono ?_; rintro e w' ⟨rfl, hb⟩; obtain ⟨hc, hf, hz⟩ := arm hb; (try simp only [World.size_alloc, World.size_setCell, World.size_drew] at hz)) | (go_at_call 32; refine (time_any _ _).mono ?_; rintro e w' ⟨rfl, rfl⟩))
      all_goals
        refine bodyPost_ret (v := .agg #[.int .i64 s, .int .i64 (learnE s e u sent term margin kind to value epoch), .int .i64 (learnU s e u sent term margin kind to value epoch)]) ?_ rfl ⟨rfl, ?_⟩
        · (go_light; rw [HE.out, HU.out]; simp only [results, Try.results17]; go_simp; done)
        · (go_light; with_reducible (repeat (first | exact Below.refl _ _ | refine Below.setCell ?_ (by first | omega | (simp; done) | (simp; omega)) _ | refine Below.alloc ?_ (by first | omega | (simp; done) | (simp; omega)) _ | refine Below.drew ?_ | refine Below.trans ?_ (below_drewN _ _ _) | refine Below.trans ?_ (Below.mono (by assumption) (by first | omega | (simp; done) | (simp; omega))))))
    · cases h3 : inR 0 term 1073741824
      · skip
        go_enter Try.func17, Try.ntmps17
        go_wp2_with (first | (go_at_call 43; refine (formed_any _ _ _ _).mono ?_; rintro e w' ⟨rfl, hb⟩; obtain ⟨hc, hf, hz⟩ := arm hb; (try simp only [World.size_alloc, World.size_setCell, World.size_drew] at hz)) | (go_at_call 32; refine (time_any _ _).mono ?_; rintro e w' ⟨rfl, rfl⟩))
        all_goals
          refine bodyPost_ret (v := .agg #[.int .i64 s, .int .i64 (learnE s e u sent term margin kind to value epoch), .int .i64 (learnU s e u sent term margin kind to value epoch)]) ?_ rfl ⟨rfl, ?_⟩
          · (go_light; rw [HE.out, HU.out]; simp only [results, Try.results17]; go_simp; done)
          · (go_light; with_reducible (repeat (first | exact Below.refl _ _ | refine Below.setCell ?_ (by first | omega | (simp; done) | (simp; omega)) _ | refine Below.alloc ?_ (by first | omega | (simp; done) | (simp; omega)) _ | refine Below.drew ?_ | refine Below.trans ?_ (below_drewN _ _ _) | refine Below.trans ?_ (Below.mono (by assumption) (by first | omega | (simp; done) | (simp; omega))))))
      · cases h4 : inR 0 margin 1073741824
        · skip
          go_enter Try.func17, Try.ntmps17
          go_wp2_with (first | (go_at_call 43; refine (formed_any _ _ _ _).mono ?_; rintro e w' ⟨rfl, hb⟩; obtain ⟨hc, hf, hz⟩ := arm hb; (try simp only [World.size_alloc, World.size_setCell, World.size_drew] at hz)) | (go_at_call 32; refine (time_any _ _).mono ?_; rintro e w' ⟨rfl, rfl⟩))
          all_goals
            refine bodyPost_ret (v := .agg #[.int .i64 s, .int .i64 (learnE s e u sent term margin kind to value epoch), .int .i64 (learnU s e u sent term margin kind to value epoch)]) ?_ rfl ⟨rfl, ?_⟩
            · (go_light; rw [HE.out, HU.out]; simp only [results, Try.results17]; go_simp; done)
            · (go_light; with_reducible (repeat (first | exact Below.refl _ _ | refine Below.setCell ?_ (by first | omega | (simp; done) | (simp; omega)) _ | refine Below.alloc ?_ (by first | omega | (simp; done) | (simp; omega)) _ | refine Below.drew ?_ | refine Below.trans ?_ (below_drewN _ _ _) | refine Below.trans ?_ (Below.mono (by assumption) (by first | omega | (simp; done) | (simp; omega))))))
        · cases h5 : (to != s)
          · cases h6 : inR 0 epoch 1073741824
            · skip
              go_enter Try.func17, Try.ntmps17
              go_wp2_with (first | (go_at_call 43; refine (formed_any _ _ _ _).mono ?_; rintro e w' ⟨rfl, hb⟩; obtain ⟨hc, hf, hz⟩ := arm hb; (try simp only [World.size_alloc, World.size_setCell, World.size_drew] at hz)) | (go_at_call 32; refine (time_any _ _).mono ?_; rintro e w' ⟨rfl, rfl⟩))
              all_goals
                refine bodyPost_ret (v := .agg #[.int .i64 s, .int .i64 (learnE s e u sent term margin kind to value epoch), .int .i64 (learnU s e u sent term margin kind to value epoch)]) ?_ rfl ⟨rfl, ?_⟩
                · (go_light; rw [HE.out, HU.out]; simp only [results, Try.results17]; go_simp; done)
                · (go_light; with_reducible (repeat (first | exact Below.refl _ _ | refine Below.setCell ?_ (by first | omega | (simp; done) | (simp; omega)) _ | refine Below.alloc ?_ (by first | omega | (simp; done) | (simp; omega)) _ | refine Below.drew ?_ | refine Below.trans ?_ (below_drewN _ _ _) | refine Below.trans ?_ (Below.mono (by assumption) (by first | omega | (simp; done) | (simp; omega))))))
            · exact absurd ho (by simp [okL, h1, h2, h3, h4, h5, h6])
          · skip
            go_enter Try.func17, Try.ntmps17
            go_wp2_with (first | (go_at_call 43; refine (formed_any _ _ _ _).mono ?_; rintro e w' ⟨rfl, hb⟩; obtain ⟨hc, hf, hz⟩ := arm hb; (try simp only [World.size_alloc, World.size_setCell, World.size_drew] at hz)) | (go_at_call 32; refine (time_any _ _).mono ?_; rintro e w' ⟨rfl, rfl⟩))
            all_goals
              refine bodyPost_ret (v := .agg #[.int .i64 s, .int .i64 (learnE s e u sent term margin kind to value epoch), .int .i64 (learnU s e u sent term margin kind to value epoch)]) ?_ rfl ⟨rfl, ?_⟩
              · (go_light; rw [HE.out, HU.out]; simp only [results, Try.results17]; go_simp; done)
              · (go_light; with_reducible (repeat (first | exact Below.refl _ _ | refine Below.setCell ?_ (by first | omega | (simp; done) | (simp; omega)) _ | refine Below.alloc ?_ (by first | omega | (simp; done) | (simp; omega)) _ | refine Below.drew ?_ | refine Below.trans ?_ (below_drewN _ _ _) | refine Below.trans ?_ (Below.mono (by assumption) (by first | omega | (simp; done) | (simp; omega))))))


set_option maxHeartbeats 2000000 in
theorem learn18_bad (s e u sent term margin kind frm to number value epoch : Int) (oa ob : Option Addr) (la ca lb cb : Nat) (w : World) (v1 : -9223372036854775808 ≤ value) (v2 : value ≤ 9223372036854775807) (ho : okL s e u sent term margin to epoch = false) :
    Calls Try.prog 18 #[.agg #[.int .i64 s, .int .i64 e, .int .i64 u], .int .i64 sent, .int .i64 term, .int .i64 margin, .agg #[.int .i64 kind, .int .i64 frm, .int .i64 to, .int .i64 number, .int .i64 value, .int .i64 epoch, .slice oa la ca, .slice ob lb cb]] w (learnP s e u sent term margin kind to value epoch w) := by
  have HE := Lib.hid (show learnE s e u sent term margin kind to value epoch = e from by simp [learnE, ho])
  have HU := Lib.hid (show learnU s e u sent term margin kind to value epoch = u from by simp [learnU, ho])
  cases h1 : formedB s e u
  · have k1 : chkE s e u = 3 := by simp [chkE, h1]
    go_enter Try.func18, Try.ntmps18
    go_wp2_with (first | (go_at_call 44; refine (checkLease_any _ _ _ _).mono ?_; rintro e w' ⟨rfl, hb⟩; obtain ⟨hc, hf, hz⟩ := arm hb; (try simp only [World.size_alloc, World.size_setCell, World.size_drew] at hz)) | (go_at_call 38; refine (rin_any _ _).mono ?_; rintro e w' ⟨rfl, rfl⟩))
    all_goals
      refine bodyPost_ret (v := .agg #[.int .i64 s, .int .i64 (learnE s e u sent term margin kind to value epoch), .int .i64 (learnU s e u sent term margin kind to value epoch)]) ?_ rfl ⟨rfl, ?_⟩
      · (go_light; rw [HE.out, HU.out]; simp only [results, Try.results18]; go_simp; done)
      · (go_light; with_reducible (repeat (first | exact Below.refl _ _ | refine Below.setCell ?_ (by first | omega | (simp; done) | (simp; omega)) _ | refine Below.alloc ?_ (by first | omega | (simp; done) | (simp; omega)) _ | refine Below.drew ?_ | refine Below.trans ?_ (below_drewN _ _ _) | refine Below.trans ?_ (Below.mono (by assumption) (by first | omega | (simp; done) | (simp; omega))))))
  · have k1 : chkE s e u = 0 := by simp [chkE, h1]
    cases h2 : inR 0 sent 1073741824
    · skip
      go_enter Try.func18, Try.ntmps18
      go_wp2_with (first | (go_at_call 44; refine (checkLease_any _ _ _ _).mono ?_; rintro e w' ⟨rfl, hb⟩; obtain ⟨hc, hf, hz⟩ := arm hb; (try simp only [World.size_alloc, World.size_setCell, World.size_drew] at hz)) | (go_at_call 38; refine (rin_any _ _).mono ?_; rintro e w' ⟨rfl, rfl⟩))
      all_goals
        refine bodyPost_ret (v := .agg #[.int .i64 s, .int .i64 (learnE s e u sent term margin kind to value epoch), .int .i64 (learnU s e u sent term margin kind to value epoch)]) ?_ rfl ⟨rfl, ?_⟩
        · (go_light; rw [HE.out, HU.out]; simp only [results, Try.results18]; go_simp; done)
        · (go_light; with_reducible (repeat (first | exact Below.refl _ _ | refine Below.setCell ?_ (by first | omega | (simp; done) | (simp; omega)) _ | refine Below.alloc ?_ (by first | omega | (simp; done) | (simp; omega)) _ | refine Below.drew ?_ | refine Below.trans ?_ (below_drewN _ _ _) | refine Below.trans ?_ (Below.mono (by assumption) (by first | omega | (simp; done) | (simp; omega))))))
    · cases h3 : inR 0 term 1073741824
      · skip
        go_enter Try.func18, Try.ntmps18
        go_wp2_with (first | (go_at_call 44; refine (checkLease_any _ _ _ _).mono ?_; rintro e w' ⟨rfl, hb⟩; obtain ⟨hc, hf, hz⟩ := arm hb; (try simp only [World.size_alloc, World.size_setCell, World.size_drew] at hz)) | (go_at_call 38; refine (rin_any _ _).mono ?_; rintro e w' ⟨rfl, rfl⟩))
        all_goals
          refine bodyPost_ret (v := .agg #[.int .i64 s, .int .i64 (learnE s e u sent term margin kind to value epoch), .int .i64 (learnU s e u sent term margin kind to value epoch)]) ?_ rfl ⟨rfl, ?_⟩
          · (go_light; rw [HE.out, HU.out]; simp only [results, Try.results18]; go_simp; done)
          · (go_light; with_reducible (repeat (first | exact Below.refl _ _ | refine Below.setCell ?_ (by first | omega | (simp; done) | (simp; omega)) _ | refine Below.alloc ?_ (by first | omega | (simp; done) | (simp; omega)) _ | refine Below.drew ?_ | refine Below.trans ?_ (below_drewN _ _ _) | refine Below.trans ?_ (Below.mono (by assumption) (by first | omega | (simp; done) | (simp; omega))))))
      · cases h4 : inR 0 margin 1073741824
        · skip
          go_enter Try.func18, Try.ntmps18
          go_wp2_with (first | (go_at_call 44; refine (checkLease_any _ _ _ _).mono ?_; rintro e w' ⟨rfl, hb⟩; obtain ⟨hc, hf, hz⟩ := arm hb; (try simp only [World.size_alloc, World.size_setCell, World.size_drew] at hz)) | (go_at_call 38; refine (rin_any _ _).mono ?_; rintro e w' ⟨rfl, rfl⟩))
          all_goals
            refine bodyPost_ret (v := .agg #[.int .i64 s, .int .i64 (learnE s e u sent term margin kind to value epoch), .int .i64 (learnU s e u sent term margin kind to value epoch)]) ?_ rfl ⟨rfl, ?_⟩
            · (go_light; rw [HE.out, HU.out]; simp only [results, Try.results18]; go_simp; done)
            · (go_light; with_reducible (repeat (first | exact Below.refl _ _ | refine Below.setCell ?_ (by first | omega | (simp; done) | (simp; omega)) _ | refine Below.alloc ?_ (by first | omega | (simp; done) | (simp; omega)) _ | refine Below.drew ?_ | refine Below.trans ?_ (below_drewN _ _ _) | refine Below.trans ?_ (Below.mono (by assumption) (by first | omega | (simp; done) | (simp; omega))))))
        · cases h5 : (to != s)
          · cases h6 : inR 0 epoch 1073741824
            · skip
              go_enter Try.func18, Try.ntmps18
              go_wp2_with (first | (go_at_call 44; refine (checkLease_any _ _ _ _).mono ?_; rintro e w' ⟨rfl, hb⟩; obtain ⟨hc, hf, hz⟩ := arm hb; (try simp only [World.size_alloc, World.size_setCell, World.size_drew] at hz)) | (go_at_call 38; refine (rin_any _ _).mono ?_; rintro e w' ⟨rfl, rfl⟩))
              all_goals
                refine bodyPost_ret (v := .agg #[.int .i64 s, .int .i64 (learnE s e u sent term margin kind to value epoch), .int .i64 (learnU s e u sent term margin kind to value epoch)]) ?_ rfl ⟨rfl, ?_⟩
                · (go_light; rw [HE.out, HU.out]; simp only [results, Try.results18]; go_simp; done)
                · (go_light; with_reducible (repeat (first | exact Below.refl _ _ | refine Below.setCell ?_ (by first | omega | (simp; done) | (simp; omega)) _ | refine Below.alloc ?_ (by first | omega | (simp; done) | (simp; omega)) _ | refine Below.drew ?_ | refine Below.trans ?_ (below_drewN _ _ _) | refine Below.trans ?_ (Below.mono (by assumption) (by first | omega | (simp; done) | (simp; omega))))))
            · exact absurd ho (by simp [okL, h1, h2, h3, h4, h5, h6])
          · skip
            go_enter Try.func18, Try.ntmps18
            go_wp2_with (first | (go_at_call 44; refine (checkLease_any _ _ _ _).mono ?_; rintro e w' ⟨rfl, hb⟩; obtain ⟨hc, hf, hz⟩ := arm hb; (try simp only [World.size_alloc, World.size_setCell, World.size_drew] at hz)) | (go_at_call 38; refine (rin_any _ _).mono ?_; rintro e w' ⟨rfl, rfl⟩))
            all_goals
              refine bodyPost_ret (v := .agg #[.int .i64 s, .int .i64 (learnE s e u sent term margin kind to value epoch), .int .i64 (learnU s e u sent term margin kind to value epoch)]) ?_ rfl ⟨rfl, ?_⟩
              · (go_light; rw [HE.out, HU.out]; simp only [results, Try.results18]; go_simp; done)
              · (go_light; with_reducible (repeat (first | exact Below.refl _ _ | refine Below.setCell ?_ (by first | omega | (simp; done) | (simp; omega)) _ | refine Below.alloc ?_ (by first | omega | (simp; done) | (simp; omega)) _ | refine Below.drew ?_ | refine Below.trans ?_ (below_drewN _ _ _) | refine Below.trans ?_ (Below.mono (by assumption) (by first | omega | (simp; done) | (simp; omega))))))

end Go.Proofs.Ytelkpeoilneikaa
