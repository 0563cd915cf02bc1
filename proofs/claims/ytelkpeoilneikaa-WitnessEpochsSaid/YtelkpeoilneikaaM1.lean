/- Contracts: the site's side of a lease. -/
import Derived.Test.YtelkpeoilneikaaM
import Derived.Deep.Light
import Derived.RegionTactic
import Derived.Deep.QuietTactic
import Derived.BigQuiet
import Derived.Deep.RegionHeld3
namespace Go.Proofs.Ytelkpeoilneikaa
open Go.RowKit
set_option linter.unusedSimpArgs false
set_option linter.unusedVariables false
attribute [local go_sem] ltB_addr cellA_past frozenA_past setCellA_past

set_option maxHeartbeats 2000000 in
theorem learn17_n16 (s e u sent term margin kind frm to number value epoch : Int) (oa ob : Option Addr) (la ca lb cb : Nat) (w : World) (v1 : -9223372036854775808 ≤ value) (v2 : value ≤ 9223372036854775807) (ho : okL s e u sent term margin to epoch = true) (hk : kind = 16) (hN : e < epoch) :
    Calls Try.prog 17 #[.agg #[.int .i64 s, .int .i64 e, .int .i64 u], .int .i64 sent, .int .i64 term, .int .i64 margin, .agg #[.int .i64 kind, .int .i64 frm, .int .i64 to, .int .i64 number, .int .i64 value, .int .i64 epoch, .slice oa la ca, .slice ob lb cb]] w (learnP s e u sent term margin kind to value epoch w) := by
  obtain ⟨h1, h2, h3, h4, h5, h6⟩ := okL_parts ho
  have k1 : chkE s e u = 0 := by simp [chkE, h1]
  obtain ⟨a1, a2⟩ := inR_lo h2
  obtain ⟨a3, a4⟩ := inR_lo h3
  obtain ⟨a5, a6⟩ := inR_lo h4
  have HE := Lib.hid (show learnE s e u sent term margin kind to value epoch = epoch from by
    simp [learnE, ho, hk, hN])
  have HU := Lib.hid (show learnU s e u sent term margin kind to value epoch = untilL sent term margin value from by
    simp [learnU, ho, hk, hN])
  subst hk
  clear ho
  go_enter Try.func17, Try.ntmps17
  go_wp2_with (first | (go_at_call 43; refine (formed_any _ _ _ _).mono ?_; rintro e w' ⟨rfl, hb⟩; obtain ⟨hc, hf, hz⟩ := arm hb; (try simp only [World.size_alloc, World.size_setCell, World.size_drew] at hz)) | (go_at_call 32; refine (time_any _ _).mono ?_; rintro e w' ⟨rfl, rfl⟩))
  all_goals
    refine bodyPost_ret (v := .agg #[.int .i64 s, .int .i64 (learnE s e u sent term margin 16 to value epoch), .int .i64 (learnU s e u sent term margin 16 to value epoch)]) ?_ rfl ⟨rfl, ?_⟩
    · (go_light; rw [HE.out, HU.out]; simp only [results, Try.results17]; go_simp; (try simp only [untilL]); (repeat' split) <;> first | rfl | (simp; omega) | (exfalso; omega) | omega)
    · (go_light; with_reducible (repeat (first | exact Below.refl _ _ | refine Below.setCell ?_ (by first | omega | (simp; done) | (simp; omega)) _ | refine Below.alloc ?_ (by first | omega | (simp; done) | (simp; omega)) _ | refine Below.drew ?_ | refine Below.trans ?_ (below_drewN _ _ _) | refine Below.trans ?_ (Below.mono (by assumption) (by first | omega | (simp; done) | (simp; omega))))))

set_option maxHeartbeats 2000000 in
theorem learn17_e16 (s e u sent term margin kind frm to number value epoch : Int) (oa ob : Option Addr) (la ca lb cb : Nat) (w : World) (v1 : -9223372036854775808 ≤ value) (v2 : value ≤ 9223372036854775807) (ho : okL s e u sent term margin to epoch = true) (hk : kind = 16) (hN : epoch = e) :
    Calls Try.prog 17 #[.agg #[.int .i64 s, .int .i64 e, .int .i64 u], .int .i64 sent, .int .i64 term, .int .i64 margin, .agg #[.int .i64 kind, .int .i64 frm, .int .i64 to, .int .i64 number, .int .i64 value, .int .i64 epoch, .slice oa la ca, .slice ob lb cb]] w (learnP s e u sent term margin kind to value epoch w) := by
  obtain ⟨h1, h2, h3, h4, h5, h6⟩ := okL_parts ho
  have k1 : chkE s e u = 0 := by simp [chkE, h1]
  obtain ⟨a1, a2⟩ := inR_lo h2
  obtain ⟨a3, a4⟩ := inR_lo h3
  obtain ⟨a5, a6⟩ := inR_lo h4
  have HE := Lib.hid (show learnE s e u sent term margin kind to value epoch = e from by
    simp [learnE, ho, hk]; omega)
  have HU := Lib.hid (show learnU s e u sent term margin kind to value epoch = (if u < untilL sent term margin value then untilL sent term margin value else u) from by
    subst hN
    simp [learnU, ho, hk])
  subst hk
  have hEq : (epoch == e) = true := by simpa using hN
  have hLt : epoch ≤ e := by omega
  clear hN
  clear ho
  go_enter Try.func17, Try.ntmps17
  go_wp2_with (first | (go_at_call 43; refine (formed_any _ _ _ _).mono ?_; rintro e w' ⟨rfl, hb⟩; obtain ⟨hc, hf, hz⟩ := arm hb; (try simp only [World.size_alloc, World.size_setCell, World.size_drew] at hz)) | (go_at_call 32; refine (time_any _ _).mono ?_; rintro e w' ⟨rfl, rfl⟩))
  all_goals
    refine bodyPost_ret (v := .agg #[.int .i64 s, .int .i64 (learnE s e u sent term margin 16 to value epoch), .int .i64 (learnU s e u sent term margin 16 to value epoch)]) ?_ rfl ⟨rfl, ?_⟩
    · (go_light; rw [HE.out, HU.out]; simp only [results, Try.results17]; go_simp; (try simp only [untilL]); (repeat' split) <;> first | rfl | (simp; omega) | (exfalso; omega) | omega)
    · (go_light; with_reducible (repeat (first | exact Below.refl _ _ | refine Below.setCell ?_ (by first | omega | (simp; done) | (simp; omega)) _ | refine Below.alloc ?_ (by first | omega | (simp; done) | (simp; omega)) _ | refine Below.drew ?_ | refine Below.trans ?_ (below_drewN _ _ _) | refine Below.trans ?_ (Below.mono (by assumption) (by first | omega | (simp; done) | (simp; omega))))))

set_option maxHeartbeats 2000000 in
theorem learn17_o16 (s e u sent term margin kind frm to number value epoch : Int) (oa ob : Option Addr) (la ca lb cb : Nat) (w : World) (v1 : -9223372036854775808 ≤ value) (v2 : value ≤ 9223372036854775807) (ho : okL s e u sent term margin to epoch = true) (hk : kind = 16) (hN : epoch < e) :
    Calls Try.prog 17 #[.agg #[.int .i64 s, .int .i64 e, .int .i64 u], .int .i64 sent, .int .i64 term, .int .i64 margin, .agg #[.int .i64 kind, .int .i64 frm, .int .i64 to, .int .i64 number, .int .i64 value, .int .i64 epoch, .slice oa la ca, .slice ob lb cb]] w (learnP s e u sent term margin kind to value epoch w) := by
  obtain ⟨h1, h2, h3, h4, h5, h6⟩ := okL_parts ho
  have k1 : chkE s e u = 0 := by simp [chkE, h1]
  obtain ⟨a1, a2⟩ := inR_lo h2
  obtain ⟨a3, a4⟩ := inR_lo h3
  obtain ⟨a5, a6⟩ := inR_lo h4
  have HE := Lib.hid (show learnE s e u sent term margin kind to value epoch = e from by
    simp [learnE, ho, hk]; omega)
  have HU := Lib.hid (show learnU s e u sent term margin kind to value epoch = u from by
    have x1 : ¬ e < epoch := by omega
    have x2 : ¬ epoch = e := by omega
    simp [learnU, ho, hk, x1, x2])
  subst hk
  have hEq : (epoch == e) = false := by simp; omega
  clear ho
  go_enter Try.func17, Try.ntmps17
  go_wp2_with (first | (go_at_call 43; refine (formed_any _ _ _ _).mono ?_; rintro e w' ⟨rfl, hb⟩; obtain ⟨hc, hf, hz⟩ := arm hb; (try simp only [World.size_alloc, World.size_setCell, World.size_drew] at hz)) | (go_at_call 32; refine (time_any _ _).mono ?_; rintro e w' ⟨rfl, rfl⟩))
  all_goals
    refine bodyPost_ret (v := .agg #[.int .i64 s, .int .i64 (learnE s e u sent term margin 16 to value epoch), .int .i64 (learnU s e u sent term margin 16 to value epoch)]) ?_ rfl ⟨rfl, ?_⟩
    · (go_light; rw [HE.out, HU.out]; simp only [results, Try.results17]; go_simp; done)
    · (go_light; with_reducible (repeat (first | exact Below.refl _ _ | refine Below.setCell ?_ (by first | omega | (simp; done) | (simp; omega)) _ | refine Below.alloc ?_ (by first | omega | (simp; done) | (simp; omega)) _ | refine Below.drew ?_ | refine Below.trans ?_ (below_drewN _ _ _) | refine Below.trans ?_ (Below.mono (by assumption) (by first | omega | (simp; done) | (simp; omega))))))

set_option maxHeartbeats 2000000 in
theorem learn17_n12 (s e u sent term margin kind frm to number value epoch : Int) (oa ob : Option Addr) (la ca lb cb : Nat) (w : World) (v1 : -9223372036854775808 ≤ value) (v2 : value ≤ 9223372036854775807) (ho : okL s e u sent term margin to epoch = true) (hk : kind = 12) (hN : e < epoch) :
    Calls Try.prog 17 #[.agg #[.int .i64 s, .int .i64 e, .int .i64 u], .int .i64 sent, .int .i64 term, .int .i64 margin, .agg #[.int .i64 kind, .int .i64 frm, .int .i64 to, .int .i64 number, .int .i64 value, .int .i64 epoch, .slice oa la ca, .slice ob lb cb]] w (learnP s e u sent term margin kind to value epoch w) := by
  obtain ⟨h1, h2, h3, h4, h5, h6⟩ := okL_parts ho
  have k1 : chkE s e u = 0 := by simp [chkE, h1]
  obtain ⟨a1, a2⟩ := inR_lo h2
  obtain ⟨a3, a4⟩ := inR_lo h3
  obtain ⟨a5, a6⟩ := inR_lo h4
  have HE := Lib.hid (show learnE s e u sent term margin kind to value epoch = e from by
    simp [learnE, ho, hk])
  have HU := Lib.hid (show learnU s e u sent term margin kind to value epoch = 0 from by
    simp [learnU, ho, hk, hN])
  subst hk
  clear ho
  go_enter Try.func17, Try.ntmps17
  go_wp2_with (first | (go_at_call 43; refine (formed_any _ _ _ _).mono ?_; rintro e w' ⟨rfl, hb⟩; obtain ⟨hc, hf, hz⟩ := arm hb; (try simp only [World.size_alloc, World.size_setCell, World.size_drew] at hz)) | (go_at_call 32; refine (time_any _ _).mono ?_; rintro e w' ⟨rfl, rfl⟩))
  all_goals
    refine bodyPost_ret (v := .agg #[.int .i64 s, .int .i64 (learnE s e u sent term margin 12 to value epoch), .int .i64 (learnU s e u sent term margin 12 to value epoch)]) ?_ rfl ⟨rfl, ?_⟩
    · (go_light; rw [HE.out, HU.out]; simp only [results, Try.results17]; go_simp; done)
    · (go_light; with_reducible (repeat (first | exact Below.refl _ _ | refine Below.setCell ?_ (by first | omega | (simp; done) | (simp; omega)) _ | refine Below.alloc ?_ (by first | omega | (simp; done) | (simp; omega)) _ | refine Below.drew ?_ | refine Below.trans ?_ (below_drewN _ _ _) | refine Below.trans ?_ (Below.mono (by assumption) (by first | omega | (simp; done) | (simp; omega))))))

set_option maxHeartbeats 2000000 in
theorem learn17_o12 (s e u sent term margin kind frm to number value epoch : Int) (oa ob : Option Addr) (la ca lb cb : Nat) (w : World) (v1 : -9223372036854775808 ≤ value) (v2 : value ≤ 9223372036854775807) (ho : okL s e u sent term margin to epoch = true) (hk : kind = 12) (hN : epoch ≤ e) :
    Calls Try.prog 17 #[.agg #[.int .i64 s, .int .i64 e, .int .i64 u], .int .i64 sent, .int .i64 term, .int .i64 margin, .agg #[.int .i64 kind, .int .i64 frm, .int .i64 to, .int .i64 number, .int .i64 value, .int .i64 epoch, .slice oa la ca, .slice ob lb cb]] w (learnP s e u sent term margin kind to value epoch w) := by
  obtain ⟨h1, h2, h3, h4, h5, h6⟩ := okL_parts ho
  have k1 : chkE s e u = 0 := by simp [chkE, h1]
  obtain ⟨a1, a2⟩ := inR_lo h2
  obtain ⟨a3, a4⟩ := inR_lo h3
  obtain ⟨a5, a6⟩ := inR_lo h4
  have HE := Lib.hid (show learnE s e u sent term margin kind to value epoch = e from by
    simp [learnE, ho, hk])
  have HU := Lib.hid (show learnU s e u sent term margin kind to value epoch = u from by
    have x1 : ¬ e < epoch := by omega
    simp [learnU, ho, hk, x1])
  subst hk
  clear ho
  go_enter Try.func17, Try.ntmps17
  go_wp2_with (first | (go_at_call 43; refine (formed_any _ _ _ _).mono ?_; rintro e w' ⟨rfl, hb⟩; obtain ⟨hc, hf, hz⟩ := arm hb; (try simp only [World.size_alloc, World.size_setCell, World.size_drew] at hz)) | (go_at_call 32; refine (time_any _ _).mono ?_; rintro e w' ⟨rfl, rfl⟩))
  all_goals
    refine bodyPost_ret (v := .agg #[.int .i64 s, .int .i64 (learnE s e u sent term margin 12 to value epoch), .int .i64 (learnU s e u sent term margin 12 to value epoch)]) ?_ rfl ⟨rfl, ?_⟩
    · (go_light; rw [HE.out, HU.out]; simp only [results, Try.results17]; go_simp; done)
    · (go_light; with_reducible (repeat (first | exact Below.refl _ _ | refine Below.setCell ?_ (by first | omega | (simp; done) | (simp; omega)) _ | refine Below.alloc ?_ (by first | omega | (simp; done) | (simp; omega)) _ | refine Below.drew ?_ | refine Below.trans ?_ (below_drewN _ _ _) | refine Below.trans ?_ (Below.mono (by assumption) (by first | omega | (simp; done) | (simp; omega))))))

set_option maxHeartbeats 2000000 in
theorem learn17_oth (s e u sent term margin kind frm to number value epoch : Int) (oa ob : Option Addr) (la ca lb cb : Nat) (w : World) (v1 : -9223372036854775808 ≤ value) (v2 : value ≤ 9223372036854775807) (ho : okL s e u sent term margin to epoch = true) (k16 : (kind == 16) = false) (k12 : (kind == 12) = false) :
    Calls Try.prog 17 #[.agg #[.int .i64 s, .int .i64 e, .int .i64 u], .int .i64 sent, .int .i64 term, .int .i64 margin, .agg #[.int .i64 kind, .int .i64 frm, .int .i64 to, .int .i64 number, .int .i64 value, .int .i64 epoch, .slice oa la ca, .slice ob lb cb]] w (learnP s e u sent term margin kind to value epoch w) := by
  obtain ⟨h1, h2, h3, h4, h5, h6⟩ := okL_parts ho
  have k1 : chkE s e u = 0 := by simp [chkE, h1]
  obtain ⟨a1, a2⟩ := inR_lo h2
  obtain ⟨a3, a4⟩ := inR_lo h3
  obtain ⟨a5, a6⟩ := inR_lo h4
  have HE := Lib.hid (show learnE s e u sent term margin kind to value epoch = e from by
    have k16' : kind ≠ 16 := by simpa using k16
    simp [learnE, ho, k16'])
  have HU := Lib.hid (show learnU s e u sent term margin kind to value epoch = u from by
    have k16' : kind ≠ 16 := by simpa using k16
    have k12' : kind ≠ 12 := by simpa using k12
    simp [learnU, ho, k16', k12'])
  clear ho
  go_enter Try.func17, Try.ntmps17
  go_wp2_with (first | (go_at_call 43; refine (formed_any _ _ _ _).mono ?_; rintro e w' ⟨rfl, hb⟩; obtain ⟨hc, hf, hz⟩ := arm hb; (try simp only [World.size_alloc, World.size_setCell, World.size_drew] at hz)) | (go_at_call 32; refine (time_any _ _).mono ?_; rintro e w' ⟨rfl, rfl⟩))
  all_goals
    refine bodyPost_ret (v := .agg #[.int .i64 s, .int .i64 (learnE s e u sent term margin kind to value epoch), .int .i64 (learnU s e u sent term margin kind to value epoch)]) ?_ rfl ⟨rfl, ?_⟩
    · (go_light; rw [HE.out, HU.out]; simp only [results, Try.results17]; go_simp; done)
    · (go_light; with_reducible (repeat (first | exact Below.refl _ _ | refine Below.setCell ?_ (by first | omega | (simp; done) | (simp; omega)) _ | refine Below.alloc ?_ (by first | omega | (simp; done) | (simp; omega)) _ | refine Below.drew ?_ | refine Below.trans ?_ (below_drewN _ _ _) | refine Below.trans ?_ (Below.mono (by assumption) (by first | omega | (simp; done) | (simp; omega))))))
end Go.Proofs.Ytelkpeoilneikaa
