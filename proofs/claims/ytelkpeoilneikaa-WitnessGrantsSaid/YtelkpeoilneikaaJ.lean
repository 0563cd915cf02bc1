/- Contracts: the site's side of a lease. -/
import Derived.Test.YtelkpeoilneikaaI
import Derived.Deep.Light
import Derived.RegionTactic
import Derived.Deep.QuietTactic
import Derived.BigQuiet
import Derived.Deep.RegionHeld3
namespace Go.Proofs.Ytelkpeoilneikaa
open Go.RowKit
set_option linter.unusedSimpArgs false
set_option linter.unusedVariables false
attribute [local go_sem] ltB_addr cellA_past frozenA_past setCellA_past

set_option maxHeartbeats 2000000 in
theorem rhandle_bad (q : Req) (oa ob : Option Addr) (la ca lb cb : Nat) (w : World) (ho : okB q = false) :
    Calls Try.prog 13 #[.agg #[.int .i64 q.e, .int .i64 q.h, .int .i64 q.u], .int .i64 q.now, .int .i64 q.term, .agg #[.int .i64 q.kind, .int .i64 q.frm, .int .i64 q.to, .int .i64 q.number, .int .i64 q.value, .int .i64 q.epoch, .slice oa la ca, .slice ob lb cb]] w (handP q w) := by
  have HR := Lib.hid (show handleQ q = (q, []) from by simp [handleQ, ho])
  cases h1 : witB q.e q.h q.u
  · have k1 : wchkE q.e q.h q.u = 3 := by simp [wchkE, h1]
    go_enter Try.func13, Try.ntmps13
    go_wp2_with (first | (go_at_call 16; refine (rwcheck_any _ _ _ _).mono ?_; rintro e w' ⟨rfl, hb⟩; obtain ⟨hc, hf, hz⟩ := arm hb; (try simp only [World.size_alloc, World.size_setCell, World.size_drew] at hz)) | (go_at_call 38; refine (rin_any _ _).mono ?_; rintro e w' ⟨rfl, rfl⟩) | (go_at_call 39; refine (rsite_any _ _).mono ?_; rintro e w' ⟨rfl, rfl⟩))
    refine bodyPost_ret (v := .tuple #[.agg #[.int .i64 q.e, .int .i64 q.h, .int .i64 q.u], .slice none 0 0]) ?_ rfl ?_
    · (go_light; simp only [results, Try.results13]; go_simp; done)
    · go_light
      unfold handP
      rw [HR.out]
      refine ⟨_, rfl, msgRow_nil _ _, ?_⟩
      (go_light; with_reducible (repeat (first | exact Below.refl _ _ | refine Below.setCell ?_ (by first | omega | (simp; done) | (simp; omega)) _ | refine Below.alloc ?_ (by first | omega | (simp; done) | (simp; omega)) _ | refine Below.drew ?_ | refine Below.trans ?_ (below_drewN _ _ _) | refine Below.trans ?_ (Below.mono (by assumption) (by first | omega | (simp; done) | (simp; omega))))))
  · have k1 : wchkE q.e q.h q.u = 0 := by simp [wchkE, h1]
    cases h2 : inR 0 q.now 1073741824
    · skip
      go_enter Try.func13, Try.ntmps13
      go_wp2_with (first | (go_at_call 16; refine (rwcheck_any _ _ _ _).mono ?_; rintro e w' ⟨rfl, hb⟩; obtain ⟨hc, hf, hz⟩ := arm hb; (try simp only [World.size_alloc, World.size_setCell, World.size_drew] at hz)) | (go_at_call 38; refine (rin_any _ _).mono ?_; rintro e w' ⟨rfl, rfl⟩) | (go_at_call 39; refine (rsite_any _ _).mono ?_; rintro e w' ⟨rfl, rfl⟩))
      refine bodyPost_ret (v := .tuple #[.agg #[.int .i64 q.e, .int .i64 q.h, .int .i64 q.u], .slice none 0 0]) ?_ rfl ?_
      · (go_light; simp only [results, Try.results13]; go_simp; done)
      · go_light
        unfold handP
        rw [HR.out]
        refine ⟨_, rfl, msgRow_nil _ _, ?_⟩
        (go_light; with_reducible (repeat (first | exact Below.refl _ _ | refine Below.setCell ?_ (by first | omega | (simp; done) | (simp; omega)) _ | refine Below.alloc ?_ (by first | omega | (simp; done) | (simp; omega)) _ | refine Below.drew ?_ | refine Below.trans ?_ (below_drewN _ _ _) | refine Below.trans ?_ (Below.mono (by assumption) (by first | omega | (simp; done) | (simp; omega))))))
    · obtain ⟨b1, b2⟩ := inR_lo h2
      cases h3 : inR 1 q.term (1073741824 - q.now)
      · rcases Int.lt_or_le q.term 1 with h3d | h3d
        · skip
          go_enter Try.func13, Try.ntmps13
          go_wp2_with (first | (go_at_call 16; refine (rwcheck_any _ _ _ _).mono ?_; rintro e w' ⟨rfl, hb⟩; obtain ⟨hc, hf, hz⟩ := arm hb; (try simp only [World.size_alloc, World.size_setCell, World.size_drew] at hz)) | (go_at_call 38; refine (rin_any _ _).mono ?_; rintro e w' ⟨rfl, rfl⟩) | (go_at_call 39; refine (rsite_any _ _).mono ?_; rintro e w' ⟨rfl, rfl⟩))
          refine bodyPost_ret (v := .tuple #[.agg #[.int .i64 q.e, .int .i64 q.h, .int .i64 q.u], .slice none 0 0]) ?_ rfl ?_
          · (go_light; simp only [results, Try.results13]; go_simp; done)
          · go_light
            unfold handP
            rw [HR.out]
            refine ⟨_, rfl, msgRow_nil _ _, ?_⟩
            (go_light; with_reducible (repeat (first | exact Below.refl _ _ | refine Below.setCell ?_ (by first | omega | (simp; done) | (simp; omega)) _ | refine Below.alloc ?_ (by first | omega | (simp; done) | (simp; omega)) _ | refine Below.drew ?_ | refine Below.trans ?_ (below_drewN _ _ _) | refine Below.trans ?_ (Below.mono (by assumption) (by first | omega | (simp; done) | (simp; omega))))))

        · have h3e : 1073741824 - q.now < q.term := by
            simp [inR] at h3
            omega
          go_enter Try.func13, Try.ntmps13
          go_wp2_with (first | (go_at_call 16; refine (rwcheck_any _ _ _ _).mono ?_; rintro e w' ⟨rfl, hb⟩; obtain ⟨hc, hf, hz⟩ := arm hb; (try simp only [World.size_alloc, World.size_setCell, World.size_drew] at hz)) | (go_at_call 38; refine (rin_any _ _).mono ?_; rintro e w' ⟨rfl, rfl⟩) | (go_at_call 39; refine (rsite_any _ _).mono ?_; rintro e w' ⟨rfl, rfl⟩))
          refine bodyPost_ret (v := .tuple #[.agg #[.int .i64 q.e, .int .i64 q.h, .int .i64 q.u], .slice none 0 0]) ?_ rfl ?_
          · (go_light; simp only [results, Try.results13]; go_simp; done)
          · go_light
            unfold handP
            rw [HR.out]
            refine ⟨_, rfl, msgRow_nil _ _, ?_⟩
            (go_light; with_reducible (repeat (first | exact Below.refl _ _ | refine Below.setCell ?_ (by first | omega | (simp; done) | (simp; omega)) _ | refine Below.alloc ?_ (by first | omega | (simp; done) | (simp; omega)) _ | refine Below.drew ?_ | refine Below.trans ?_ (below_drewN _ _ _) | refine Below.trans ?_ (Below.mono (by assumption) (by first | omega | (simp; done) | (simp; omega))))))

      · obtain ⟨b3, b4⟩ := inR_lo h3
        cases h4 : inR 0 q.frm 3
        · skip
          go_enter Try.func13, Try.ntmps13
          go_wp2_with (first | (go_at_call 16; refine (rwcheck_any _ _ _ _).mono ?_; rintro e w' ⟨rfl, hb⟩; obtain ⟨hc, hf, hz⟩ := arm hb; (try simp only [World.size_alloc, World.size_setCell, World.size_drew] at hz)) | (go_at_call 38; refine (rin_any _ _).mono ?_; rintro e w' ⟨rfl, rfl⟩) | (go_at_call 39; refine (rsite_any _ _).mono ?_; rintro e w' ⟨rfl, rfl⟩))
          refine bodyPost_ret (v := .tuple #[.agg #[.int .i64 q.e, .int .i64 q.h, .int .i64 q.u], .slice none 0 0]) ?_ rfl ?_
          · (go_light; simp only [results, Try.results13]; go_simp; done)
          · go_light
            unfold handP
            rw [HR.out]
            refine ⟨_, rfl, msgRow_nil _ _, ?_⟩
            (go_light; with_reducible (repeat (first | exact Below.refl _ _ | refine Below.setCell ?_ (by first | omega | (simp; done) | (simp; omega)) _ | refine Below.alloc ?_ (by first | omega | (simp; done) | (simp; omega)) _ | refine Below.drew ?_ | refine Below.trans ?_ (below_drewN _ _ _) | refine Below.trans ?_ (Below.mono (by assumption) (by first | omega | (simp; done) | (simp; omega))))))
        · cases h5 : inR 0 q.epoch 1073741824
          · skip
            go_enter Try.func13, Try.ntmps13
            go_wp2_with (first | (go_at_call 16; refine (rwcheck_any _ _ _ _).mono ?_; rintro e w' ⟨rfl, hb⟩; obtain ⟨hc, hf, hz⟩ := arm hb; (try simp only [World.size_alloc, World.size_setCell, World.size_drew] at hz)) | (go_at_call 38; refine (rin_any _ _).mono ?_; rintro e w' ⟨rfl, rfl⟩) | (go_at_call 39; refine (rsite_any _ _).mono ?_; rintro e w' ⟨rfl, rfl⟩))
            refine bodyPost_ret (v := .tuple #[.agg #[.int .i64 q.e, .int .i64 q.h, .int .i64 q.u], .slice none 0 0]) ?_ rfl ?_
            · (go_light; simp only [results, Try.results13]; go_simp; done)
            · go_light
              unfold handP
              rw [HR.out]
              refine ⟨_, rfl, msgRow_nil _ _, ?_⟩
              (go_light; with_reducible (repeat (first | exact Below.refl _ _ | refine Below.setCell ?_ (by first | omega | (simp; done) | (simp; omega)) _ | refine Below.alloc ?_ (by first | omega | (simp; done) | (simp; omega)) _ | refine Below.drew ?_ | refine Below.trans ?_ (below_drewN _ _ _) | refine Below.trans ?_ (Below.mono (by assumption) (by first | omega | (simp; done) | (simp; omega))))))
          · exact absurd ho (by simp [okB, h1, h2, h3, h4, h5])

end Go.Proofs.Ytelkpeoilneikaa
