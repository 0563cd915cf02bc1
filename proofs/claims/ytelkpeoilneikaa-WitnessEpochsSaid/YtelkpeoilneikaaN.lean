/- Contracts: the site's side of a lease. -/
import Derived.Test.YtelkpeoilneikaaL1
import Derived.Test.YtelkpeoilneikaaL2
import Derived.Test.YtelkpeoilneikaaL3
import Derived.Test.YtelkpeoilneikaaL4
import Derived.Test.YtelkpeoilneikaaL5
import Derived.Test.YtelkpeoilneikaaJ
import Derived.Test.YtelkpeoilneikaaK3
import Derived.Test.YtelkpeoilneikaaK2
import Derived.Test.YtelkpeoilneikaaM1
import Derived.Test.YtelkpeoilneikaaM2
import Derived.Test.YtelkpeoilneikaaC
import Derived.Test.YtelkpeoilneikaaD
import Derived.Deep.Light
import Derived.RegionTactic
import Derived.Deep.QuietTactic
import Derived.BigQuiet
import Derived.Deep.RegionHeld3
namespace Go.Proofs.Ytelkpeoilneikaa
open Go.RowKit
set_option linter.unusedSimpArgs false
set_option linter.unusedVariables false
attribute [local go_sem] ltB_addr cellA_past frozenA_past setCellA_past

theorem handle_any (q : Req) (oa ob : Option Addr) (la ca lb cb : Nat) (w : World) : Calls Try.prog 12 #[.agg #[.int .i64 q.e, .int .i64 q.h, .int .i64 q.u], .int .i64 q.now, .int .i64 q.term, .agg #[.int .i64 q.kind, .int .i64 q.frm, .int .i64 q.to, .int .i64 q.number, .int .i64 q.value, .int .i64 q.epoch, .slice oa la ca, .slice ob lb cb]] w (handP q w) := by
  cases ho : okB q
  · exact handle_bad q oa ob la ca lb cb w ho
  · by_cases k1 : q.kind = 15
    · exact handle_acquire q oa ob la ca lb cb w ho k1
    · by_cases k2 : q.kind = 17
      · exact handle_renew q oa ob la ca lb cb w ho k2
      · by_cases k3 : q.kind = 18
        · exact handle_release q oa ob la ca lb cb w ho k3
        · exact handle_other q oa ob la ca lb cb w ho (by simp; omega) (by simp; omega) (by simp; omega)
theorem rhandle_any (q : Req) (oa ob : Option Addr) (la ca lb cb : Nat) (w : World) : Calls Try.prog 13 #[.agg #[.int .i64 q.e, .int .i64 q.h, .int .i64 q.u], .int .i64 q.now, .int .i64 q.term, .agg #[.int .i64 q.kind, .int .i64 q.frm, .int .i64 q.to, .int .i64 q.number, .int .i64 q.value, .int .i64 q.epoch, .slice oa la ca, .slice ob lb cb]] w (handP q w) := by
  cases ho : okB q
  · exact rhandle_bad q oa ob la ca lb cb w ho
  · by_cases k1 : q.kind = 15
    · cases hL : decide (q.e < q.epoch)
      · cases hE : (q.epoch == q.e)
        · exact rh_a15r1 q oa ob la ca lb cb w ho k1 hL hE
        · cases hS : (q.frm == q.h)
          · exact rh_a15r2 q oa ob la ca lb cb w ho k1 hL hE hS
          · cases hH : heldB q.h q.u q.now
            · exact rh_a15r3 q oa ob la ca lb cb w ho k1 hL hE hS hH
            · cases hM : decide (q.u < q.now + q.term)
              · exact rh_a15g0 q oa ob la ca lb cb w ho k1 hL hE hS hH hM
              · exact rh_a15g1 q oa ob la ca lb cb w ho k1 hL hE hS hH hM
      · cases hH : heldB q.h q.u q.now
        · exact rh_a15t0 q oa ob la ca lb cb w ho k1 hL hH
        · cases hS : (q.frm == q.h)
          · exact rh_a15r0 q oa ob la ca lb cb w ho k1 hL hS hH
          · exact rh_a15t1 q oa ob la ca lb cb w ho k1 hL hS hH
    · by_cases k2 : q.kind = 17
      · cases hE : (q.epoch == q.e)
        · exact rh_a17r1 q oa ob la ca lb cb w ho k2 hE
        · cases hS : (q.frm == q.h)
          · exact rh_a17r2 q oa ob la ca lb cb w ho k2 hE hS
          · cases hH : heldB q.h q.u q.now
            · exact rh_a17r3 q oa ob la ca lb cb w ho k2 hE hS hH
            · cases hM : decide (q.u < q.now + q.term)
              · exact rh_a17g0 q oa ob la ca lb cb w ho k2 hE hS hH hM
              · exact rh_a17g1 q oa ob la ca lb cb w ho k2 hE hS hH hM
      · by_cases k3 : q.kind = 18
        · cases hE : (q.epoch == q.e)
          · exact rh_a18n0 q oa ob la ca lb cb w ho k3 hE
          · cases hS : (q.frm == q.h)
            · exact rh_a18n1 q oa ob la ca lb cb w ho k3 hE hS
            · exact rh_a18f q oa ob la ca lb cb w ho k3 hE hS
        · exact rhandle_other q oa ob la ca lb cb w ho (by simp; omega) (by simp; omega) (by simp; omega)
theorem learn17_any (s e u sent term margin kind frm to number value epoch : Int) (oa ob : Option Addr) (la ca lb cb : Nat) (w : World) (v1 : -9223372036854775808 ≤ value) (v2 : value ≤ 9223372036854775807) : Calls Try.prog 17 #[.agg #[.int .i64 s, .int .i64 e, .int .i64 u], .int .i64 sent, .int .i64 term, .int .i64 margin, .agg #[.int .i64 kind, .int .i64 frm, .int .i64 to, .int .i64 number, .int .i64 value, .int .i64 epoch, .slice oa la ca, .slice ob lb cb]] w (learnP s e u sent term margin kind to value epoch w) := by
  cases ho : okL s e u sent term margin to epoch
  · exact learn17_bad s e u sent term margin kind frm to number value epoch oa ob la ca lb cb w v1 v2 ho
  · by_cases k1 : kind = 16
    · rcases Int.lt_trichotomy e epoch with hN | hN | hN
      · exact learn17_n16 s e u sent term margin kind frm to number value epoch oa ob la ca lb cb w v1 v2 ho k1 hN
      · exact learn17_e16 s e u sent term margin kind frm to number value epoch oa ob la ca lb cb w v1 v2 ho k1 hN.symm
      · exact learn17_o16 s e u sent term margin kind frm to number value epoch oa ob la ca lb cb w v1 v2 ho k1 hN
    · by_cases k2 : kind = 12
      · rcases Int.lt_or_le e epoch with hN | hN
        · exact learn17_n12 s e u sent term margin kind frm to number value epoch oa ob la ca lb cb w v1 v2 ho k2 hN
        · exact learn17_o12 s e u sent term margin kind frm to number value epoch oa ob la ca lb cb w v1 v2 ho k2 hN
      · exact learn17_oth s e u sent term margin kind frm to number value epoch oa ob la ca lb cb w v1 v2 ho (by simp; omega) (by simp; omega)
theorem learn18_any (s e u sent term margin kind frm to number value epoch : Int) (oa ob : Option Addr) (la ca lb cb : Nat) (w : World) (v1 : -9223372036854775808 ≤ value) (v2 : value ≤ 9223372036854775807) : Calls Try.prog 18 #[.agg #[.int .i64 s, .int .i64 e, .int .i64 u], .int .i64 sent, .int .i64 term, .int .i64 margin, .agg #[.int .i64 kind, .int .i64 frm, .int .i64 to, .int .i64 number, .int .i64 value, .int .i64 epoch, .slice oa la ca, .slice ob lb cb]] w (learnP s e u sent term margin kind to value epoch w) := by
  cases ho : okL s e u sent term margin to epoch
  · exact learn18_bad s e u sent term margin kind frm to number value epoch oa ob la ca lb cb w v1 v2 ho
  · by_cases k1 : kind = 16
    · rcases Int.lt_trichotomy e epoch with hN | hN | hN
      · exact learn18_n16 s e u sent term margin kind frm to number value epoch oa ob la ca lb cb w v1 v2 ho k1 hN
      · exact learn18_e16 s e u sent term margin kind frm to number value epoch oa ob la ca lb cb w v1 v2 ho k1 hN.symm
      · exact learn18_o16 s e u sent term margin kind frm to number value epoch oa ob la ca lb cb w v1 v2 ho k1 hN
    · by_cases k2 : kind = 12
      · rcases Int.lt_or_le e epoch with hN | hN
        · exact learn18_n12 s e u sent term margin kind frm to number value epoch oa ob la ca lb cb w v1 v2 ho k2 hN
        · exact learn18_o12 s e u sent term margin kind frm to number value epoch oa ob la ca lb cb w v1 v2 ho k2 hN
      · exact learn18_oth s e u sent term margin kind frm to number value epoch oa ob la ca lb cb w v1 v2 ho (by simp; omega) (by simp; omega)
end Go.Proofs.Ytelkpeoilneikaa
