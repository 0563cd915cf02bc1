/- Apply: contracts of its functions (Ae). No condition but those named. -/
import Derived.Test.YtkghiceeegindaaGreatDoorAd
import Derived.Test.YtkghiceeegindaaGreatDoorLe
namespace Go.Proofs.YtkghiceeegindaaGreatDoor
open Go.Proofs Go.AL
set_option maxRecDepth 100000
set_option maxHeartbeats 1000000
set_option linter.unusedVariables false
set_option linter.unusedSimpArgs false
attribute [local irreducible] endA AW aops thenA blockA hold
theorem CaV.mono {p : Nat → Prop} {ca : List (Int × Sec)} {m m' : Nat} {v : AV} {T : List (Nat × Option Blk)} (h : CaV p ca m v T) (hm : m ≤ m') : CaV p ca m' v T := by
  rcases h with h | ⟨id, h1, h2, h3⟩
  · exact .inl h
  · exact .inr ⟨id, h1, by omega, h3⟩
theorem CaV.sub {p q : Nat → Prop} {ca : List (Int × Sec)} {m : Nat} {v : AV} {T : List (Nat × Option Blk)} (h : CaV p ca m v T) (hq : ∀ id, p id → q id) : CaV q ca m v T := by
  rcases h with h | ⟨id, h1, h3⟩
  · exact .inl h
  · exact .inr ⟨id, hq id h1, h3⟩
theorem sync_a (X K m0 : Nat) (d : Dsk) (cav : AV) (T : List (Nat × Option Blk)) (a : Int) (l : List Sec) (hX : 2 ≤ X) (hK : 2 ≤ K) (hXK : X ≠ K) (hXm : X < m0) (hKm : K < m0) (hc : CaV (fun id => 2 ≤ id ∧ id ≠ X ∧ id ≠ K) d.ca m0 cav T) (h0 : dskE d = 0) (h2 : d.ca.length ≤ 900000) :
    ACall Tryz.prog 153 [.ptr X 0 0, .agg (opRow (1, a, l))] ⟨m0, tabG ((X, some (.cells 186 2 [[.snap (encL encSec d.st), cav]] true false)) :: (1, some (.cells 25 2 [[.c (.slice none 0 0), .c (.slice none 0 0)]] true false)) :: (K, some (.cells 233 2 [[.fn (.func 152) [.ptr X 0 0] [], .fn (.func 153) [.ptr X 0 0] []]] true false)) :: T)⟩
      (fun r H' => ∃ m', m0 ≤ m' ∧ r = zV 0 ∧ H' = ⟨m', tabG ((X, some (.cells 186 2 [[.snap (encL encSec (newL d.st d.ca)), .c (.slice none 0 0)]] true false)) :: (1, some (.cells 25 2 [[.c (.slice none 0 0), .c (.slice none 0 0)]] true false)) :: (K, some (.cells 233 2 [[.fn (.func 152) [.ptr X 0 0] [], .fn (.func 153) [.ptr X 0 0] []]] true false)) :: [])⟩) := by
  refine astartW Tryz.func153 Tryz.ntmps153 ?_
  have c1 := newest_p d (by omega) h0
  obtain ⟨st, ca⟩ := d
  unfold opRow encD at *
  simp only [] at *
  rcases hc with ⟨e1, e2, e3⟩ | ⟨id, ⟨i0, i1, i2⟩, i3, e1, e2⟩
  · subst e1 e2 e3
    have c2 : PC 123 [.agg [.snap (encL encSec st), .c (.slice none 0 0)]] (.snap (encL encSec (newL st []))) := c1.less (wks_cons (wk_agg (wks_cons (.refl _) (wks_cons .nil wks_nil))) wks_nil)
    clear c1 h0
    refine zgo2 ?_
    refine ⟨⟨m0 + 40, _⟩, ⟨m0 + 40, by omega, rfl, rfl⟩, ?_⟩
    exact zholds
  · subst e1 e2
    clear h0
    refine zgo2 ?_
    refine ⟨⟨m0 + 40, _⟩, ⟨m0 + 40, by omega, rfl, rfl⟩, ?_⟩
    exact zholds
theorem exrun_a (X m0 : Nat) (d : Dsk) (cav : AV) (T : List (Nat × Option Blk)) (ops : List Opr) (hX : 2 ≤ X) (hXm : X < m0) (hc : CaV (fun id => 2 ≤ id ∧ id ≠ X) d.ca m0 cav T) (h2 : d.ca.length + ops.length * 4096 ≤ 900000) (h0 : dskE d = 0) :
    ACall Tryz.prog 116 [.ptr X 0 0, .snap (encL opRow ops)] ⟨m0, tabG ((X, some (.cells 186 2 [[.snap (encL encSec d.st), cav]] true false)) :: (1, some (.cells 25 2 [[.c (.slice none 0 0), .c (.slice none 0 0)]] true false)) :: T)⟩
      (fun r H' => ∃ m' x cav' T', r = .tup [zV (runG ops d 0).2.1, zV (runG ops d 0).2.2] ∧ H' = ⟨m', tabG ((X, some (.cells 186 2 [[.snap (encL encSec x.st), cav']] true false)) :: (1, some (.cells 25 2 [[.c (.slice none 0 0), .c (.slice none 0 0)]] true false)) :: T')⟩ ∧ ((runG ops d 0).2.2 = 0 → x = (runG ops d 0).1 ∧ CaV (fun id => 2 ≤ id ∧ id ≠ X) x.ca m' cav' T')) := by
  refine astartW Tryz.func116 Tryz.ntmps116 ?_
  have hI : RunI d ops 0 d := ⟨h0, rfl, by omega, rfl⟩
  have hg := gO ops
  have hO : ops.length ≤ 220 := by omega
  have hst := (dskE_ok h0).1
  rcases hc with ⟨e1, e2, e3⟩ | ⟨id, ⟨i0, i1⟩, i3, e1, e2⟩
  case' inl =>
    subst e1 e2
    have hc0 : Lat (CaV (fun id => 2 ≤ id ∧ id ≠ X ∧ id ≠ m0) d.ca (m0 + 9) (.c (.slice none 0 0)) []) := ⟨.inl ⟨rfl, rfl, e3⟩⟩
    clear e3
    refine zgo2 ?_
    refine zfor (α := Dsk × AV × List (Nat × Option Blk)) ops.length (fun k x => [(17, true, zV k), (16, true, zV ops.length), (15, true, .snap (encL opRow ops)), (6, true, .ptr m0 0 0), (0, true, .ptr X 0 0), (1, true, .snap (encL opRow ops))]) (fun k x => (X, some (.cells 186 2 [[.snap (encL encSec x.1.st), x.2.1]] true false)) :: (1, some (.cells 25 2 [[.c (.slice none 0 0), .c (.slice none 0 0)]] true false)) :: (m0, some (.cells 233 2 [[.fn (.func 152) [.ptr X 0 0] [], .fn (.func 153) [.ptr X 0 0] []]] true false)) :: x.2.2) (fun k m x => m0 + 9 ≤ m ∧ RunI d ops k x.1 ∧ CaV (fun id => 2 ≤ id ∧ id ≠ X ∧ id ≠ m0) x.1.ca m x.2.1 x.2.2) ⟨m0 + 9, (d, .c (.slice none 0 0), []), ?_, ?_⟩ (fun k m x hk hR => ?_) (fun m x hR => ?_)
    · exact ⟨Nat.le_refl _, hI, hc0.out⟩
    · exact zholds
  case' inr =>
    subst e1 e2
    have hc0 : Lat (CaV (fun id => 2 ≤ id ∧ id ≠ X ∧ id ≠ m0) d.ca (m0 + 9) (.own id 0 d.ca.length) [(id, some (.cells 193 9 (encL encCa d.ca) true true))]) := ⟨.inr ⟨id, ⟨i0, i1, by omega⟩, by omega, rfl, rfl⟩⟩
    refine zgo2 ?_
    refine zfor (α := Dsk × AV × List (Nat × Option Blk)) ops.length (fun k x => [(17, true, zV k), (16, true, zV ops.length), (15, true, .snap (encL opRow ops)), (6, true, .ptr m0 0 0), (0, true, .ptr X 0 0), (1, true, .snap (encL opRow ops))]) (fun k x => (X, some (.cells 186 2 [[.snap (encL encSec x.1.st), x.2.1]] true false)) :: (1, some (.cells 25 2 [[.c (.slice none 0 0), .c (.slice none 0 0)]] true false)) :: (m0, some (.cells 233 2 [[.fn (.func 152) [.ptr X 0 0] [], .fn (.func 153) [.ptr X 0 0] []]] true false)) :: x.2.2) (fun k m x => m0 + 9 ≤ m ∧ RunI d ops k x.1 ∧ CaV (fun id => 2 ≤ id ∧ id ≠ X ∧ id ≠ m0) x.1.ca m x.2.1 x.2.2) ⟨m0 + 9, (d, .own id 0 d.ca.length, [(id, some (.cells 193 9 (encL encCa d.ca) true true))]), ?_, ?_⟩ (fun k m x hk hR => ?_) (fun m x hR => ?_)
    · exact ⟨Nat.le_refl _, hI, hc0.out⟩
    · exact zholds
  all_goals
    obtain ⟨y, cv, T2⟩ := x
    obtain ⟨hm, hI2, hS⟩ := hR
    simp only [] at hI2 hS
  case' inl.refine_3 | inr.refine_3 =>
    have hb := hI2.bad hk
    have ho := hI2.out hk
    have hw := hI2.write hk
    have hy := hI2.sync hk
    have hgk := hg k hk
    obtain ⟨j1, j2, j3, j4⟩ := hI2
    clear j4 hg h0 hI hc0
    generalize ops.getD k zOp = o at *
    obtain ⟨kd, a, l⟩ := o
    have hgk2 : (encL opRow ops)[k]? = some [zV kd, zV a, .snap (encL encSec l)] := hgk
    clear hgk
    simp only [] at hb ho hw hy
    have hcM : Lat (CaV (fun id => 2 ≤ id ∧ id ≠ X ∧ id ≠ m0) y.ca (m + 60) cv T2) := ⟨hS.mono (by omega)⟩
    by_cases g2 : kd = 0
    · subst g2
      cases hi : insB y a l.length with
      | true =>
        have hw2 : Lat (RunI d ops (k + 1) ⟨y.st, y.ca ++ putC a l⟩) := ⟨hw rfl hi⟩
        clear hw hb ho hy
        rcases hS with ⟨e1, e2, e3⟩ | ⟨id, ⟨i0, i1, i2⟩, i3, e1, e2⟩
        all_goals
          subst e1 e2
          refine zgo2 ?_
          refine zdrawT 5 ?_
          refine zgo2 ?_
          refine zact (write_a X m0 (m + 60) y _ _ a l hX (by omega) (by omega) (by omega) (by omega) hcM.out (by omega) (by omega)) ?_
          rintro r H' ⟨m2, hm2, (⟨_, cav2, T3, rfl, rfl, hc2⟩ | ⟨hi2, rfl, rfl⟩)⟩
          · have hc3 : Lat (CaV (fun id => 2 ≤ id ∧ id ≠ X ∧ id ≠ m0) (y.ca ++ putC a l) (m2 + 9) cav2 T3) := ⟨hc2.mono (by omega)⟩
            clear hc2
            refine zgo2 ?_
            refine ⟨m2 + 9, ⟨⟨y.st, y.ca ++ putC a l⟩, cav2, T3⟩, ⟨by omega, hw2.out, hc3.out⟩, ?_⟩
            exact zholds
          · rw [hi] at hi2; cases hi2
      | false =>
        have ho2 := ho rfl hi
        rw [ho2]
        clear hw hb ho hy ho2
        rcases hS with ⟨e1, e2, e3⟩ | ⟨id, ⟨i0, i1, i2⟩, i3, e1, e2⟩
        · subst e1 e2
          refine zgo2 ?_
          refine zdrawT 5 ?_
          refine zgo2 ?_
          refine zact (write_a X m0 (m + 60) y _ _ a l hX (by omega) (by omega) (by omega) (by omega) hcM.out (by omega) (by omega)) ?_
          rintro r H' ⟨m2, hm2, (⟨hi2, cav2, T3, rfl, rfl, hc2⟩ | ⟨_, rfl, rfl⟩)⟩
          · rw [hi] at hi2; cases hi2
          · refine zgo2 ?_
            refine ⟨⟨m2 + 9, _⟩, ⟨m2 + 9, y, .c (.slice none 0 0), [], rfl, rfl, fun h => absurd h (by simp)⟩, ?_⟩
            exact zholds
        · subst e1 e2
          refine zgo2 ?_
          refine zdrawT 5 ?_
          refine zgo2 ?_
          refine zact (write_a X m0 (m + 60) y _ _ a l hX (by omega) (by omega) (by omega) (by omega) hcM.out (by omega) (by omega)) ?_
          rintro r H' ⟨m2, hm2, (⟨hi2, cav2, T3, rfl, rfl, hc2⟩ | ⟨_, rfl, rfl⟩)⟩
          · rw [hi] at hi2; cases hi2
          · refine zgo2 ?_
            refine ⟨⟨m2 + 9, _⟩, ⟨m2 + 9, y, .own id 0 y.ca.length, [], rfl, rfl, fun h => absurd h (by simp)⟩, ?_⟩
            exact zholds
    · by_cases g3 : kd = 1
      · subst g3
        have hy2 : Lat (RunI d ops (k + 1) ⟨newL y.st y.ca, []⟩) := ⟨hy rfl⟩
        clear hw hb ho hy
        rcases hS with ⟨e1, e2, e3⟩ | ⟨id, ⟨i0, i1, i2⟩, i3, e1, e2⟩
        all_goals
          subst e1 e2
          refine zgo2 ?_
          refine zdrawT 5 ?_
          refine zgo2 ?_
          refine zact (sync_a X m0 (m + 60) y _ _ a l hX (by omega) (by omega) (by omega) (by omega) hcM.out j1 (by omega)) ?_
          rintro r H' ⟨m2, hm2, rfl, rfl⟩
          refine zgo2 ?_
          refine ⟨m2 + 9, ⟨⟨newL y.st y.ca, []⟩, .c (.slice none 0 0), []⟩, ⟨by omega, hy2.out, .inl ⟨rfl, rfl, rfl⟩⟩, ?_⟩
          exact zholds
      · have hb2 := hb g2 g3
        rw [hb2]
        clear hw hb ho hy hb2
        rcases hS with ⟨e1, e2, e3⟩ | ⟨id, ⟨i0, i1, i2⟩, i3, e1, e2⟩
        · subst e1 e2
          by_cases g4 : kd < 0
          · refine zgo2 ?_
            refine ⟨⟨m + 9, _⟩, ⟨m + 9, y, .c (.slice none 0 0), [], rfl, rfl, fun h => absurd h (by simp)⟩, ?_⟩
            exact zholds
          · refine zgo2 ?_
            refine ⟨⟨m + 9, _⟩, ⟨m + 9, y, .c (.slice none 0 0), [], rfl, rfl, fun h => absurd h (by simp)⟩, ?_⟩
            exact zholds
        · subst e1 e2
          by_cases g4 : kd < 0
          · refine zgo2 ?_
            refine ⟨⟨m + 9, _⟩, ⟨m + 9, y, .own id 0 y.ca.length, [], rfl, rfl, fun h => absurd h (by simp)⟩, ?_⟩
            exact zholds
          · refine zgo2 ?_
            refine ⟨⟨m + 9, _⟩, ⟨m + 9, y, .own id 0 y.ca.length, [], rfl, rfl, fun h => absurd h (by simp)⟩, ?_⟩
            exact zholds
  case' inl.refine_4 | inr.refine_4 =>
    have hf := hI2.fin
    rw [hf]
    clear hf hI2 hI h0 hc0 hg
    have hcM : Lat (CaV (fun id => 2 ≤ id ∧ id ≠ X) y.ca (m + 60) cv T2) := ⟨(hS.mono (by omega)).sub fun id h => ⟨h.1, h.2.1⟩⟩
    rcases hS with ⟨e1, e2, e3⟩ | ⟨id, ⟨i0, i1, i2⟩, i3, e1, e2⟩
    all_goals
      subst e1 e2
      refine zgo2 ?_
      refine ⟨⟨m + 60, _⟩, ⟨m + 60, y, _, _, rfl, rfl, fun _ => ⟨rfl, hcM.out⟩⟩, ?_⟩
      exact zholds
end Go.Proofs.YtkghiceeegindaaGreatDoor
namespace Go.Proofs.YtkghiceeegindaaGreatDoor
open Go.Proofs Go.AL
set_option maxRecDepth 100000
set_option maxHeartbeats 1000000
set_option linter.unusedVariables false
set_option linter.unusedSimpArgs false
attribute [local irreducible] endA AW aops thenA blockA hold
theorem runG_err : ∀ (ops : List Opr) (d : Dsk) (i : Nat), (runG ops d i).2.2 ≠ 0 → (runG ops d i).1 = dsk0
  | [], d, i, h => absurd rfl h
  | o :: r, d, i, h => by
    simp only [runG] at h ⊢
    split
    · rename_i h1
      rw [if_pos h1] at h
      split
      · rename_i h2
        rw [if_pos h2] at h
        exact runG_err r _ _ h
      · rfl
    · rename_i h1
      rw [if_neg h1] at h
      split
      · rename_i h2
        rw [if_pos h2] at h
        exact runG_err r _ _ h
      · rfl
theorem drun_1 (d : Dsk) (ops : List Opr) (hne : d.ca ≠ []) (h1 : d.st.length ≤ 1000000) (h2 : d.ca.length + ops.length * 4096 ≤ 900000) : PC 74 [.agg (encD d), .snap (encL opRow ops)] (.tup [.agg (encD (runE d ops).1), zV (runE d ops).2.1, zV (runE d ops).2.2]) := by
  refine pstart Tryz.func74 Tryz.ntmps74 (by simp only [go_sem, encD]) ?_
  have c1 := dcheck_p d h1 (by omega)
  unfold runE
  by_cases g1 : dskE d = 0
  · rw [if_pos g1]
    have c2 := cloneS_p d.st h1
    have c3 := cloneC_o d.ca hne (by omega)
    rw [g1] at c1
    unfold encD at c1 ⊢
    refine zgo2 ?_
    refine zin Tryz.func115 Tryz.ntmps115 ?_
    refine zgo2 ?_
    have hC : Lat (CaV (fun id => 2 ≤ id ∧ id ≠ 12) d.ca 60 (.own 9 0 d.ca.length) [(9, some (.cells 193 9 (encL encCa d.ca) true true))]) := ⟨.inr ⟨9, ⟨by omega, by omega⟩, by omega, rfl, rfl⟩⟩
    refine zact (exrun_a 12 60 d (.own 9 0 d.ca.length) _ ops (by omega) (by omega) hC.out h2 g1) ?_
    rintro r H' ⟨m2, x, cav2, T2, rfl, rfl, hx⟩
    clear hC
    have hR := runG_err ops d 0
    generalize runG ops d 0 = R at *
    obtain ⟨R1, n, e⟩ := R
    simp only [] at hx ⊢
    by_cases g3 : e = 0
    · subst g3
      obtain ⟨rfl, hc2⟩ := hx rfl
      rcases hc2 with ⟨e1, e2, e3⟩ | ⟨id, ⟨i0, i1⟩, i3, e1, e2⟩
      · subst e1 e2
        rw [e3]
        clear e3 hx hR
        refine zgo2 ?_
        exact zfin
      · subst e1 e2
        clear hx hR
        refine zgo2 ?_
        exact zfin
    · have hR1 := hR g3
      simp only [] at hR1
      rw [hR1]
      clear hx hR hR1
      unfold dsk0
      refine zgo2 ?_
      exact zfin
  · rw [if_neg g1]
    unfold encD dsk0 at *
    refine zgo2 ?_
    exact zfin
theorem drun_2 (st : List Sec) (ops : List Opr) (cap : Nat) (h1 : st.length ≤ 1000000) (h2 : 0 + ops.length * 4096 ≤ 900000) : PC 74 [.agg [.snap (encL encSec st), .c (.slice none 0 cap)], .snap (encL opRow ops)] (.tup [.agg (encD (runE ⟨st, []⟩ ops).1), zV (runE ⟨st, []⟩ ops).2.1, zV (runE ⟨st, []⟩ ops).2.2]) := by
  refine pstart Tryz.func74 Tryz.ntmps74 (by simp only [go_sem, encD]) ?_
  have c0 := dcheck_p ⟨st, []⟩ h1 (Nat.zero_le _)
  have c1 : PC 77 [.agg [.snap (encL encSec st), .c (.slice none 0 cap)]] (zV (dskE ⟨st, []⟩)) := c0.less (wks_cons (wk_agg (wks_cons (.refl _) (wks_cons .nil wks_nil))) wks_nil)
  clear c0
  unfold runE
  by_cases g1 : dskE ⟨st, []⟩ = 0
  · rw [if_pos g1]
    have c2 := cloneS_p st h1
    have c3 := cloneC_n cap
    rw [g1] at c1
    unfold encD
    refine zgo2 ?_
    refine zin Tryz.func115 Tryz.ntmps115 ?_
    refine zgo2 ?_
    have hC : Lat (CaV (fun id => 2 ≤ id ∧ id ≠ 12) [] 60 (.c (.slice none 0 0)) []) := ⟨.inl ⟨rfl, rfl, rfl⟩⟩
    refine zact (exrun_a 12 60 ⟨st, []⟩ (.c (.slice none 0 0)) _ ops (by omega) (by omega) hC.out h2 g1) ?_
    rintro r H' ⟨m2, x, cav2, T2, rfl, rfl, hx⟩
    clear hC
    have hR := runG_err ops ⟨st, []⟩ 0
    generalize runG ops ⟨st, []⟩ 0 = R at *
    obtain ⟨R1, n, e⟩ := R
    simp only [] at hx ⊢
    by_cases g3 : e = 0
    · subst g3
      obtain ⟨rfl, hc2⟩ := hx rfl
      rcases hc2 with ⟨e1, e2, e3⟩ | ⟨id, ⟨i0, i1⟩, i3, e1, e2⟩
      · subst e1 e2
        rw [e3]
        clear e3 hx hR
        refine zgo2 ?_
        exact zfin
      · subst e1 e2
        clear hx hR
        refine zgo2 ?_
        exact zfin
    · have hR1 := hR g3
      simp only [] at hR1
      rw [hR1]
      clear hx hR hR1
      unfold dsk0
      refine zgo2 ?_
      exact zfin
  · rw [if_neg g1]
    unfold encD dsk0
    refine zgo2 ?_
    exact zfin
theorem drun_3 (st : List Sec) (ops : List Opr) (a : Addr) (cap : Nat) (h1 : st.length ≤ 1000000) (h2 : 0 + ops.length * 4096 ≤ 900000) : PC 74 [.agg [.snap (encL encSec st), .c (.slice (some a) 0 cap)], .snap (encL opRow ops)] (.tup [.agg (encD (runE ⟨st, []⟩ ops).1), zV (runE ⟨st, []⟩ ops).2.1, zV (runE ⟨st, []⟩ ops).2.2]) := by
  refine pstart Tryz.func74 Tryz.ntmps74 (by simp only [go_sem, encD]) ?_
  have c0 := dcheck_p ⟨st, []⟩ h1 (Nat.zero_le _)
  have c1 : PC 77 [.agg [.snap (encL encSec st), .c (.slice (some a) 0 cap)]] (zV (dskE ⟨st, []⟩)) := c0.less (wks_cons (wk_agg (wks_cons (.refl _) (wks_cons .nil wks_nil))) wks_nil)
  clear c0
  unfold runE
  by_cases g1 : dskE ⟨st, []⟩ = 0
  · rw [if_pos g1]
    have c2 := cloneS_p st h1
    have c3 := cloneC_s a cap
    rw [g1] at c1
    unfold encD
    refine zgo2 ?_
    refine zin Tryz.func115 Tryz.ntmps115 ?_
    refine zgo2 ?_
    have hC : Lat (CaV (fun id => 2 ≤ id ∧ id ≠ 12) [] 60 (.own 9 0 0) [(9, some (.cells 193 9 [] true true))]) := ⟨.inr ⟨9, ⟨by omega, by omega⟩, by omega, rfl, rfl⟩⟩
    refine zact (exrun_a 12 60 ⟨st, []⟩ (.own 9 0 0) _ ops (by omega) (by omega) hC.out h2 g1) ?_
    rintro r H' ⟨m2, x, cav2, T2, rfl, rfl, hx⟩
    clear hC
    have hR := runG_err ops ⟨st, []⟩ 0
    generalize runG ops ⟨st, []⟩ 0 = R at *
    obtain ⟨R1, n, e⟩ := R
    simp only [] at hx ⊢
    by_cases g3 : e = 0
    · subst g3
      obtain ⟨rfl, hc2⟩ := hx rfl
      rcases hc2 with ⟨e1, e2, e3⟩ | ⟨id, ⟨i0, i1⟩, i3, e1, e2⟩
      · subst e1 e2
        rw [e3]
        clear e3 hx hR
        refine zgo2 ?_
        exact zfin
      · subst e1 e2
        clear hx hR
        refine zgo2 ?_
        exact zfin
    · have hR1 := hR g3
      simp only [] at hR1
      rw [hR1]
      clear hx hR hR1
      unfold dsk0
      refine zgo2 ?_
      exact zfin
  · rw [if_neg g1]
    unfold encD dsk0
    refine zgo2 ?_
    exact zfin
theorem drun_p (d : Dsk) (ops : List Opr) (h1 : d.st.length ≤ 1000000) (h2 : d.ca.length + ops.length * 4096 ≤ 900000) : PC 74 [.agg (encD d), .snap (encL opRow ops)] (.tup [.agg (encD (runE d ops).1), zV (runE d ops).2.1, zV (runE d ops).2.2]) := by
  by_cases h : d.ca = []
  · obtain ⟨st, ca⟩ := d
    simp only [] at h h1 h2
    subst h
    refine PCall.nilF (pre := [.snap (encL encSec st)]) (post := []) fun a cap => ?_
    cases a with
    | none => exact drun_2 st ops cap h1 (by simpa using h2)
    | some a => exact drun_3 st ops a cap h1 (by simpa using h2)
  · exact drun_1 d ops h h1 h2
end Go.Proofs.YtkghiceeegindaaGreatDoor
namespace Go.Proofs.YtkghiceeegindaaGreatDoor
open Go.Proofs Go.AL
set_option maxRecDepth 100000
set_option maxHeartbeats 1000000
set_option linter.unusedVariables false
set_option linter.unusedSimpArgs false
attribute [local irreducible] endA AW aops thenA blockA hold
theorem op_noIds (l : List (Int × Int × List Sec)) : ∀ row ∈ encL opRow l, ∀ x ∈ row, NoId x := fun row hr x hx => by
  simp only [encL, List.mem_map] at hr
  obtain ⟨o, _, rfl⟩ := hr
  exact op_noId o x hx
theorem okO_pair (n : Nat) (e : Int) : OkO (.tup [.own 0 0 n, zV e]) := .inr ⟨_, rfl, fun x hx => by
  simp only [List.mem_cons, List.not_mem_nil, or_false] at hx
  rcases hx with rfl | rfl
  · exact .inl ⟨0, n, rfl⟩
  · exact .inr (.c _)⟩
theorem okO_trip (r : List AV) (h : NoId (.agg r)) (n : Nat) (e : Int) : OkO (.tup [.agg r, .own 0 0 n, zV e]) := .inr ⟨_, rfl, fun x hx => by
  simp only [List.mem_cons, List.not_mem_nil, or_false] at hx
  rcases hx with rfl | rfl | rfl
  · exact .inr h
  · exact .inl ⟨0, n, rfl⟩
  · exact .inr (.c _)⟩
theorem store_t (d : Dsk) (a : Int) (p : List Int) (A B : List Sec) (x y : List Int) (gx gy N : Int) (hp : p.length ≤ 31) (hA : A.length = 8) (hB : B.length = 8) (h3 : 0 ≤ a) (h4 : a ≤ 1000000) (hN : N = 0 ∨ N = 1) (hk : ∀ s ∈ A ++ B, SecOK s) (hTn : topS (A ++ B) ≠ 4294967295) (hc : PC 105 [.agg (encD d), zV a] (.tup [.agg [zV gx, .snap (encL byteRow x), .snap (encL encSec A), zV gy, .snap (encL byteRow y), .snap (encL encSec B)], zV N, zV 0])) :
    TOCall Tryz.prog 125 [.agg (encD d), zV a, .snap (encL byteRow p)] (.tup [.own 0 0 2, zV 0]) 94 3 (encL opRow [(0, a + 8 - 8 * N, putS (topS (A ++ B) + 1) p), (1, 0, [])]) := by
  refine tstart2 Tryz.func125 Tryz.ntmps125 (by simp only [go_sem, encD]) (okO_pair 2 0) (op_noIds _) ?_
  have hT := topS_in _ hk
  have g2 : ¬ (31 : Int) < p.length := by omega
  have hgA := gS A
  have hgB := gS B
  have e0 : A.take 0 = [] := rfl
  have e2 : topS ([] : List Sec) = 0 := rfl
  unfold encD at hc ⊢
  refine zgo ?_
  refine w_rounds 3 ?_
  refine w_round ?_
  refine zgo ?_
  refine zfor1 8 40 [] (fun k => [(37, true, zV k), (36, true, zV 8), (35, true, .snap (encL encSec A)), (31, true, zV 0), (30, true, .agg [zV gx, .snap (encL byteRow x), .snap (encL encSec A), zV gy, .snap (encL byteRow y), .snap (encL encSec B)]), (11, true, zV (topS (A.take k))), (9, true, zV N), (1, true, zV a), (2, true, .snap (encL byteRow p))]) zholds (fun k m hkk hm => ?_) (fun m hm => ?_)
  · have hs := (hk (A.getD k zSec) (List.mem_append_left _ (getD_mem' zSec (by omega)))).1
    have c2 := generation_p (A.getD k zSec) hs
    have h7 := topS_succ (l := A) (k := k) (by omega)
    have h8 : (if genS (A.getD k zSec) > topS (A.take k) then genS (A.getD k zSec) else topS (A.take k)) = topS (A.take (k + 1)) := by
      rw [← h7]; split <;> omega
    clear hk hs h7
    refine zgo ?_
    refine ⟨m + 9, by omega, ?_⟩
    exact zholds
  · have e8 : A.take 8 = A := List.take_of_length_le (by omega)
    have e9 : topS (A ++ B.take 0) = topS A := by rw [List.take_zero, List.append_nil]
    rw [e8]
    refine zgo ?_
    refine zfor1 8 (m + 40) [] (fun k => [(37, true, zV k), (36, true, zV 8), (35, true, .snap (encL encSec B)), (31, true, zV 1), (30, true, .agg [zV gx, .snap (encL byteRow x), .snap (encL encSec A), zV gy, .snap (encL byteRow y), .snap (encL encSec B)]), (11, true, zV (topS (A ++ B.take k))), (9, true, zV N), (1, true, zV a), (2, true, .snap (encL byteRow p))]) zholds (fun k m hkk hm => ?_) (fun m hm => ?_)
    · have hs := (hk (B.getD k zSec) (List.mem_append_right _ (getD_mem' zSec (by omega)))).1
      have c2 := generation_p (B.getD k zSec) hs
      have h7 := topS_app (A := A) (B := B) (k := k) (by omega)
      have h8 : (if genS (B.getD k zSec) > topS (A ++ B.take k) then genS (B.getD k zSec) else topS (A ++ B.take k)) = topS (A ++ B.take (k + 1)) := by
        rw [← h7]; split <;> omega
      clear hk hs h7 e9 e8
      refine zgo ?_
      refine ⟨m + 9, by omega, ?_⟩
      exact zholds
    · have e10 : B.take 8 = B := List.take_of_length_le (by omega)
      rw [e10]
      clear hk e9 e8 e10 hgA hgB
      generalize topS (A ++ B) = T at *
      have c3 := put_p (T + 1) p hp
      have w1 : IntKind.i64.wrap (T + 1) = T + 1 := IntWalk.i64_in _ (by omega)
      have w2 : IntKind.i64.wrap (1 - N) = 1 - N := IntWalk.i64_in _ (by omega)
      have w3 : IntKind.i64.wrap ((1 - N) * 8) = (1 - N) * 8 := IntWalk.i64_in _ (by omega)
      have w4 : IntKind.i64.wrap (a + (1 - N) * 8) = a + 8 - 8 * N := by rw [IntWalk.i64_in _ (by omega)]; omega
      refine zgo ?_
      refine ⟨m, rfl, [[zV 0, zV (a + 8 - 8 * N), .snap (encL encSec (putS (T + 1) p))], [zV 1, zV 0, .c (.slice none 0 0)]], ?_, wkr_cons (wks_refl _) (wkr_cons (wks_cons (.refl _) (wks_cons (.refl _) (wks_cons .nil wks_nil))) wkr_nil)⟩
      exact zeq
def stE (d : Dsk) (r : Rep) : Rep × List (Int × Int × List Sec) × Int :=
  if (storeE d r.super (repV r)).2 = 0 then (r, (storeE d r.super (repV r)).1, 0) else (rep0, [], (storeE d r.super (repV r)).2)
theorem storeE_len {d : Dsk} {a : Int} {p : List Int} (h : (storeE d a p).2 = 0) : (storeE d a p).1.length = 2 := by
  unfold storeE at h ⊢
  split
  · rename_i h1
    rw [if_pos h1] at h
    split
    · rename_i h2
      rw [if_pos h2] at h; exact absurd h (by decide)
    · rename_i h2
      rw [if_neg h2] at h
      split
      · rename_i h3
        rw [if_pos h3] at h; exact absurd h (by decide)
      · rfl
  · rename_i h1
    rw [if_neg h1] at h; exact absurd h h1
theorem newE_01 (A B : List Int × Int) : (newE A B).1 = 0 ∨ (newE A B).1 = 1 := by
  unfold newE
  split
  · split
    · exact .inl rfl
    · exact .inr rfl
  · split
    · exact .inl rfl
    · exact .inl rfl
theorem sstore_t (d : Dsk) (a : Int) (p : List Int) (hs : d.st.length ≤ 1000000) (h2 : d.ca.length ≤ 1000000) (hk : ∀ s ∈ newL d.st d.ca, SecOK s) (h : (storeE d a p).2 = 0) :
    TOCall Tryz.prog 125 [.agg (encD d), zV a, .snap (encL byteRow p)] (.tup [.own 0 0 2, zV 0]) 94 3 (encL opRow (storeE d a p).1) := by
  by_cases g0 : (findE d a).2.2.2.2 = 0
  · have g : (readE d a 16).2 = 0 := by
      by_cases g : (readE d a 16).2 = 0
      · exact g
      · rw [findE_err hs g] at g0; exact absurd g0 g
    obtain ⟨h0, h3, h4⟩ := readE_ok g
    have hk2 : ∀ s ∈ sbL d a, SecOK s := fun s hs => hk s (List.mem_of_mem_drop (List.mem_of_mem_take hs))
    have gA := parseS_gen (l := (sbL d a).take 8) fun s hs => hk2 s (List.mem_of_mem_take hs)
    have gB := parseS_gen (l := (sbL d a).drop 8) fun s hs => hk2 s (List.mem_of_mem_drop hs)
    have hf := find_new h0 h3 h4 gA.1 gB.1
    have c := find_ok d a hs h2 hk h0 h3 h4
    have e0 := newL_len d.ca d.st
    have e1 : (sbL d a).length = 16 := by unfold sbL; rw [List.length_take, List.length_drop]; omega
    have e2 : (sbL d a).take 8 ++ (sbL d a).drop 8 = sbL d a := List.take_append_drop 8 _
    unfold storeE at h ⊢
    rw [if_pos g0] at h ⊢
    by_cases g1 : 31 < p.length
    · rw [if_pos g1] at h; exact absurd h (by decide)
    rw [if_neg g1] at h ⊢
    by_cases g2 : topS (sbL d a) = 4294967295
    · rw [if_pos g2] at h; exact absurd h (by decide)
    rw [if_neg g2]
    have hn : (newE (parseS ((sbL d a).take 8)) (parseS ((sbL d a).drop 8))).2 = 0 ∧ (findE d a).2.1 = (newE (parseS ((sbL d a).take 8)) (parseS ((sbL d a).drop 8))).1 ∧ ((newE (parseS ((sbL d a).take 8)) (parseS ((sbL d a).drop 8))).1 = 0 ∨ (newE (parseS ((sbL d a).take 8)) (parseS ((sbL d a).drop 8))).1 = 1) := by
      by_cases g3 : (newE (parseS ((sbL d a).take 8)) (parseS ((sbL d a).drop 8))).2 = 0
      · rw [if_pos g3] at hf
        by_cases g4 : (newE (parseS ((sbL d a).take 8)) (parseS ((sbL d a).drop 8))).1 = 1
        · rw [if_pos g4] at hf
          exact ⟨g3, by rw [hf, g4], .inr g4⟩
        · rw [if_neg g4] at hf
          have g5 : (newE (parseS ((sbL d a).take 8)) (parseS ((sbL d a).drop 8))).1 = 0 := by
            have := newE_01 (parseS ((sbL d a).take 8)) (parseS ((sbL d a).drop 8))
            rcases this with h | h
            · exact h
            · exact absurd h g4
          exact ⟨g3, by rw [hf, g5], .inl g5⟩
      · rw [if_neg g3] at hf
        rw [hf] at g0; exact absurd g0 (by decide)
    obtain ⟨n1, n2, n3⟩ := hn
    rw [n2]
    rw [n1] at c
    have t := store_t d a p ((sbL d a).take 8) ((sbL d a).drop 8) _ _ _ _ _ (by omega) (by rw [List.length_take]; omega) (by rw [List.length_drop]; omega) h3 (by omega) n3 (by rw [e2]; exact hk2) (by rw [e2]; exact g2) c
    rw [e2] at t
    exact t
  · unfold storeE at h
    rw [if_neg g0] at h
    exact absurd h g0
end Go.Proofs.YtkghiceeegindaaGreatDoor
namespace Go.Proofs.YtkghiceeegindaaGreatDoor
open Go.Proofs Go.AL
set_option maxRecDepth 100000
set_option maxHeartbeats 1000000
set_option linter.unusedVariables false
set_option linter.unusedSimpArgs false
attribute [local irreducible] endA AW aops thenA blockA hold
theorem sfind_err (d : Dsk) (a e : Int) (p : List Int) (A B : List Int × Int) (l m : List Sec) (n : Int) (he : e ≠ 0) (hc : PC 105 [.agg (encD d), zV a] (.tup [.agg (bothV A B l m), zV n, zV e])) : PC 125 [.agg (encD d), zV a, .snap (encL byteRow p)] (.tup [.snap (encL opRow []), zV e]) := by
  refine pstart Tryz.func125 Tryz.ntmps125 (by simp only [go_sem]) ?_
  unfold encD bothV at *
  refine zgo ?_
  exact zfin
theorem newE_09 (A B : List Int × Int) : (newE A B).2 = 0 ∨ (newE A B).2 = 9 := by
  unfold newE
  split
  · split
    · exact .inr rfl
    · exact .inl rfl
  · split
    · exact .inr rfl
    · exact .inl rfl
theorem sstore_f (d : Dsk) (a : Int) (p : List Int) (hp : p.length ≤ 31) (hs : d.st.length ≤ 1000000) (h2 : d.ca.length ≤ 1000000) (hk : ∀ s ∈ newL d.st d.ca, SecOK s) (h : (storeE d a p).2 ≠ 0) :
    PC 125 [.agg (encD d), zV a, .snap (encL byteRow p)] (.tup [.snap (encL opRow []), zV (storeE d a p).2]) := by
  by_cases g : (readE d a 16).2 = 0
  · obtain ⟨h0, h3, h4⟩ := readE_ok g
    have hk2 : ∀ s ∈ sbL d a, SecOK s := fun s hs => hk s (List.mem_of_mem_drop (List.mem_of_mem_take hs))
    have gA := parseS_gen (l := (sbL d a).take 8) fun s hs => hk2 s (List.mem_of_mem_take hs)
    have gB := parseS_gen (l := (sbL d a).drop 8) fun s hs => hk2 s (List.mem_of_mem_drop hs)
    have hf := find_new h0 h3 h4 gA.1 gB.1
    have c := find_ok d a hs h2 hk h0 h3 h4
    have e0 := newL_len d.ca d.st
    have e1 : (sbL d a).length = 16 := by unfold sbL; rw [List.length_take, List.length_drop]; omega
    have e2 : (sbL d a).take 8 ++ (sbL d a).drop 8 = sbL d a := List.take_append_drop 8 _
    by_cases g3 : (newE (parseS ((sbL d a).take 8)) (parseS ((sbL d a).drop 8))).2 = 0
    · have g0 : (findE d a).2.2.2.2 = 0 := by
        rw [hf, if_pos g3]; split <;> rfl
      have g2 : topS (sbL d a) = 4294967295 := by
        by_cases g2 : topS (sbL d a) = 4294967295
        · exact g2
        · unfold storeE at h
          rw [if_pos g0, if_neg (by omega), if_neg g2] at h
          exact absurd rfl h
      have g4 : (storeE d a p).2 = 11 := by
        unfold storeE
        rw [if_pos g0, if_neg (by omega), if_pos g2]
      rw [g3] at c
      have t := store_ok d a p ((sbL d a).take 8) ((sbL d a).drop 8) _ _ _ _ _ hp (by rw [List.length_take]; omega) (by rw [List.length_drop]; omega) h3 (by omega) (newE_01 _ _) (by rw [e2]; exact hk2) c
      rw [e2, if_pos g2] at t
      rw [g4]
      exact t
    · have g9 : (newE (parseS ((sbL d a).take 8)) (parseS ((sbL d a).drop 8))).2 = 9 := by
        have := newE_09 (parseS ((sbL d a).take 8)) (parseS ((sbL d a).drop 8))
        rcases this with h | h
        · exact absurd h g3
        · exact h
      have g4 : (storeE d a p).2 = 9 := by
        unfold storeE
        rw [hf, if_neg g3]
        rfl
      rw [g9] at c
      rw [g4]
      exact sfind_err d a 9 p _ _ _ _ _ (by decide) c
  · have g4 : (storeE d a p).2 = (readE d a 16).2 := by
      unfold storeE
      rw [findE_err hs g, if_neg g]
    rw [g4]
    exact sfind_err d a _ p _ _ _ _ _ g (find_err d a hs h2 g)
theorem repV_len31 (r : Rep) : (repV r).length ≤ 31 := by
  have h1 := vint_len r.epoch
  have h2 := vint_len r.applied
  have h3 := vint_len r.applying
  unfold repV
  simp only [List.length_append]
  omega
@[go_sem] theorem by_fresh (G : Nat → Option Blk) (k : Nat) (l : List Int) : ((encL byteRow l).all fun row => row.all (fresh G k)) = true := by
  rw [List.all_eq_true]
  intro row hr
  simp only [encL, List.mem_map] at hr
  obtain ⟨x, _, rfl⟩ := hr
  cases k <;> rfl
theorem by_expoD (G : Nat → Option Blk) (k : Nat) (l : List Int) : (encL byteRow l).map (fun row => row.map (expoD G k)) = encL byteRow l := encL_expoD (fun a x hx => by simp [byteRow] at hx; exact ⟨_, hx⟩) G k l
theorem value_f (r : Rep) : FC 52 [.sptr [encR r] 0 0] (.snap (encL byteRow (repV r))) := by
  refine fcstart Tryz.func52 Tryz.ntmps52 ?_
  unfold encR repV
  have h1 := vint_len r.epoch
  have h2 := vint_len r.applied
  have h3 := vint_len r.applying
  have c0 := putInt_e r.epoch
  have c1 := putInt_fo (vint r.epoch) r.applied (by omega)
  have c2 := putInt_fo (vint r.epoch ++ vint r.applied) r.applying (by simp; omega)
  simp only [List.nil_append] at c0
  refine zgo ?_
  refine w_rounds 4 ?_
  refine w_round ?_
  refine zgo ?_
  refine ⟨?_, ?_, ?_⟩
  · simp only [go_sem, by_expoD]
  · simp only [go_sem, fresh, rowsOf, by_fresh]
  · simp only [go_sem, by_expoD]
    rw [List.take_of_length_le (by simp only [List.length_append]; omega)]
end Go.Proofs.YtkghiceeegindaaGreatDoor
namespace Go.Proofs.YtkghiceeegindaaGreatDoor
open Go.Proofs Go.AL
set_option maxRecDepth 100000
set_option maxHeartbeats 1000000
set_option linter.unusedVariables false
set_option linter.unusedSimpArgs false
attribute [local irreducible] endA AW aops thenA blockA hold
def beginE (d : Dsk) (r : Rep) (n : Int) : Rep × List (Int × Int × List Sec) × Int :=
  if repE r = 0 then
    if n ≤ r.applied then (rep0, [], 8)
    else if 1073741824 < n then (rep0, [], 2)
    else if n = r.applying then (r, [], 0)
    else if r.applying ≠ 0 then (rep0, [], 26)
    else stE d ⟨r.sizes, r.super, r.data, r.epoch, r.applied, n⟩
  else (rep0, [], repE r)
def endE (d : Dsk) (r : Rep) : Rep × List (Int × Int × List Sec) × Int :=
  if repE r = 0 then
    if r.applying = 0 then (rep0, [], 12)
    else stE d ⟨r.sizes, r.super, r.data, r.epoch, r.applying, 0⟩
  else (rep0, [], repE r)
def raiseE (d : Dsk) (r : Rep) (n : Int) : Rep × List (Int × Int × List Sec) × Int :=
  if repE r = 0 then
    if n < r.epoch then (rep0, [], 13)
    else if 1073741824 < n then (rep0, [], 2)
    else if n = r.epoch then (r, [], 0)
    else stE d ⟨r.sizes, r.super, r.data, n, r.applied, r.applying⟩
  else (rep0, [], repE r)
abbrev ansV (F : Rep × List (Int × Int × List Sec) × Int) : AV := .tup [.agg (encR F.1), .snap (encL opRow F.2.1), zV F.2.2]
theorem storeE_nil {d : Dsk} {a : Int} {p : List Int} (h : (storeE d a p).2 ≠ 0) : (storeE d a p).1 = [] := by
  unfold storeE at h ⊢
  split
  · rename_i h1
    rw [if_pos h1] at h
    split
    · rfl
    · rename_i h2
      rw [if_neg h2] at h
      split
      · rfl
      · rename_i h3
        rw [if_neg h3] at h
        exact absurd rfl h
  · rfl
theorem sstore_p (d : Dsk) (a : Int) (p : List Int) (hp : p.length ≤ 31) (hs : d.st.length ≤ 1000000) (h2 : d.ca.length ≤ 1000000) (hk : ∀ s ∈ newL d.st d.ca, SecOK s) :
    PC 125 [.agg (encD d), zV a, .snap (encL byteRow p)] (.tup [.snap (encL opRow (storeE d a p).1), zV (storeE d a p).2]) := by
  by_cases h : (storeE d a p).2 = 0
  · have t := sstore_t d a p hs h2 hk h
    have hl := storeE_len h
    rw [h]
    refine t.toP (by simp only [go_sem]) ?_
    generalize (storeE d a p).1 = F at *
    have e : List.take 2 F = F := List.take_of_length_le (by omega)
    simp only [go_sem, renO, renO1, upd, hl, e]
    exact .refl _
  · rw [storeE_nil h]
    exact sstore_f d a p hp hs h2 hk h
theorem begin_p (d : Dsk) (r : Rep) (n : Int) (hl : r.sizes.length ≤ 1000000) (hs : d.st.length ≤ 1000000) (h2 : d.ca.length ≤ 1000000) (hk : ∀ s ∈ newL d.st d.ca, SecOK s) : PC 28 [.agg (encD d), .agg (encR r), zV n] (ansV (beginE d r n)) := by
  refine pstart Tryz.func28 Tryz.ntmps28 (by simp only [go_sem, encR]) ?_
  have c1 := check_p r hl
  have c4 := cloneI_p r.sizes hl
  have c7 := failed_p
  obtain ⟨M, hM⟩ : ∃ M, beginE d r n = M := ⟨_, rfl⟩
  rw [hM]
  unfold beginE stE at hM
  obtain ⟨sz, sp, dt, ep, ap, ag⟩ := r
  unfold encR at c1
  unfold rep0 encR at c7
  unfold rep0 at hM
  unfold ansV encR
  simp only [] at *
  refine zgo2 ?_
  refine zin Tryz.func47 Tryz.ntmps47 ?_
  refine zgo2 ?_
  refine zin Tryz.func82 Tryz.ntmps82 ?_
  by_cases g1 : repE ⟨sz, sp, dt, ep, ap, ag⟩ = 0
  · rw [if_pos g1] at hM
    rw [g1] at c1
    refine zgo2 ?_
    refine zin Tryz.func83 Tryz.ntmps83 ?_
    by_cases g2 : n ≤ ap
    · rw [if_pos g2] at hM
      subst hM
      refine zgo2 ?_
      exact zfin
    rw [if_neg g2] at hM
    by_cases g3 : 1073741824 < n
    · rw [if_pos g3] at hM
      subst hM
      refine zgo2 ?_
      exact zfin
    rw [if_neg g3] at hM
    by_cases g4 : n = ag
    · rw [if_pos g4] at hM
      subst hM g4
      refine zgo2 ?_
      exact zfin
    rw [if_neg g4] at hM
    by_cases g5 : ag ≠ 0
    · rw [if_pos g5] at hM
      subst hM
      refine zgo2 ?_
      exact zfin
    rw [if_neg g5] at hM
    have g6 : ag = 0 := by omega
    subst g6
    have c9 := sstore_p d sp (repV ⟨sz, sp, dt, ep, ap, n⟩) (repV_len31 _) hs h2 hk
    have c8 := value_f ⟨sz, sp, dt, ep, ap, n⟩
    clear hk
    generalize storeE d sp (repV ⟨sz, sp, dt, ep, ap, n⟩) = F at *
    obtain ⟨F1, F2⟩ := F
    simp only [] at *
    generalize repV ⟨sz, sp, dt, ep, ap, n⟩ = V at *
    unfold encD encR at *
    by_cases g9 : F2 = 0
    · rw [if_pos g9] at hM
      subst hM g9
      refine zgo2 ?_
      refine zin Tryz.func84 Tryz.ntmps84 ?_
      refine zgo2 ?_
      exact zfin2
    · rw [if_neg g9] at hM
      subst hM
      refine zgo2 ?_
      refine zin Tryz.func84 Tryz.ntmps84 ?_
      refine zgo2 ?_
      exact zfin
  · rw [if_neg g1] at hM
    subst hM
    refine zgo2 ?_
    exact zfin
theorem end_pp (d : Dsk) (r : Rep) (hl : r.sizes.length ≤ 1000000) (hs : d.st.length ≤ 1000000) (h2 : d.ca.length ≤ 1000000) (hk : ∀ s ∈ newL d.st d.ca, SecOK s) : PC 30 [.agg (encD d), .agg (encR r)] (ansV (endE d r)) := by
  refine pstart Tryz.func30 Tryz.ntmps30 (by simp only [go_sem, encR]) ?_
  have c1 := check_p r hl
  have c4 := cloneI_p r.sizes hl
  have c7 := failed_p
  obtain ⟨M, hM⟩ : ∃ M, endE d r = M := ⟨_, rfl⟩
  rw [hM]
  unfold endE stE at hM
  obtain ⟨sz, sp, dt, ep, ap, ag⟩ := r
  unfold encR at c1
  unfold rep0 encR at c7
  unfold rep0 at hM
  unfold ansV encR
  simp only [] at *
  refine zgo2 ?_
  refine zin Tryz.func47 Tryz.ntmps47 ?_
  refine zgo2 ?_
  refine zin Tryz.func82 Tryz.ntmps82 ?_
  by_cases g1 : repE ⟨sz, sp, dt, ep, ap, ag⟩ = 0
  · rw [if_pos g1] at hM
    rw [g1] at c1
    refine zgo2 ?_
    refine zin Tryz.func86 Tryz.ntmps86 ?_
    by_cases g2 : ag = 0
    · rw [if_pos g2] at hM
      subst hM g2
      refine zgo2 ?_
      exact zfin
    rw [if_neg g2] at hM
    have c9 := sstore_p d sp (repV ⟨sz, sp, dt, ep, ag, 0⟩) (repV_len31 _) hs h2 hk
    have c8 := value_f ⟨sz, sp, dt, ep, ag, 0⟩
    clear hk
    generalize storeE d sp (repV ⟨sz, sp, dt, ep, ag, 0⟩) = F at *
    obtain ⟨F1, F2⟩ := F
    simp only [] at *
    generalize repV ⟨sz, sp, dt, ep, ag, 0⟩ = V at *
    unfold encD encR at *
    by_cases g9 : F2 = 0
    · rw [if_pos g9] at hM
      subst hM g9
      refine zgo2 ?_
      refine zin Tryz.func84 Tryz.ntmps84 ?_
      refine zgo2 ?_
      exact zfin2
    · rw [if_neg g9] at hM
      subst hM
      refine zgo2 ?_
      refine zin Tryz.func84 Tryz.ntmps84 ?_
      refine zgo2 ?_
      exact zfin
  · rw [if_neg g1] at hM
    subst hM
    refine zgo2 ?_
    exact zfin
theorem raise_p (d : Dsk) (r : Rep) (n : Int) (hl : r.sizes.length ≤ 1000000) (hs : d.st.length ≤ 1000000) (h2 : d.ca.length ≤ 1000000) (hk : ∀ s ∈ newL d.st d.ca, SecOK s) : PC 32 [.agg (encD d), .agg (encR r), zV n] (ansV (raiseE d r n)) := by
  refine pstart Tryz.func32 Tryz.ntmps32 (by simp only [go_sem, encR]) ?_
  have c1 := check_p r hl
  have c4 := cloneI_p r.sizes hl
  have c7 := failed_p
  obtain ⟨M, hM⟩ : ∃ M, raiseE d r n = M := ⟨_, rfl⟩
  rw [hM]
  unfold raiseE stE at hM
  obtain ⟨sz, sp, dt, ep, ap, ag⟩ := r
  unfold encR at c1
  unfold rep0 encR at c7
  unfold rep0 at hM
  unfold ansV encR
  simp only [] at *
  refine zgo2 ?_
  refine zin Tryz.func47 Tryz.ntmps47 ?_
  refine zgo2 ?_
  refine zin Tryz.func82 Tryz.ntmps82 ?_
  by_cases g1 : repE ⟨sz, sp, dt, ep, ap, ag⟩ = 0
  · rw [if_pos g1] at hM
    rw [g1] at c1
    refine zgo2 ?_
    refine zin Tryz.func87 Tryz.ntmps87 ?_
    by_cases g2 : n < ep
    · rw [if_pos g2] at hM
      subst hM
      refine zgo2 ?_
      exact zfin
    rw [if_neg g2] at hM
    by_cases g3 : 1073741824 < n
    · rw [if_pos g3] at hM
      subst hM
      refine zgo2 ?_
      exact zfin
    rw [if_neg g3] at hM
    by_cases g4 : n = ep
    · rw [if_pos g4] at hM
      subst hM g4
      refine zgo2 ?_
      exact zfin
    rw [if_neg g4] at hM
    have c9 := sstore_p d sp (repV ⟨sz, sp, dt, n, ap, ag⟩) (repV_len31 _) hs h2 hk
    have c8 := value_f ⟨sz, sp, dt, n, ap, ag⟩
    clear hk
    generalize storeE d sp (repV ⟨sz, sp, dt, n, ap, ag⟩) = F at *
    obtain ⟨F1, F2⟩ := F
    simp only [] at *
    generalize repV ⟨sz, sp, dt, n, ap, ag⟩ = V at *
    unfold encD encR at *
    by_cases g9 : F2 = 0
    · rw [if_pos g9] at hM
      subst hM g9
      refine zgo2 ?_
      refine zin Tryz.func84 Tryz.ntmps84 ?_
      refine zgo2 ?_
      exact zfin2
    · rw [if_neg g9] at hM
      subst hM
      refine zgo2 ?_
      refine zin Tryz.func84 Tryz.ntmps84 ?_
      refine zgo2 ?_
      exact zfin
  · rw [if_neg g1] at hM
    subst hM
    refine zgo2 ?_
    exact zfin
theorem begin_t (d : Dsk) (r : Rep) (n : Int) (hl : r.sizes.length ≤ 1000000) (hs : d.st.length ≤ 1000000) (h2 : d.ca.length ≤ 1000000) (hk : ∀ s ∈ newL d.st d.ca, SecOK s)
    (g1 : repE r = 0) (g2 : ¬ n ≤ r.applied) (g3 : ¬ 1073741824 < n) (g4 : n ≠ r.applying) (g6 : r.applying = 0) (g7 : (storeE d r.super (repV ⟨r.sizes, r.super, r.data, r.epoch, r.applied, n⟩)).2 = 0) :
    TOCall Tryz.prog 28 [.agg (encD d), .agg (encR r), zV n] (.tup [.agg (encR ⟨r.sizes, r.super, r.data, r.epoch, r.applied, n⟩), .own 0 0 2, zV 0]) 94 3 (encL opRow (storeE d r.super (repV ⟨r.sizes, r.super, r.data, r.epoch, r.applied, n⟩)).1) := by
  refine tstart2 Tryz.func28 Tryz.ntmps28 (by simp only [go_sem, encR, encD]) (okO_trip _ (rep_noId _) _ _) (op_noIds _) ?_
  have c1 := check_p r hl
  have c4 := cloneI_p r.sizes hl
  have c9 := sstore_t d r.super (repV ⟨r.sizes, r.super, r.data, r.epoch, r.applied, n⟩) hs h2 hk g7
  have c8 := value_f ⟨r.sizes, r.super, r.data, r.epoch, r.applied, n⟩
  rw [g1] at c1
  clear hk g7
  obtain ⟨sz, sp, dt, ep, ap, ag⟩ := r
  simp only [] at *
  generalize storeE d sp (repV ⟨sz, sp, dt, ep, ap, n⟩) = F at *
  obtain ⟨F1, F2⟩ := F
  simp only [] at *
  generalize repV ⟨sz, sp, dt, ep, ap, n⟩ = V at *
  unfold encR encD at *
  clear g1
  subst g6
  refine zgo2 ?_
  refine zin Tryz.func47 Tryz.ntmps47 ?_
  refine zgo2 ?_
  refine zin Tryz.func82 Tryz.ntmps82 ?_
  refine zgo2 ?_
  refine zin Tryz.func83 Tryz.ntmps83 ?_
  refine zgo2 ?_
  refine zin Tryz.func84 Tryz.ntmps84 ?_
  refine zgo2 ?_
  refine ⟨_, rfl, _, ?_, wkr_refl _⟩
  exact zeq
end Go.Proofs.YtkghiceeegindaaGreatDoor
