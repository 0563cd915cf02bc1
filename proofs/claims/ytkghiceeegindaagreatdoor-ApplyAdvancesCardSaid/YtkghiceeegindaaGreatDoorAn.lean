/- Apply: contracts of its functions (An). No condition but those named. -/
import Derived.Test.YtkghiceeegindaaGreatDoorAm
import Derived.Test.YtkghiceeegindaaGreatDoorAl
import Derived.Test.YtkghiceeegindaaGreatDoorLe
namespace Go.Proofs.YtkghiceeegindaaGreatDoor
open Go.Proofs Go.AL
set_option maxRecDepth 100000
set_option linter.unusedVariables false
set_option linter.unusedSimpArgs false
def PH (K : Int) (r : Rep) (D G : List Sec) (d : Dsk) : Prop := ∃ A B, d = ⟨A ++ (B ++ (D ++ G)), []⟩ ∧ SBx A B (repV r) K
theorem PH.mono {K L : Int} {r : Rep} {D G : List Sec} {d : Dsk} (h : PH K r D G d) (hl : K ≤ L) : PH L r D G d := by
  obtain ⟨A, B, h1, h2⟩ := h
  exact ⟨A, B, h1, h2.mono hl⟩
theorem SBx.lens {A B : List Sec} {p : List Int} {K : Int} (h : SBx A B p K) : A.length = 8 ∧ B.length = 8 := ⟨h.elim (·.lX) (·.lY), h.elim (·.lY) (·.lX)⟩
theorem PH.dsk {K : Int} {r : Rep} {D G : List Sec} {d : Dsk} (h : PH K r D G d) (hl : 16 + D.length + G.length ≤ 4096) : dskE d = 0 ∧ d.st.length = 16 + D.length + G.length ∧ d.ca = [] := by
  obtain ⟨A, B, rfl, h2⟩ := h
  obtain ⟨lA, lB⟩ := h2.lens
  exact ⟨dsk_st lA lB (by simp only [List.length_append]; omega), by simp only [List.length_append]; omega, rfl⟩
theorem repE_inv {r : Rep} (h : repE r = 0) : layE r.sizes r.super r.data = 0 ∧ timeB r.epoch = true ∧ timeB r.applied = true ∧ timeB r.applying = true ∧ ¬(r.applying ≠ 0 ∧ r.applying ≤ r.applied) := by
  have h1 := repE_ok h
  unfold repE at h
  rw [if_pos h1] at h
  by_cases g : timeB r.epoch = true ∧ timeB r.applied = true ∧ timeB r.applying = true
  · rw [if_pos g] at h
    by_cases g2 : r.applying ≠ 0 ∧ r.applying ≤ r.applied
    · rw [if_pos g2] at h; exact absurd h (by decide)
    · exact ⟨h1, g.1, g.2.1, g.2.2, g2⟩
  · rw [if_neg g] at h; exact absurd h (by decide)
theorem repE_mk {r : Rep} (h1 : layE r.sizes r.super r.data = 0) (h2 : timeB r.epoch = true) (h3 : timeB r.applied = true) (h4 : timeB r.applying = true) (h5 : ¬(r.applying ≠ 0 ∧ r.applying ≤ r.applied)) : repE r = 0 := by
  unfold repE
  rw [if_pos h1, if_pos ⟨h2, h3, h4⟩, if_neg h5]
theorem timeB_in {n : Int} (h0 : 0 ≤ n) (h1 : n ≤ 1073741824) : timeB n = true := by
  simp only [timeB, Bool.and_eq_true, decide_eq_true_eq]; exact ⟨h0, h1⟩
theorem timeB_rng {n : Int} (h : timeB n = true) : 0 ≤ n ∧ n ≤ 1073741824 := by
  simpa only [timeB, Bool.and_eq_true, decide_eq_true_eq] using h
theorem st_path {K : Int} {r q : Rep} {D G : List Sec} {d : Dsk} (hp : PH K r D G d) (hs : q.super = 0) (hl : 16 + D.length + G.length ≤ 4096) (hK : K + 1 < 4294967296) :
    ∃ ops d2, stE d q = (q, ops, 0) ∧ ops.length = 2 ∧ ru ops d = some d2 ∧ PH (K + 1) q D G d2 ∧ Path (fun e => PH (K + 1) r D G e ∨ PH (K + 1) q D G e) ops d := by
  obtain ⟨A, B, rfl, h2⟩ := hp
  obtain ⟨ops, A2, B2, q1, q2, q3, q4, q5⟩ := store_path (R := D ++ G) (q := repV q) h2 (by simp only [List.length_append]; omega) hK (repV_len31 q) (repV_ok q)
  refine ⟨ops, _, ?_, q2, q3, ⟨A2, B2, rfl, q4⟩, q5.mono fun e ⟨A', B', h1, h3⟩ => h3.elim (fun h3 => .inl ⟨A', B', h1, h3⟩) fun h3 => .inr ⟨A', B', h1, h3⟩⟩
  unfold stE
  rw [hs, q1, if_pos rfl]
def midR (r : Rep) (n : Int) : Rep := ⟨r.sizes, r.super, r.data, r.epoch, r.applied, n⟩
def finR (r : Rep) (n : Int) : Rep := ⟨r.sizes, r.super, r.data, r.epoch, n, 0⟩
theorem apply_path {K : Int} {r : Rep} {c : Cyc} {D D2 G : List Sec} {d : Dsk} (hs : r.super = 0) (hd : r.data = 16) (hr : repE r = 0) (hc : cycE c r.sizes = 0) (hb : c.base ≤ r.applied) (hn : r.applied < c.number) (ha : r.applying = 0 ∨ r.applying = c.number)
    (hp : PH K r D G d) (hR : Reach r c.writes D D2) (hl : 16 + D.length + G.length ≤ 4096) (hK : K + 2 < 4294967296) :
    ∃ ops d2, applyE d r c = (finR r c.number, ops, 0) ∧ ops.length ≤ c.writes.length + 5 ∧ ru ops d = some d2 ∧ PH (K + 2) (finR r c.number) D2 G d2 ∧
      Path (fun e => PH (K + 2) r D G e ∨ (∃ D', PH (K + 2) (midR r c.number) D' G e ∧ Reach r c.writes D' D2) ∨ PH (K + 2) (finR r c.number) D2 G e) ops d := by
  obtain ⟨y1, y2, y3, y4, y5⟩ := cycE_ok hc
  obtain ⟨x1, x2, x3, x4, x5⟩ := repE_inv hr
  have x3' := timeB_rng x3
  have hmid : repE (midR r c.number) = 0 := repE_mk (r := midR r c.number) x1 x2 x3 (timeB_in (show 0 ≤ c.number by omega) y4) (by show ¬(c.number ≠ 0 ∧ c.number ≤ r.applied); omega)
  obtain ⟨o1, d1, a1, a2, a3, a4, a5⟩ : ∃ o1 d1, beginE d r c.number = (midR r c.number, o1, 0) ∧ o1.length ≤ 2 ∧ ru o1 d = some d1 ∧ PH (K + 1) (midR r c.number) D G d1 ∧ Path (fun e => PH (K + 1) r D G e ∨ PH (K + 1) (midR r c.number) D G e) o1 d := by
    by_cases g : c.number = r.applying
    · have e : midR r c.number = r := by rw [g]; rfl
      refine ⟨[], d, ?_, by decide, rfl, by rw [e]; exact hp.mono (by omega), fun k hk => ?_⟩
      · unfold beginE
        rw [if_pos hr, if_neg (by omega), if_neg (by omega), if_pos g, e]
      · obtain rfl : k = 0 := by simpa using hk
        refine ⟨d, rfl, fun c => .inl ?_⟩
        obtain ⟨h1, h2, h3⟩ := hp.dsk hl
        obtain ⟨st, ca⟩ := d
        obtain rfl : ca = [] := h3
        rw [crash_clean h1]
        exact hp.mono (by omega)
    · have g0 : r.applying = 0 := ha.resolve_right fun e => g e.symm
      obtain ⟨ops, d2, q1, q2, q3, q4, q5⟩ := st_path (q := midR r c.number) hp hs hl (by omega)
      refine ⟨ops, d2, ?_, by omega, q3, q4, q5⟩
      unfold beginE
      rw [if_pos hr, if_neg (by omega), if_neg (by omega), if_neg g, if_neg (by omega)]
      exact q1
  have hcp : copyE (midR r c.number) c = (c.writes.map (copyO r) ++ [(1, 0, [])], 0) := by
    unfold copyE
    rw [if_pos hmid]
    have e : cycE c (midR r c.number).sizes = 0 := hc
    rw [if_pos e, if_neg (show ¬ (midR r c.number).applying ≠ c.number from fun h => h rfl), if_neg (show ¬ (midR r c.number).applied < c.base from fun h => absurd hb (Int.not_le.2 h))]
    rfl
  obtain ⟨A, B, rfl, a4'⟩ := a4
  obtain ⟨lA, lB⟩ := a4'.lens
  obtain ⟨b1, b2⟩ := data_path (P := A ++ B) (Q := G) hr y5 hR (by simp only [List.length_append]; omega) (by simp only [List.length_append]; omega)
  rw [List.append_assoc] at b1 b2
  rw [List.append_assoc] at b1
  have hp2 : PH (K + 1) (midR r c.number) D2 G ⟨A ++ (B ++ (D2 ++ G)), []⟩ := ⟨A, B, rfl, a4'⟩
  have hlD := hR.2.1
  obtain ⟨o3, d3, c1, c2, c3, c4, c5⟩ := st_path (q := finR r c.number) hp2 hs (by omega) (by omega)
  have he : endE ⟨A ++ (B ++ (D2 ++ G)), []⟩ (midR r c.number) = (finR r c.number, o3, 0) := by
    unfold endE
    rw [if_pos hmid, if_neg (show ¬ (midR r c.number).applying = 0 from fun h => by have h : c.number = 0 := h; omega)]
    exact c1
  obtain ⟨z1, z2, z3⟩ := hp.dsk hl
  have r1 : ru (o1 ++ (c.writes.map (copyO r) ++ [(1, 0, [])])) d = some ⟨A ++ (B ++ (D2 ++ G)), []⟩ := by rw [ru_app _ _ _ _ a3]; exact b1
  refine ⟨(o1 ++ (c.writes.map (copyO r) ++ [(1, 0, [])])) ++ o3, d3, ?_, ?_, ?_, ?_, ?_⟩
  · rw [applyE_join, a1]
    simp only []
    rw [hcp]
    simp only []
    rw [ru_run z1 r1]
    simp only []
    rw [he]
    simp only [joinE, if_true]
  · simp only [List.length_append, List.length_map, List.length_cons, List.length_nil]; omega
  · rw [ru_app _ _ _ _ r1]; exact c3
  · exact c4.mono (by omega)
  · refine Path.app r1 (Path.app a3 ?_ ?_) ?_
    · exact a5.mono fun e h => h.elim (fun h => .inl (h.mono (by omega))) fun h => .inr (.inl ⟨D, h.mono (by omega), hR⟩)
    · exact b2.mono fun e ⟨D', h1, h2⟩ => .inr (.inl ⟨D', ⟨A, B, by rw [h1, List.append_assoc], a4'.mono (by omega)⟩, h2⟩)
    · exact c5.mono fun e h => h.elim (fun h => .inr (.inl ⟨D2, h.mono (by omega), hR.self⟩)) fun h => .inr (.inr (h.mono (by omega)))
theorem raise_path {K n : Int} {r : Rep} {D G : List Sec} {d : Dsk} (hs : r.super = 0) (hr : repE r = 0) (hn : r.epoch < n) (hn2 : n ≤ 1073741824) (hp : PH K r D G d) (hl : 16 + D.length + G.length ≤ 4096) (hK : K + 1 < 4294967296) :
    ∃ ops d2, raiseE d r n = (⟨r.sizes, r.super, r.data, n, r.applied, r.applying⟩, ops, 0) ∧ ops.length = 2 ∧ ru ops d = some d2 ∧ PH (K + 1) ⟨r.sizes, r.super, r.data, n, r.applied, r.applying⟩ D G d2 ∧
      Path (fun e => PH (K + 1) r D G e ∨ PH (K + 1) ⟨r.sizes, r.super, r.data, n, r.applied, r.applying⟩ D G e) ops d := by
  obtain ⟨ops, d2, q1, q2, q3, q4, q5⟩ := st_path (q := ⟨r.sizes, r.super, r.data, n, r.applied, r.applying⟩) hp hs hl hK
  refine ⟨ops, d2, ?_, q2, q3, q4, q5⟩
  unfold raiseE
  rw [if_pos hr, if_neg (by omega), if_neg (by omega), if_neg (by omega)]
  exact q1
theorem load_st {K : Int} {r : Rep} {D G : List Sec} {d : Dsk} (hs : r.super = 0) (hd : r.data = 16) (hr : repE r = 0) (hp : PH K r D G d) (hD : (D.length : Int) = sum r.sizes) (hl : 16 + D.length + G.length ≤ 4096) : loadE d r.sizes 0 16 = (r, 0) := by
  obtain ⟨x1, x2, x3, x4, x5⟩ := repE_inv hr
  obtain ⟨z1, z2, z3⟩ := hp.dsk hl
  obtain ⟨A, B, rfl, h2⟩ := hp
  obtain ⟨i, g, hf, _⟩ := find_st (R := D ++ G) h2 (by simp only [List.length_append]; omega)
  have e : (⟨r.sizes, 0, 16, r.epoch, r.applied, r.applying⟩ : Rep) = r := by
    obtain ⟨a, b, c, e, f, g⟩ := r
    simp only at hs hd
    subst hs; subst hd; rfl
  rw [hs, hd] at x1
  unfold loadE
  rw [if_pos x1, hf]
  simp only []
  rw [if_pos trivial, if_neg (by simp only [] at z2; omega), nums_rep x2 x3 x4]
  simp only []
  rw [if_pos trivial, e, if_pos hr]
theorem img_st {K : Int} {r : Rep} {im : List (List Sec)} {G : List Sec} {d : Dsk} (hd : r.data = 16) (hr : repE r = 0) (h0 : r.applying = 0) (hp : PH K r im.flatten G d) (hi : szOf im = r.sizes) (hl : 16 + im.flatten.length + G.length ≤ 4096) : imgE d r = (im, 0) := by
  obtain ⟨z1, z2, z3⟩ := hp.dsk hl
  have hsum := sum_sz im
  rw [hi] at hsum
  have hlen : im.length = r.sizes.length := by rw [← hi]; simp [szOf]
  unfold imgE
  rw [if_pos hr, if_pos z1, if_neg (by omega), if_neg (by omega)]
  have e : volsE d r r.sizes.length = im := by
    refine List.ext_getElem (by rw [volsE_len]; exact hlen.symm) fun v h1 h2 => ?_
    have hv : v < r.sizes.length := by omega
    simp only [volsE, List.getElem_map, List.getElem_range]
    unfold volE
    have hb := vol_ok hr z1 (by omega) hv
    have hpl := placeE_in hr (Nat.le_of_lt hv)
    have hsz : r.sizes.getD v 0 = (im[v].length : Int) := by rw [← hi]; simp [szOf, h2]
    have hoff : sum (r.sizes.take v) = ((im.take v).flatten.length : Int) := by rw [← hi, ← szOf_take, sum_sz]
    unfold readE at hb ⊢
    rw [if_pos z1] at hb ⊢
    by_cases g : placeE r v < 0 ∨ r.sizes.getD v 0 < 0 ∨ (d.st.length : Int) < r.sizes.getD v 0 ∨ (d.st.length : Int) - r.sizes.getD v 0 < placeE r v
    · rw [if_pos g] at hb; exact absurd hb (by decide)
    · rw [if_neg g]
      simp only []
      rw [hpl, hd, hoff, hsz, Int.toNat_natCast]
      obtain ⟨A, B, rfl, h4⟩ := hp
      obtain ⟨lA, lB⟩ := h4.lens
      show (List.drop _ (newL (A ++ (B ++ (im.flatten ++ G))) [])).take _ = _
      have e1 : newL (A ++ (B ++ (im.flatten ++ G))) [] = (A ++ B ++ (im.take v).flatten) ++ (im[v] ++ ((im.drop (v + 1)).flatten ++ G)) := by
        show A ++ (B ++ (im.flatten ++ G)) = _
        have e3 : im.flatten = (im.take v).flatten ++ (im[v] ++ (im.drop (v + 1)).flatten) := by
          have h := congrArg List.flatten (List.take_append_drop v im)
          rw [List.drop_eq_getElem_cons h2] at h
          rw [← h, List.flatten_append, List.flatten_cons]
        rw [e3]
        simp only [List.append_assoc]
      have e2 : (16 + ((im.take v).flatten.length : Int)).toNat = (A ++ B ++ (im.take v).flatten).length := by
        simp only [List.length_append]; omega
      rw [e1, e2, List.drop_left, List.take_left]
  rw [e]
end Go.Proofs.YtkghiceeegindaaGreatDoor
namespace Go.Proofs.YtkghiceeegindaaGreatDoor
open Go.Proofs Go.AL
set_option maxRecDepth 100000
set_option linter.unusedVariables false
set_option linter.unusedSimpArgs false
theorem ru_w {st : List Sec} {ca : List (Int × Sec)} {n : Nat} {l : List Sec} {r : List Opr} {a : Int} (ha : a = (n : Int)) (h : n + l.length ≤ st.length) : ru ((0, a, l) :: r) ⟨st, ca⟩ = ru r ⟨st, ca ++ putC a l⟩ := by
  subst ha
  have hi : insB ⟨st, ca⟩ (n : Int) l.length = true := by
    unfold insB
    simp only [Bool.and_eq_true, decide_eq_true_eq]; omega
  conv => lhs; unfold ru
  simp only [if_true, hi]
theorem ru_s {st : List Sec} {ca : List (Int × Sec)} {r : List Opr} : ru ((1, 0, []) :: r) ⟨st, ca⟩ = ru r ⟨newL st ca, []⟩ := by
  conv => lhs; unfold ru
  simp only [if_true]
  rfl
theorem zeros_flat : ∀ l : List Int, (∀ x ∈ l, 1 ≤ x ∧ x ≤ 4096) → (l.map zeros).flatten = List.replicate (sum l).toNat zSec ∧ szOf (l.map zeros) = l
  | [], _ => ⟨rfl, rfl⟩
  | x :: l, h => by
    obtain ⟨h1, h2⟩ := zeros_flat l fun y hy => h y (by simp [hy])
    have hx := h x (by simp)
    have hs := sum_nonneg (l := l) fun y hy => (h y (by simp [hy])).1
    refine ⟨?_, ?_⟩
    · rw [List.map_cons, List.flatten_cons, h1, sum_cons]
      unfold zeros
      rw [List.replicate_append_replicate]
      congr 1; omega
    · show ((zeros x).length : Int) :: szOf (l.map zeros) = _
      rw [h2]
      unfold zeros
      rw [List.length_replicate]
      congr 1; omega
def rep1 (l : List Int) : Rep := ⟨l, 0, 16, 1, 0, 0⟩
theorem begin_st {l : List Int} (h : sizesE l = 0) (hs : sum l ≤ 400) : ∃ ops d, fmtE l 0 16 1 = (rep1 l, ops, 0) ∧ ops.length = 6 ∧ ru ((0, 16 + sum l, [s7, s8]) :: ops) ⟨zeros (18 + sum l), []⟩ = some d ∧ PH 1 (rep1 l) (newIm l).flatten [s7, s8] d ∧ repE (rep1 l) = 0 ∧ szOf (newIm l) = l ∧ OpsOK ops := by
  obtain ⟨z1, z2, z3⟩ := sizes_ok h
  have hn := sum_nonneg (l := l) fun y hy => (z3 y hy).1
  obtain ⟨T, hT⟩ := Int.eq_ofNat_of_zero_le hn
  obtain ⟨f1, f2⟩ := zeros_flat l z3
  have hlay : layE l 0 16 = 0 := by
    unfold layE
    rw [if_pos h, if_neg (by omega), if_neg (by omega)]
  have hp := repV_len31 (rep1 l)
  have hsb : sbFmt 0 (repV (rep1 l)) = ([(0, 0, zs16), (1, 0, []), (0, 0, putS 1 (repV (rep1 l))), (1, 0, [])], 0) := by
    unfold sbFmt
    rw [if_neg (by omega), if_neg (by omega)]
  have hr : repE (rep1 l) = 0 := repE_mk (r := rep1 l) hlay rfl rfl rfl (by show ¬((0 : Int) ≠ 0 ∧ (0 : Int) ≤ 0); omega)
  have hf : fmtE l 0 16 1 = (rep1 l, [(0, 16, zeros (sum l)), (1, 0, [])] ++ [(0, 0, zs16), (1, 0, []), (0, 0, putS 1 (repV (rep1 l))), (1, 0, [])], 0) := by
    unfold fmtE
    rw [if_pos hlay, if_pos (by rfl)]
    show (if (sbFmt 0 (repV (rep1 l))).2 = 0 then _ else _) = _
    rw [hsb, if_pos rfl]
    show (rep1 l, [(0, 16, zeros (sum l)), (1, 0, [])] ++ (sbFmt 0 (repV (rep1 l))).1, 0) = _
    rw [hsb]
  have hpo := putS_ok 1 (repV_ok (rep1 l)) (by omega)
  have hnew : newIm l = l.map zeros := by unfold newIm; rw [if_pos h]
  rw [hT] at hf
  rw [hnew, f1, hT, Int.toNat_natCast, hf]
  generalize hN : putS 1 (repV (rep1 l)) = N at *
  have lN : N.length = 8 := by rw [← hN]; exact putS_len _ _
  have e0 : zeros (18 + (T : Int)) = (List.replicate 16 zSec ++ List.replicate T zSec) ++ (List.replicate 2 zSec ++ []) := by
    unfold zeros
    rw [List.append_nil, List.replicate_append_replicate, List.replicate_append_replicate]
    congr 1; omega
  have l0 : (List.replicate 16 zSec ++ List.replicate T zSec).length = 16 + T := by simp only [List.length_append, List.length_replicate]
  have e1 : newL (zeros (18 + (T : Int))) ([] ++ putC (16 + (T : Int)) [s7, s8] ++ putC 16 (zeros (T : Int))) = List.replicate 16 zSec ++ (List.replicate T zSec ++ [s7, s8]) := by
    rw [List.nil_append, newL_app, e0]
    have a1 := newL_over [s7, s8] (List.replicate 2 zSec) (List.replicate 16 zSec ++ List.replicate T zSec) [] rfl
    rw [l0] at a1
    rw [show (16 + (T : Int)) = ((16 + T : Nat) : Int) by omega, a1]
    have a2 := newL_over (List.replicate T zSec) (List.replicate T zSec) (List.replicate 16 zSec) [s7, s8] rfl
    have a3 : zeros (T : Int) = List.replicate T zSec := by unfold zeros; rw [Int.toNat_natCast]
    rw [a3, List.append_nil, List.append_assoc]
    exact a2
  have e2 : newL (List.replicate 16 zSec ++ (List.replicate T zSec ++ [s7, s8])) ([] ++ putC 0 zs16) = List.replicate 16 zSec ++ (List.replicate T zSec ++ [s7, s8]) := newL_over zs16 (List.replicate 16 zSec) [] _ rfl
  have e3 : newL (List.replicate 16 zSec ++ (List.replicate T zSec ++ [s7, s8])) ([] ++ putC 0 N) = N ++ (List.replicate 8 zSec ++ (List.replicate T zSec ++ [s7, s8])) := by
    have := newL_over N (List.replicate 8 zSec) [] (List.replicate 8 zSec ++ (List.replicate T zSec ++ [s7, s8])) (by rw [lN]; rfl)
    exact this
  have lz : (zeros (18 + (T : Int))).length = 18 + T := by rw [e0]; simp; omega
  refine ⟨_, ⟨N ++ (List.replicate 8 zSec ++ (List.replicate T zSec ++ [s7, s8])), []⟩, rfl, rfl, ?_, ?_, hr, f2, ?_⟩
  · have lzT : (zeros (T : Int)).length = T := by unfold zeros; rw [List.length_replicate]; omega
    rw [ru_w (st := zeros (18 + (T : Int))) (l := [s7, s8]) (n := 16 + T) (by omega) (by rw [lz]; simp only [List.length_cons, List.length_nil]; omega)]
    simp only [List.cons_append, List.nil_append]
    rw [ru_w (st := zeros (18 + (T : Int))) (l := zeros (T : Int)) (a := 16) (n := 16) rfl (by rw [lz, lzT]; omega), ru_s]
    rw [List.nil_append] at e1 e2 e3
    rw [e1, ru_w (st := List.replicate 16 zSec ++ (List.replicate T zSec ++ [s7, s8])) (l := zs16) (a := 0) (n := 0) rfl (by simp only [zs16, List.length_append, List.length_replicate]; omega), ru_s]
    rw [List.nil_append, e2, ru_w (st := List.replicate 16 zSec ++ (List.replicate T zSec ++ [s7, s8])) (l := N) (a := 0) (n := 0) rfl (by simp only [lN, List.length_append, List.length_replicate]; omega), ru_s, List.nil_append, e3]
    rfl
  · refine ⟨N, List.replicate 8 zSec, rfl, .inl ⟨lN, rfl, ?_, ?_, ?_, ?_, 1, by decide, ?_, by decide⟩⟩
    · exact hpo
    · intro s hs
      rw [(List.mem_replicate.1 hs).2]; exact secOK_zero
    · intro s hs
      rw [← hN] at hs
      rw [genS_put (by decide) (by decide) _ s hs]; decide
    · intro s hs
      rw [(List.mem_replicate.1 hs).2]; decide
    · rw [← hN]; exact parse_put (by decide) (by decide) (by omega)
  · intro o ho s hs
    simp only [List.cons_append, List.nil_append, List.mem_cons, List.not_mem_nil, or_false] at ho
    rcases ho with rfl | rfl | rfl | rfl | rfl | rfl
    · rw [List.eq_of_mem_replicate hs]; exact secOK_zero
    · simp at hs
    · rw [List.eq_of_mem_replicate hs]; exact secOK_zero
    · simp at hs
    · exact hpo s hs
    · simp at hs
end Go.Proofs.YtkghiceeegindaaGreatDoor
namespace Go.Proofs.YtkghiceeegindaaGreatDoor
open Go.Proofs Go.AL
set_option maxRecDepth 100000
set_option maxHeartbeats 2000000
set_option linter.unusedVariables false
set_option linter.unusedSimpArgs false
attribute [local irreducible] endA AW aops thenA blockA hold
theorem new_big (l : List Int) (hl : l.length ≤ 9223372036854775807) : PC 36 [.snap (encL intRow l)] (.tup [.snap (encL volRow (newIm l)), zV (sizesE l)]) := by
  by_cases h8 : l.length ≤ 8
  · exact new_p l (by omega)
  have hs : sizesE l = 6 := by unfold sizesE; rw [if_pos (.inr (by omega))]
  have hn : newIm l = [] := by unfold newIm; rw [if_neg (by rw [hs]; decide)]
  rw [hs, hn]
  have c1 : PC 90 [.snap (encL intRow l)] (zV 6) := by
    refine pstart Tryz.func90 Tryz.ntmps90 (.c _) ?_
    clear hs hn
    refine zgo2 ?_
    exact zfin
  clear hs hn
  refine pstart Tryz.func36 Tryz.ntmps36 (by simp only [go_sem]) ?_
  refine zgo2 ?_
  simp only [encL_nil]
  exact zfin
def okL (im : List (List Sec)) (l : List Wrt) : Bool := fewW l && decide ((apE im l).2.2 = 0)
def rightB (p : Pln) : Bool := decide (sizesE p.sizes = 0) && (few7 (newIm p.sizes) && (decide (p.lists.length ≤ 8) && p.lists.all (okL (newIm p.sizes))))
theorem gLs (l : List (List Wrt)) (k : Nat) (h : k < l.length) : (encL wrsRow l)[k]? = some (wrsRow (l.getD k [])) := encL_get [] h
theorem right_p (p : Pln) (h1 : p.sizes.length ≤ 9223372036854775807) (h2 : p.lists.length ≤ 9223372036854775807) (h3 : ∀ l ∈ p.lists, l.length ≤ 9223372036854775807 ∧ ∀ w ∈ l, w.2.2.length ≤ 9223372036854775807) : PC 34 [.agg (encP p)] (bV (rightB p)) := by
  refine pstart Tryz.func34 Tryz.ntmps34 (.c _) ?_
  have c1 := new_big p.sizes h1
  obtain ⟨M, hM⟩ : ∃ M, rightB p = M := ⟨_, rfl⟩
  rw [hM]
  unfold rightB at hM
  obtain ⟨sz, ls⟩ := p
  unfold encP
  simp only [] at *
  by_cases g1 : sizesE sz = 0
  · rw [decide_eq_true g1, Bool.true_and] at hM
    obtain ⟨z1, z2, z3⟩ := sizes_ok g1
    have him : newIm sz = sz.map zeros := by unfold newIm; rw [if_pos g1]
    have hml : (newIm sz).length ≤ 8 := by rw [him, List.length_map]; exact z2
    have hmv : ∀ v ∈ newIm sz, v.length ≤ 4096 := fun v hv => by
      rw [him] at hv
      obtain ⟨x, hx, rfl⟩ := List.mem_map.1 hv
      have := z3 x hx
      unfold zeros
      rw [List.length_replicate]; omega
    have c2 := few7_p (newIm sz) (by unfold BIG; omega) fun v hv => by have := hmv v hv; unfold BIG; omega
    have c3 := fun l hl hw => iapply_p (newIm sz) l (by omega) (fun v hv => by have := hmv v hv; omega) hl hw
    rw [g1] at c1
    clear g1 him hml hmv z1 z2 z3
    generalize newIm sz = im at *
    cases g2 : few7 im
    · rw [g2, Bool.false_and] at hM
      rw [g2] at c2
      subst hM
      clear c3 h3 g2
      refine zgo2 ?_
      exact zfin
    · rw [g2, Bool.true_and] at hM
      rw [g2] at c2
      clear g2
      by_cases g3 : ls.length ≤ 8
      · rw [decide_eq_true g3, Bool.true_and] at hM
        have hM' := Lat.mk hM
        have h3' := Lat.mk h3
        have c3' := Lat.mk c3
        clear hM h3 c3
        refine zgo2 ?_
        refine zfor (α := Unit) ls.length (fun k _ => [(32, true, zV k), (31, true, zV ls.length), (30, true, .snap (encL wrsRow ls)), (3, true, .snap (encL volRow im))]) (fun _ _ => []) (fun k m _ => ∀ i, i < k → okL im (ls.getD i []) = true) ⟨1000, (), fun i hi => by omega, zholds⟩ (fun k m _ hk hR => ?_) (fun m _ hR => ?_)
        · have hR' := Lat.mk hR
          have hmem := getD_mem' [] hk
          have hgk : (encL wrsRow ls)[k]? = some [.snap (encL opRow (ls.getD k []))] := gLs ls k hk
          obtain ⟨q1, q2⟩ := h3'.out _ hmem
          have cf := fewW_p _ q1 q2
          have ca := c3'.out _ q2 q1
          have hok : okL im (ls.getD k []) = (fewW (ls.getD k []) && decide ((apE im (ls.getD k [])).2.2 = 0)) := rfl
          have hM2 : okL im (ls.getD k []) = false → M = false := fun h => by
            rw [← hM'.out, ← Bool.not_eq_true, List.all_eq_true]
            exact fun q => by have := q _ hmem; rw [h] at this; cases this
          have hM2' := Lat.mk hM2
          have hR2 : okL im (ls.getD k []) = true → ∀ i, i < k + 1 → okL im (ls.getD i []) = true := fun h i hi => by
            by_cases e : i = k
            · subst e; exact h
            · exact hR i (by omega)
          have hR2' := Lat.mk hR2
          clear hR hmem q1 q2 hM2 hR2
          generalize okL im (ls.getD k []) = ok at *
          generalize apE im (ls.getD k []) = A at *
          obtain ⟨A1, A2, A3⟩ := A
          simp only [] at *
          generalize fewW (ls.getD k []) = fw at *
          generalize ls.getD k [] = l at *
          cases fw
          · rw [Bool.false_and] at hok
            obtain rfl : M = false := hM2'.out hok
            clear hok
            refine zgo2 ?_
            exact zfin
          · rw [Bool.true_and] at hok
            by_cases g4 : A3 = 0
            · rw [decide_eq_true g4] at hok
              subst g4
              have hR3 := Lat.mk (hR2'.out hok)
              clear hok
              refine zgo2 ?_
              refine ⟨m + 40, (), hR3.out, zholds⟩
            · rw [decide_eq_false g4] at hok
              obtain rfl : M = false := hM2'.out hok
              clear hok
              refine zgo2 ?_
              exact zfin
        · have h9 : ls.all (okL im) = true := by
            rw [List.all_eq_true]
            intro x hx
            obtain ⟨i, hi, rfl⟩ := List.mem_iff_getElem.1 hx
            have := hR i hi
            rwa [List.getD_eq_getElem?_getD, List.getElem?_eq_getElem hi, Option.getD_some] at this
          obtain rfl : M = true := by rw [← hM'.out, h9]
          clear hR h9
          refine zgo2 ?_
          exact zfin
      · rw [decide_eq_false g3, Bool.false_and] at hM
        subst hM
        clear c3 h3
        refine zgo2 ?_
        exact zfin
  · rw [decide_eq_false g1, Bool.false_and] at hM
    subst hM
    generalize sizesE sz = e at *
    generalize newIm sz = im at *
    clear h3
    refine zgo2 ?_
    exact zfin
def cycO (p : Pln) (i : Nat) : Cyc := ⟨i, i + 1, i, [], foldE (p.lists.getD i [])⟩
theorem plancycle_p (p : Pln) (i : Nat) (hi : i < p.lists.length) (hl : p.lists.length ≤ 8) (h1 : ∀ w ∈ p.lists.getD i [], ∀ s ∈ w.2.2, SecOK s) (h2 : ∀ w ∈ p.lists.getD i [], plcE w = 0) (h3 : (p.lists.getD i []).length ≤ 1000) (h4 : ∀ w ∈ p.lists.getD i [], w.2.2.length ≤ 1000) :
    PC 37 [.agg (encP p), zV i] (.tup [.agg (encC (cycO p i)), bV true]) := by
  refine pstartD Tryz.func37 Tryz.ntmps37 (by simp only [go_sem, encC]) ?_
  have c1 := fold_p _ h1 h2 h3 h4
  have hgk : (encL wrsRow p.lists)[i]? = some [.snap (encL opRow (p.lists.getD i []))] := gLs p.lists i hi
  obtain ⟨sz, ls⟩ := p
  unfold encP encC cycO
  simp only [] at *
  clear h1 h2 h3 h4
  generalize foldE (ls.getD i []) = F at *
  generalize ls.getD i [] = l at *
  refine zgo2 ?_
  exact zfin2
theorem cap_p (im : List (List Sec)) (c : Cyc) (hc : cycE c (szOf im) = 0) (hv : ∀ v ∈ im, v.length ≤ 1000000) (hl : CycLen c) : PC 39 [.snap (encL volRow im), .agg (encC c)] (.tup [.snap (encL volRow (apE im c.writes).1), zV (apE im c.writes).2.2]) := by
  refine pstart Tryz.func39 Tryz.ntmps39 (by simp only [go_sem]) ?_
  obtain ⟨y1, y2, y3, y4, y5⟩ := cycE_ok hc
  obtain ⟨z1, z2, z3⟩ := sizes_ok y1
  have hsl : (szOf im).length = im.length := by simp [szOf]
  have c1 := icheck_p im (by omega)
  have c2 := cycheck_p c (szOf im) (by omega) hl
  have c3 := iapply_p im c.writes (by omega) hv (fun w hw => by have := hl.2.2 w hw; omega) (by have := hl.2.1; omega)
  rw [hc] at c2
  rw [y1] at c1
  obtain ⟨A1, A3⟩ : ∃ A, apE im c.writes = A := ⟨_, rfl⟩
  rw [A3] at c3 ⊢
  have hgv := gVol im
  obtain ⟨cb, cn, ct, cp, cw⟩ := c
  unfold encC at *
  simp only [] at *
  clear A3 hc hl y1 y2 y3 y4 y5 z3
  obtain ⟨B1, B2, B3⟩ := A1
  simp only [] at *
  refine zgo2 ?_
  have hv' := Lat.mk hv
  have c2' := Lat.mk c2
  clear hv c2
  refine zfor (α := AV × List (Nat × Option Blk)) im.length (fun k x => [(21, true, zV k), (20, true, zV im.length), (19, true, .snap (encL volRow im)), (7, true, x.1), (3, true, .ptr 0 0 0), (0, true, .snap (encL volRow im))]) (fun k x => (0, some (.cells 48 5 [[zV cb, zV cn, zV ct, .snap (encL intRow cp), .snap (encL opRow cw)]] true false)) :: x.2)
    (fun k m x => 1 ≤ m ∧ ((k = 0 ∧ x = (.c (.slice none 0 0), [])) ∨ ∃ id, 1 ≤ id ∧ id < m ∧ x = (.own id 0 k, [(id, some (.cells 3 1 (encL intRow ((szOf im).take k)) true true))]))) ⟨1, (.c (.slice none 0 0), []), ⟨Nat.le_refl _, .inl ⟨rfl, rfl⟩⟩, zholds⟩ (fun k m x hk hR => ?_) (fun m x hR => ?_)
  · obtain ⟨hm, hS⟩ := hR
    have hgk := hgv k hk
    have hvk := hv'.out _ (getD_mem' [] hk)
    have hsn : encL intRow ((szOf im).take k) ++ [[zV ((im.getD k []).length : Int)]] = encL intRow ((szOf im).take (k + 1)) := by
      rw [List.take_succ_eq_append_getElem (by omega)]
      rw [show (szOf im)[k]'(by omega) = ((im.getD k []).length : Int) by simp [szOf, hk]]
      exact encL_snoc _ _
    have hsn' := Lat.mk hsn
    have htl : (encL intRow ((szOf im).take k)).length = k := by rw [encL_len, List.length_take]; omega
    clear hgv hsn
    rcases hS with ⟨rfl, rfl⟩ | ⟨id, i1, i2, rfl⟩
    · have h00 : (szOf im).take 0 = [] := rfl
      rw [h00] at htl
      generalize im.getD 0 [] = V at *
      refine zgo2 ?_
      refine ⟨m + 40, (.own (m + 1) 0 1, [(m + 1, some (.cells 3 1 [[zV (V.length : Int)]] true true))]), ⟨by omega, .inr ⟨m + 1, by omega, by omega, by rw [← hsn'.out]; rfl⟩⟩, ?_⟩
      exact zholds
    · generalize im.getD k [] = V at *
      generalize encL intRow ((szOf im).take k) = T at *
      generalize encL intRow ((szOf im).take (k + 1)) = T2 at *
      refine zgo2 ?_
      refine ⟨m + 40, (.own (m + 1) 0 (k + 1), [(m + 1, some (.cells 3 1 (T ++ [[zV (V.length : Int)]]) true true))]), ⟨by omega, .inr ⟨m + 1, by omega, by omega, by rw [hsn'.out]⟩⟩, ?_⟩
      exact zholds
  · obtain ⟨hm, hS⟩ := hR
    have c2 := c2'.out
    rcases hS with ⟨hz, rfl⟩ | ⟨id, i1, i2, rfl⟩
    · omega
    · rw [List.take_of_length_le (by omega)]
      rw [← hsl]
      generalize szOf im = S at *
      clear hgv hsl
      refine zgo2 ?_
      exact zfin2
end Go.Proofs.YtkghiceeegindaaGreatDoor
namespace Go.Proofs.YtkghiceeegindaaGreatDoor
open Go.Proofs Go.AL
set_option maxRecDepth 100000
set_option maxHeartbeats 2000000
set_option linter.unusedVariables false
set_option linter.unusedSimpArgs false
attribute [local irreducible] endA AW aops thenA blockA hold
theorem plan_p (p : Pln) (ops : List Opr) (d : Dsk) (h : sizesE p.sizes = 0) (hs : sum p.sizes ≤ 400) (hf : fmtE p.sizes 0 16 1 = (rep1 p.sizes, ops, 0)) (ho : ops.length = 6) (hr : runE ⟨zeros (18 + sum p.sizes), []⟩ ((0, 16 + sum p.sizes, [s7, s8]) :: ops) = (d, 7, 0)) :
    PC 35 [.agg (encP p)] (.tup [.agg (encD d), .agg (encR (rep1 p.sizes)), bV true]) := by
  refine pstart Tryz.func35 Tryz.ntmps35 (by simp only [go_sem, encD, encR]) ?_
  obtain ⟨z1, z2, z3⟩ := sizes_ok h
  obtain ⟨su1, su2, su3⟩ := sum_ok h
  have c1 := format_p p.sizes 0 16 1 (by omega)
  have c2 := dnew_p (18 + sum p.sizes)
  have c3 := drun_p ⟨zeros (18 + sum p.sizes), []⟩ ((0, 16 + sum p.sizes, [s7, s8]) :: ops) (by unfold zeros; rw [List.length_replicate]; omega) (by show 0 + _ ≤ 900000; rw [List.length_cons, ho]; decide)
  have hne : newE2 (18 + sum p.sizes) = (⟨zeros (18 + sum p.sizes), []⟩, 0) := by unfold newE2; rw [if_neg (by omega)]
  rw [hf] at c1
  rw [hne] at c2
  rw [hr] at c3
  obtain ⟨sz, ls⟩ := p
  obtain ⟨dst, dca⟩ := d
  unfold encP
  unfold encD at *
  unfold rep1 at *
  unfold encR at *
  simp only [] at *
  have hpre : ∀ k, k < sz.length → sum (sz.take k) + sz.getD k 0 = sum (sz.take (k + 1)) ∧ 0 ≤ sum (sz.take k) ∧ sum (sz.take (k + 1)) ≤ 400 ∧ 0 ≤ sz.getD k 0 := fun k hk => by
    have e1 : sum (sz.take (k + 1)) = sum (sz.take k) + sz.getD k 0 := by
      rw [List.take_succ_eq_append_getElem hk, sum_app]
      simp [sum, hk]
    obtain ⟨t1, t2, t3⟩ := sum_take z3 hk
    exact ⟨e1.symm, t1, by omega, by omega⟩
  have hpre' := Lat.mk hpre
  have hgI := gI sz
  have hap : [[zV 0, zV (16 + sum sz), AV.snap (encL encSec [s7, s8])]] ++ encL opRow ops = encL opRow ((0, 16 + sum sz, [s7, s8]) :: ops) := rfl
  have hss : encL encSec [s7, s8] = [[uV 7, uV 0, uV 0, uV 0, uV 0, uV 0, uV 0, uV 0], [uV 8, uV 0, uV 0, uV 0, uV 0, uV 0, uV 0, uV 0]] := rfl
  have hss' := Lat.mk hss
  have hol : (encL opRow ops).length = 6 := by rw [encL_len, ho]
  have hl7 : (encL opRow ((0, 16 + sum sz, [s7, s8]) :: ops)).length = 7 := by rw [encL_len, List.length_cons, ho]
  rw [hss] at hap
  have hap' := Lat.mk hap
  clear hpre hf hr hne hss hap z3 su1 h
  generalize zeros (18 + sum sz) = Z at *
  generalize ((0, 16 + sum sz, [s7, s8]) :: ops : List Opr) = OPS at *
  have h7 : List.take 7 (encL opRow OPS) = encL opRow OPS := List.take_of_length_le (by omega)
  refine zgo2 ?_
  refine zfor (α := Int) sz.length (fun k x => [(26, true, zV k), (25, true, zV sz.length), (24, true, .snap (encL intRow sz)), (8, true, zV x), (7, true, zV 0), (6, true, .snap (encL opRow ops)), (5, true, .ptr 3 0 0), (3, true, .ptr 2 0 0), (2, true, .ptr 1 0 0)])
    (fun _ _ => [(1, some (.cells 25 2 [[.c (.slice none 0 0), .c (.slice none 0 0)]] true false)), (2, some (.cells 31 6 [[.c (.slice none 0 0), zV 0, zV 0, zV 0, zV 0, zV 0]] true false)), (3, some (.cells 31 6 [[.snap (encL intRow sz), zV 0, zV 16, zV 1, zV 0, zV 0]] true false))])
    (fun k m x => 5 ≤ m ∧ x = 18 + sum (sz.take k)) ⟨5, 18, ⟨Nat.le_refl _, rfl⟩, zholds⟩ (fun k m x hk hR => ?_) (fun m x hR => ?_)
  · obtain ⟨hm, hx⟩ := hR
    obtain ⟨q1, q2, q3, q4⟩ := hpre'.out k hk
    have hgk := hgI k hk
    have hx' := Lat.mk hx
    have q1' := Lat.mk q1
    have w1 : IntKind.i64.wrap (x + sz.getD k 0) = x + sz.getD k 0 := IntWalk.i64_in _ (by omega)
    clear hgI hx q1
    generalize sz.getD k 0 = y at *
    refine zgo2 ?_
    refine ⟨m + 40, x + y, ⟨by omega, by have := hx'.out; have := q1'.out; omega⟩, zholds⟩
  · obtain ⟨hm, hx⟩ := hR
    rw [List.take_of_length_le (Nat.le_refl _)] at hx
    subst hx
    have w1 : IntKind.i64.wrap (18 + sum sz - 2) = 16 + sum sz := by rw [IntWalk.i64_in _ (by omega)]; omega
    clear hgI
    have hz : encSec zSec = [uV 0, uV 0, uV 0, uV 0, uV 0, uV 0, uV 0, uV 0] := rfl
    refine zgo2 ?_
    refine aw_fz (m + 1 + 1) (m + 1 + 1 + 1) [[zV 0, zV (16 + sum sz), .snap [[uV 7, uV 0, uV 0, uV 0, uV 0, uV 0, uV 0, uV 0], [uV 8, uV 0, uV 0, uV 0, uV 0, uV 0, uV 0, uV 0]]]] zeq zeq (by omega) (fzlast (A := []) (d := [s7, s8]) rfl rfl) ?_
    refine aw_less (env := [(13, true, .ptr (m + 1 + 1 + 1) 0 0), (12, true, zV 0), (11, true, .ptr m 0 0), (7, true, zV 0), (6, true, .snap (encL opRow ops)), (5, true, .ptr 3 0 0), (3, true, .ptr 2 0 0), (2, true, .ptr 1 0 0)])
      (H := ⟨m + 5, tabG [(1, some (.cells 25 2 [[.c (.slice none 0 0), .c (.slice none 0 0)]] true false)), (2, some (.cells 31 6 [[.c (.slice none 0 0), zV 0, zV 0, zV 0, zV 0, zV 0]] true false)), (3, some (.cells 31 6 [[.snap (encL intRow sz), zV 0, zV 16, zV 1, zV 0, zV 0]] true false)),
        (m, some (.cells 25 2 [[.snap (encL encSec Z), .snap (encL encCa [])]] true false)), (m + 1 + 1 + 1, some (.cells 94 3 [[zV 0, zV (16 + sum sz), .snap [[uV 7, uV 0, uV 0, uV 0, uV 0, uV 0, uV 0, uV 0], [uV 8, uV 0, uV 0, uV 0, uV 0, uV 0, uV 0, uV 0]]]] true false))]⟩) zholds ?_
    have hap := hap'.out
    refine zdrawX ?_
    refine zgo2 ?_
    exact zfin2
end Go.Proofs.YtkghiceeegindaaGreatDoor
