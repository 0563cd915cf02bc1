/- Apply: contracts of its functions (Ao). No condition but those named. -/
import Derived.Test.YtkghiceeegindaaGreatDoorAn
namespace Go.Proofs.YtkghiceeegindaaGreatDoor
open Go.Proofs Go.AL
set_option maxRecDepth 100000
set_option linter.unusedVariables false
set_option linter.unusedSimpArgs false
structure Good (p : Pln) : Prop where
  sz : sizesE p.sizes = 0
  sm : sum p.sizes ≤ 192
  ll : p.lists.length ≤ 8
  ls : ∀ l ∈ p.lists, l.length ≤ 40 ∧ ∀ w ∈ l, w.2.2.length ≤ 24 ∧ fitE p.sizes w = 0 ∧ ∀ s ∈ w.2.2, SecOK s
theorem sum_le {l : List Int} (b : Int) (h : ∀ x ∈ l, x ≤ b) : sum l ≤ l.length * b := by
  induction l with
  | nil => simp [sum]
  | cons x l ih =>
    rw [sum_cons]
    have h1 := h x (by simp)
    have h2 := ih fun y hy => h y (by simp [hy])
    rw [List.length_cons]
    have e : (((l.length + 1 : Nat) : Int)) * b = l.length * b + b := by
      rw [Int.natCast_add, Int.add_mul]; simp
    rw [e]; omega
theorem fewW_all {l : List Wrt} (h : fewW l = true) : l.length ≤ 40 ∧ ∀ w ∈ l, w.2.2.length ≤ 24 := fewW_len h
theorem good_of {p : Pln} (h : rightB p = true) (hs : ∀ l ∈ p.lists, ∀ w ∈ l, ∀ s ∈ w.2.2, SecOK s) : Good p := by
  unfold rightB at h
  simp only [Bool.and_eq_true, decide_eq_true_eq, List.all_eq_true] at h
  obtain ⟨h1, h2, h3, h4⟩ := h
  obtain ⟨z1, z2, z3⟩ := sizes_ok h1
  have him : newIm p.sizes = p.sizes.map zeros := by unfold newIm; rw [if_pos h1]
  obtain ⟨f1, f2⟩ := zeros_flat p.sizes z3
  rw [him] at h2 h4
  refine ⟨h1, ?_, h3, fun l hl => ?_⟩
  · unfold few7 at h2
    simp only [Bool.and_eq_true, decide_eq_true_eq, Bool.not_eq_true', List.any_eq_false] at h2
    have h5 := sum_le (l := p.sizes) 24 fun x hx => by
      have := h2.2 (zeros x) (List.mem_map.2 ⟨x, hx, rfl⟩)
      unfold bigV zeros at this
      simp only [List.length_replicate, decide_eq_true_eq] at this
      have := z3 x hx
      omega
    have : (p.sizes.length : Int) * 24 ≤ 8 * 24 := Int.mul_le_mul_of_nonneg_right (by omega) (by decide)
    omega
  · have h5 := h4 l hl
    unfold okL at h5
    simp only [Bool.and_eq_true, decide_eq_true_eq] at h5
    obtain ⟨q1, q2⟩ := fewW_all h5.1
    have q3 : ∃ im2, apG l (p.sizes.map zeros) 0 = (im2, 0, 0) := by
      have h6 := h5.2
      unfold apE at h6
      rw [f2, if_pos h1] at h6
      have key : ∀ (ws : List Wrt) (im : List (List Sec)) (i : Nat), (apG ws im i).2.2 = 0 → ∃ im2, apG ws im i = (im2, 0, 0) := by
        intro ws
        induction ws with
        | nil => intro im i _; exact ⟨im, rfl⟩
        | cons w r ih =>
          intro im i hh
          unfold apG at hh ⊢
          by_cases g : fitE (szOf im) w = 0
          · rw [if_pos g] at hh ⊢; exact ih _ _ hh
          · rw [if_neg g] at hh; exact absurd hh g
      exact key _ _ _ h6
    obtain ⟨im2, q3⟩ := q3
    have q4 := apG_fits _ _ _ _ q3
    rw [f2] at q4
    exact ⟨q1, fun w hw => ⟨q2 w hw, q4 w hw, hs l hl w hw⟩⟩
theorem fit_plc {sz : List Int} {w : Wrt} (hz : sizesE sz = 0) (h : fitE sz w = 0) : plcE w = 0 ∧ ∀ j : Nat, j < w.2.2.length → InSz sz (w.1, w.2.1 + j) := by
  obtain ⟨z1, z2, z3⟩ := sizes_ok hz
  obtain ⟨f1, f2, f3, f4, f5⟩ := fitE_inv h
  have hb := z3 _ (getD_mem' 0 (show w.1.toNat < sz.length by omega))
  refine ⟨?_, fun j hj => ⟨f1, f2, by show 0 ≤ w.2.1 + (j : Int); omega, by show w.2.1 + (j : Int) < sz.getD w.1.toNat 0; omega⟩⟩
  unfold plcE
  rw [if_neg (by omega), if_neg f3, if_neg (by omega)]
theorem fold_ok {sz : List Int} {l : List Wrt} (hz : sizesE sz = 0) (hl : ∀ w ∈ l, fitE sz w = 0 ∧ ∀ s ∈ w.2.2, SecOK s) : cwG sz none (foldE l) = 0 ∧ ∀ w ∈ foldE l, ∀ s ∈ w.2.2, SecOK s := by
  have he : EfOK (InSz sz) (effG [] l) := EfOK.eff EfOK.nil fun w hw => ⟨(fit_plc hz (hl w hw).1).2, (hl w hw).2⟩
  have hm : ∀ k ∈ srtP ((effG [] l).map (·.1)), k ∈ (effG [] l).map (·.1) := fun k hk => (srtP_spec _).2.1.mem_iff.1 hk
  refine ⟨canP_ok _ _ (fun k hk => ?_) (srtP_strict he.nd), canP_mem he hm⟩
  obtain ⟨e, he2, rfl⟩ := List.mem_map.1 (hm k hk)
  exact (he.ok e he2).1
structure CycGood (p : Pln) (i : Nat) : Prop where
  ok : cycE (cycO p i) p.sizes = 0
  len : CycLen (cycO p i)
  wl : (foldE (p.lists.getD i [])).length ≤ 192
  so : ∀ w ∈ foldE (p.lists.getD i []), ∀ s ∈ w.2.2, SecOK s
theorem cyc_good {p : Pln} (h : Good p) {i : Nat} (hi : i < p.lists.length) : CycGood p i := by
  have hm := getD_mem' ([] : List Wrt) hi
  have hl := (h.ls _ hm).2
  obtain ⟨q1, q2⟩ := fold_ok (l := p.lists.getD i []) h.sz fun w hw => ⟨(hl w hw).2.1, (hl w hw).2.2⟩
  obtain ⟨z1, z2, z3⟩ := sizes_ok h.sz
  have q3 := cw_len z3 _ q1
  have q4 := cwG_fits _ _ q1
  have hsm := h.sm
  have hll := h.ll
  refine ⟨?_, ⟨by show (0 : Nat) ≤ 1000000; decide, by show (foldE _).length ≤ 1000000; omega, fun w hw => ?_⟩, by omega, q2⟩
  · unfold cycE
    rw [if_pos h.sz]
    have e1 : (cycO p i).base = (i : Int) := rfl
    have e2 : (cycO p i).number = (i : Int) + 1 := rfl
    have e3 : (cycO p i).time = (i : Int) := rfl
    have e4 : posE (cycO p i).pos = 0 := rfl
    rw [if_neg (by rw [e1, e2]; omega), if_neg (by rw [e3]; omega), if_pos e4]
    unfold cwE
    rw [if_pos h.sz]
    exact q1
  · obtain ⟨f1, f2, f3, f4, f5⟩ := fitE_inv (q4 w hw)
    have hb := z3 _ (getD_mem' 0 (show w.1.toNat < p.sizes.length by omega))
    omega
def repK (p : Pln) (e k a : Int) : Rep := ⟨p.sizes, 0, 16, e, k, a⟩
theorem repK_ok {p : Pln} (h : Good p) {e k : Int} (h0 : 0 ≤ k) (h1 : k ≤ 1000) (h2 : 0 ≤ e) (h3 : e ≤ 1000) : repE (repK p e k 0) = 0 := by
  obtain ⟨z1, z2, z3⟩ := sizes_ok h.sz
  have hn := sum_nonneg (l := p.sizes) fun y hy => (z3 y hy).1
  have hsm := h.sm
  refine repE_mk (r := repK p e k 0) ?_ (timeB_in h2 (by show e ≤ _; omega)) (timeB_in h0 (by show k ≤ _; omega)) rfl (by show ¬((0 : Int) ≠ 0 ∧ (0 : Int) ≤ k); omega)
  show layE p.sizes 0 16 = 0
  unfold layE
  rw [if_pos h.sz, if_neg (by omega), if_neg (by omega)]
theorem ru_dok {ops : List Opr} {d d' : Dsk} (h : ru ops d = some d') (h0 : dskE d = 0) (hd : DskOK d) (ho : OpsOK ops) : DskOK d' := by
  have := (runE_ok hd ho).1
  rw [ru_run h0 h] at this
  exact this
theorem endE_ops (d : Dsk) (r : Rep) : OpsOK (endE d r).2.1 := by
  unfold endE
  split
  · split
    · exact opsOK_nil
    · exact stE_ops _ _
  · exact opsOK_nil
theorem applyE_ops (d : Dsk) (r : Rep) (c : Cyc) (h : ∀ w ∈ c.writes, ∀ s ∈ w.2.2, SecOK s) : OpsOK (applyE d r c).2.1 := by
  unfold applyE
  split
  · split
    · split
      · split
        · intro o ho
          rcases List.mem_append.1 ho with ho | ho
          · rcases List.mem_append.1 ho with ho | ho
            · exact beginE_ops _ _ _ o ho
            · exact copyE_ops _ _ h o ho
          · exact endE_ops _ _ o ho
        · exact opsOK_nil
      · exact opsOK_nil
    · exact opsOK_nil
  · exact opsOK_nil
structure Inv (p : Pln) (K e : Int) (k : Nat) (im : List (List Sec)) (d : Dsk) : Prop where
  ph : PH K (repK p e k 0) im.flatten [s7, s8] d
  sz : szOf im = p.sizes
  ok : DskOK d
theorem Inv.lens {p : Pln} (h : Good p) {K e : Int} {k : Nat} {im : List (List Sec)} {d : Dsk} (hi : Inv p K e k im d) : 16 + im.flatten.length + [s7, s8].length ≤ 4096 ∧ (im.flatten.length : Int) = sum p.sizes ∧ (∀ v ∈ im, v.length ≤ 4096) ∧ im.length ≤ 8 ∧ d.st.length ≤ 300 ∧ d.ca = [] ∧ dskE d = 0 := by
  have h1 := sum_sz im
  rw [hi.sz] at h1
  have hsm := h.sm
  obtain ⟨z1, z2, z3⟩ := sizes_ok h.sz
  have hl : 16 + im.flatten.length + [s7, s8].length ≤ 4096 := by simp only [List.length_cons, List.length_nil]; omega
  obtain ⟨q1, q2, q3⟩ := hi.ph.dsk hl
  refine ⟨hl, h1.symm, fun v hv => ?_, ?_, by rw [q2]; simp only [List.length_cons, List.length_nil]; omega, q3, q1⟩
  · have : ((v.length : Int)) ∈ p.sizes := by rw [← hi.sz]; exact List.mem_map.2 ⟨v, hv, rfl⟩
    have := z3 _ this
    omega
  · have : (szOf im).length = im.length := by simp [szOf]
    rw [hi.sz] at this
    omega
theorem round_ok {p : Pln} (h : Good p) {K e : Int} {k : Nat} {im : List (List Sec)} {d : Dsk} (hk : k < p.lists.length) (hi : Inv p K e k im d) (he : 0 ≤ e ∧ e ≤ 1000) (hK : K ≤ 100) :
    ∃ ops d2 im2, applyE d (repK p e k 0) (cycO p k) = (repK p e (k + 1 : Nat) 0, ops, 0) ∧ ops.length ≤ 197 ∧ OpsOK ops ∧ ru ops d = some d2 ∧ (∀ n : Int, runE d ops = (d2, (ops.length : Int), 0)) ∧ apE im (cycO p k).writes = (im2, 0, 0) ∧ Inv p (K + 2) e (k + 1) im2 d2 ∧
      Path (fun x => PH (K + 2) (repK p e k 0) im.flatten [s7, s8] x ∨ (∃ D', PH (K + 2) (repK p e k (k + 1 : Nat)) D' [s7, s8] x ∧ Reach (repK p e k 0) (cycO p k).writes D' im2.flatten) ∨ PH (K + 2) (repK p e (k + 1 : Nat) 0) im2.flatten [s7, s8] x) ops d := by
  have hg := cyc_good h hk
  have hll := h.ll
  obtain ⟨l1, l2, l3, l4, l5, l6, l7⟩ := hi.lens h
  have hr := repK_ok h (e := e) (k := (k : Int)) (by omega) (by omega) he.1 he.2
  obtain ⟨y1, y2, y3, y4, y5⟩ := cycE_ok hg.ok
  obtain ⟨im2, ha⟩ := apG_all (cycO p k).writes im 0 (by rw [hi.sz]; exact y5)
  have hap : apE im (cycO p k).writes = (im2, 0, 0) := by unfold apE; rw [hi.sz, if_pos y1, ha]
  have hs2 : szOf im2 = p.sizes := by
    have := apG_szs (cycO p k).writes im 0 (by rw [ha])
    rw [ha] at this
    exact this.trans hi.sz
  have hR := Reach.image hr (cycO p k).writes im im2 0 hi.sz ha
  obtain ⟨ops, d2, q1, q2, q3, q4, q5⟩ := apply_path (r := repK p e k 0) (c := cycO p k) rfl rfl hr hg.ok (Int.le_refl _) (show (k : Int) < (k : Int) + 1 by omega) (.inl rfl) hi.ph hR l1 (by omega)
  have e1 : finR (repK p e k 0) (cycO p k).number = repK p e (k + 1 : Nat) 0 := by
    show (⟨p.sizes, 0, 16, e, (k : Int) + 1, 0⟩ : Rep) = ⟨p.sizes, 0, 16, e, ((k + 1 : Nat) : Int), 0⟩
    rw [Int.natCast_add]; rfl
  have e2 : midR (repK p e k 0) (cycO p k).number = repK p e k (k + 1 : Nat) := by
    show (⟨p.sizes, 0, 16, e, (k : Int), (k : Int) + 1⟩ : Rep) = ⟨p.sizes, 0, 16, e, (k : Int), ((k + 1 : Nat) : Int)⟩
    rw [Int.natCast_add]; rfl
  rw [e1] at q1 q4 q5
  rw [e2] at q5
  have hoo : OpsOK ops := by
    have := applyE_ops d (repK p e k 0) (cycO p k) hg.so
    rw [q1] at this
    exact this
  refine ⟨ops, d2, im2, q1, ?_, hoo, q3, fun _ => ru_run l7 q3, hap, ⟨q4, hs2, ru_dok q3 l7 hi.ok hoo⟩, q5⟩
  have : (cycO p k).writes.length ≤ 192 := hg.wl
  omega
theorem again_ok {p : Pln} (h : Good p) {K e : Int} {k : Nat} {im : List (List Sec)} {d : Dsk} (hi : Inv p K e (k + 1) im d) : ∀ (hk : k < p.lists.length) (he : 0 ≤ e ∧ e ≤ 1000) (hK : K ≤ 100),
    imgE d (repK p e (k + 1 : Nat) 0) = (im, 0) ∧ loadE d p.sizes 0 16 = (repK p e (k + 1 : Nat) 0, 0) ∧ applyE d (repK p e (k + 1 : Nat) 0) (cycO p k) = (rep0, [], 8) ∧ applyE d (repK p e (k + 1 : Nat) 0) ⟨(k : Int) + 2, (k : Int) + 3, k, [], foldE (p.lists.getD k [])⟩ = (rep0, [], 15) := by
  intro hk he hK
  have hg := cyc_good h hk
  have hll := h.ll
  obtain ⟨l1, l2, l3, l4, l5, l6, l7⟩ := hi.lens h
  have hr := repK_ok h (e := e) (k := ((k + 1 : Nat) : Int)) (by omega) (by omega) he.1 he.2
  refine ⟨img_st rfl hr rfl hi.ph hi.sz l1, load_st rfl rfl hr hi.ph l2 l1, ?_, ?_⟩
  · have hb : beginE d (repK p e (k + 1 : Nat) 0) (cycO p k).number = (rep0, [], 8) := by
      unfold beginE
      rw [if_pos hr]
      exact if_pos (show (k : Int) + 1 ≤ ((k + 1 : Nat) : Int) by omega)
    rw [applyE_join, hb]
    rfl
  · obtain ⟨ops, d2, q1, q2, q3, q4, q5⟩ := st_path (q := midR (repK p e (k + 1 : Nat) 0) ((k : Int) + 3)) hi.ph rfl l1 (by omega)
    have hb : beginE d (repK p e (k + 1 : Nat) 0) ((k : Int) + 3) = (midR (repK p e (k + 1 : Nat) 0) ((k : Int) + 3), ops, 0) := by
      unfold beginE
      rw [if_pos hr]
      refine (if_neg (show ¬ (k : Int) + 3 ≤ ((k + 1 : Nat) : Int) by omega)).trans ?_
      refine (if_neg (show ¬ (1073741824 : Int) < (k : Int) + 3 by omega)).trans ?_
      refine (if_neg (show ¬ (k : Int) + 3 = 0 by omega)).trans ?_
      exact (if_neg (show ¬ (0 : Int) ≠ 0 by omega)).trans q1
    obtain ⟨x1, x2, x3, x4, x5⟩ := repE_inv hr
    have hmid : repE (midR (repK p e (k + 1 : Nat) 0) ((k : Int) + 3)) = 0 := repE_mk (r := midR (repK p e (k + 1 : Nat) 0) ((k : Int) + 3)) x1 x2 x3 (timeB_in (show (0 : Int) ≤ (k : Int) + 3 by omega) (show (k : Int) + 3 ≤ 1073741824 by omega)) (by show ¬((k : Int) + 3 ≠ 0 ∧ (k : Int) + 3 ≤ ((k + 1 : Nat) : Int)); omega)
    have hc : cycE ⟨(k : Int) + 2, (k : Int) + 3, k, [], foldE (p.lists.getD k [])⟩ p.sizes = 0 := by
      have h1 := hg.ok
      unfold cycE at h1 ⊢
      rw [if_pos h.sz] at h1 ⊢
      have e1 : (cycO p k).base = (k : Int) := rfl
      have e2 : (cycO p k).number = (k : Int) + 1 := rfl
      have e3 : (cycO p k).time = (k : Int) := rfl
      have e4 : posE (cycO p k).pos = 0 := rfl
      rw [if_neg (by rw [e1, e2]; omega), if_neg (by rw [e3]; omega), if_pos e4] at h1
      simp only []
      rw [if_neg (by omega), if_neg (by omega), if_pos (show posE [] = 0 from rfl)]
      exact h1
    have hcp : copyE (midR (repK p e (k + 1 : Nat) 0) ((k : Int) + 3)) ⟨(k : Int) + 2, (k : Int) + 3, k, [], foldE (p.lists.getD k [])⟩ = ([], 15) := by
      unfold copyE
      have hc' : cycE ⟨(k : Int) + 2, (k : Int) + 3, k, [], foldE (p.lists.getD k [])⟩ (midR (repK p e (k + 1 : Nat) 0) ((k : Int) + 3)).sizes = 0 := hc
      rw [if_pos hmid, if_pos hc']
      refine (if_neg (show ¬ (k : Int) + 3 ≠ (k : Int) + 3 by omega)).trans ?_
      exact if_pos (show ((k + 1 : Nat) : Int) < (k : Int) + 2 by omega)
    have hb2 : beginE d (repK p e (k + 1 : Nat) 0) (Cyc.mk ((k : Int) + 2) ((k : Int) + 3) k [] (foldE (p.lists.getD k []))).number = (midR (repK p e (k + 1 : Nat) 0) ((k : Int) + 3), ops, 0) := hb
    rw [applyE_join, hb2]
    simp only []
    rw [hcp]
    rfl
theorem start_ok {p : Pln} (h : Good p) : ∃ ops d, fmtE p.sizes 0 16 1 = (rep1 p.sizes, ops, 0) ∧ ops.length = 6 ∧ runE ⟨zeros (18 + sum p.sizes), []⟩ ((0, 16 + sum p.sizes, [s7, s8]) :: ops) = (d, 7, 0) ∧ Inv p 1 1 0 (newIm p.sizes) d := by
  have hsm := h.sm
  obtain ⟨ops, d, q1, q2, q3, q4, q5, q6, q7⟩ := begin_st h.sz (by omega)
  obtain ⟨z1, z2, z3⟩ := sizes_ok h.sz
  have hn := sum_nonneg (l := p.sizes) fun y hy => (z3 y hy).1
  have hz : dskE ⟨zeros (18 + sum p.sizes), []⟩ = 0 := dskE_len (st := zeros (18 + sum p.sizes)) (by unfold zeros; rw [List.length_replicate]; omega) rfl
  have hr := ru_run hz q3
  rw [List.length_cons, q2] at hr
  refine ⟨ops, d, q1, q2, hr, q4, q6, ru_dok q3 hz ⟨fun s hs => ?_, fun c hc => by simp at hc⟩ fun o ho s hs => ?_⟩
  · rw [List.eq_of_mem_replicate hs]; exact secOK_zero
  · rcases List.mem_cons.1 ho with rfl | ho
    · simp only [List.mem_cons, List.not_mem_nil, or_false] at hs
      rcases hs with rfl | rfl
      · exact ⟨⟨⟨by decide, by decide⟩, ⟨by decide, by decide⟩, ⟨by decide, by decide⟩, ⟨by decide, by decide⟩⟩, fun x hx => by
          simp only [d4, s7, List.mem_cons, List.not_mem_nil, or_false] at hx
          rcases hx with rfl | rfl | rfl | rfl <;> exact ⟨by decide, by decide⟩⟩
      · exact ⟨⟨⟨by decide, by decide⟩, ⟨by decide, by decide⟩, ⟨by decide, by decide⟩, ⟨by decide, by decide⟩⟩, fun x hx => by
          simp only [d4, s8, List.mem_cons, List.not_mem_nil, or_false] at hx
          rcases hx with rfl | rfl | rfl | rfl <;> exact ⟨by decide, by decide⟩⟩
    · exact q7 o ho s hs
theorem PH.guard {K : Int} {r : Rep} {D : List Sec} {d : Dsk} (h : PH K r D [s7, s8] d) : guardB d = true := by
  obtain ⟨A, B, rfl, h2⟩ := h
  unfold guardB
  have e : A ++ (B ++ (D ++ [s7, s8])) = (A ++ (B ++ D)) ++ [s7, s8] := by simp only [List.append_assoc]
  simp only []
  rw [e]
  generalize A ++ (B ++ D) = X
  have l : (X ++ [s7, s8]).length = X.length + 2 := by simp
  rw [l, decide_eq_true (by omega)]
  have e1 : (X ++ [s7, s8]).getD (X.length + 2 - 2) zSec = s7 := by simp
  have e2 : (X ++ [s7, s8]).getD (X.length + 2 - 1) zSec = s8 := by
    rw [show X.length + 2 - 1 = X.length + 1 by omega]; simp
  rw [e1, e2]; rfl
end Go.Proofs.YtkghiceeegindaaGreatDoor
namespace Go.Proofs.YtkghiceeegindaaGreatDoor
open Go.Proofs Go.AL
set_option maxRecDepth 100000
set_option maxHeartbeats 4000000
set_option linter.unusedVariables false
set_option linter.unusedSimpArgs false
attribute [local irreducible] endA AW aops thenA blockA hold
instance : RowEnc wrsRow 1 := ⟨fun _ => rfl, fun _ => rfl, fun _ x hx => by simp [wrsRow] at hx; subst hx; exact encL_noId _⟩
theorem law7_p (p : Pln) (h1 : p.sizes.length ≤ 9223372036854775807) (h2 : p.lists.length ≤ 9223372036854775807) (h3 : ∀ l ∈ p.lists, l.length ≤ 9223372036854775807 ∧ ∀ w ∈ l, w.2.2.length ≤ 9223372036854775807) (hso : ∀ l ∈ p.lists, ∀ w ∈ l, ∀ s ∈ w.2.2, SecOK s) : PC 7 [.agg (encP p)] (bV true) := by
  refine pstart Tryz.func7 Tryz.ntmps7 (.c _) ?_
  have c9 := awake_p
  have c1 := right_p p h1 h2 h3
  cases hb : rightB p
  · rw [hb] at c1
    clear hb h3 hso
    obtain ⟨sz, ls⟩ := p
    unfold encP at *
    simp only [] at *
    refine zgo2 ?_
    exact zfin
  have hg := good_of hb hso
  rw [hb] at c1
  obtain ⟨ops0, d0, s1, s2, s3, s4⟩ := start_ok hg
  have hsm := hg.sm
  have hll := hg.ll
  obtain ⟨z1, z2, z3⟩ := sizes_ok hg.sz
  have c2 := plan_p p ops0 d0 hg.sz (by omega) s1 s2 s3
  have c3 := new_p p.sizes (by omega)
  rw [hg.sz] at c3
  have hg' := Lat.mk hg
  have hso' := Lat.mk hso
  have s4' := Lat.mk s4
  generalize newIm p.sizes = im0 at *
  clear hb h3 hso hg s1 s2 s3 s4 z3
  obtain ⟨sz, ls⟩ := p
  obtain ⟨dst, dca⟩ := d0
  unfold rep1 encR at c2
  unfold encD at c2
  unfold encP at *
  simp only [] at *
  refine zgo2 ?_
  refine zfor (α := Dsk × List (List Sec)) ls.length (fun k x => [(52, true, zV k), (51, true, zV ls.length), (50, true, .snap (encL wrsRow ls)), (6, true, .snap (encL volRow x.2)), (4, true, .ptr 2 0 0), (3, true, .ptr 1 0 0), (2, true, bV false), (1, true, .ptr 0 0 0)])
    (fun k x => [(0, some (.cells 73 2 [[.snap (encL intRow sz), .snap (encL wrsRow ls)]] true false)), (1, some (.cells 25 2 [[.snap (encL encSec x.1.st), .snap (encL encCa x.1.ca)]] true false)), (2, some (.cells 31 6 [[.snap (encL intRow sz), zV 0, zV 16, zV 1, zV k, zV 0]] true false))])
    (fun k m x => 5 ≤ m ∧ Inv ⟨sz, ls⟩ (1 + 2 * (k : Int)) 1 k x.2 x.1) ⟨5, (⟨dst, dca⟩, im0), ⟨Nat.le_refl _, by rw [show 1 + 2 * ((0 : Nat) : Int) = 1 from rfl]; exact s4'.out⟩, zholds⟩ (fun k m x hk hR => ?_) (fun m x hR => ?_)
  · obtain ⟨d, im⟩ := x
    obtain ⟨hm, hI⟩ := hR
    simp only [] at hI
    have hg := hg'.out
    have hcg := cyc_good hg hk
    have hgl := hg.ls _ (getD_mem' [] hk)
    obtain ⟨l1, l2, l3, l4, l5, l6, l7⟩ := hI.lens hg
    obtain ⟨ops, d2, im2, q1, q2, q3, q4, q5, q6, q7, q8⟩ := round_ok hg hk hI ⟨by decide, by decide⟩ (by omega)
    obtain ⟨m1, m2, m3, m4, m5, m6, m7⟩ := q7.lens hg
    obtain ⟨b1, b2, b3, b4⟩ := again_ok hg q7 hk ⟨by decide, by decide⟩ (by omega)
    have hwl : (foldE (ls.getD k [])).length ≤ 192 := hcg.wl
    have hwl2 : (cycO ⟨sz, ls⟩ k).writes.length ≤ 192 := hwl
    have a1 := plancycle_p ⟨sz, ls⟩ k hk hll (fun w hw => (hgl.2 w hw).2.2) (fun w hw => (fit_plc hg.sz (hgl.2 w hw).2.1).1) (by have := hgl.1; omega) (fun w hw => by have := (hgl.2 w hw).1; omega)
    have a2 := apply_p d (repK ⟨sz, ls⟩ 1 k 0) (cycO ⟨sz, ls⟩ k) (show sz.length ≤ 1000000 by omega) hcg.len (by omega) (by rw [l6]; simp only [List.length_nil]; omega) hI.ok hcg.so
    have a3 := step_p d ops (by omega) (by rw [l6]; simp only [List.length_nil]; omega)
    have a4 := image_p d2 (repK ⟨sz, ls⟩ 1 (k + 1 : Nat) 0) (show sz.length ≤ 1000000 by omega) (by omega) (by rw [m6]; decide)
    have a5 := cap_p im (cycO ⟨sz, ls⟩ k) (by rw [hI.sz]; exact hcg.ok) (fun v hv => by have := l3 v hv; omega) hcg.len
    have a6 := imsame_p im2 (by omega) (fun v hv => by have := m3 v hv; omega)
    have a7 := aload_p d2 sz 0 16 (by omega) (by omega) (by rw [m6]; decide) q7.ok.new
    have a8 := apply_p d2 (repK ⟨sz, ls⟩ 1 (k + 1 : Nat) 0) (cycO ⟨sz, ls⟩ k) (show sz.length ≤ 1000000 by omega) hcg.len (by omega) (by rw [m6]; simp only [List.length_nil]; omega) q7.ok hcg.so
    have a9 := apply_p d2 (repK ⟨sz, ls⟩ 1 (k + 1 : Nat) 0) ⟨(k : Int) + 2, (k : Int) + 3, k, [], foldE (ls.getD k [])⟩ (show sz.length ≤ 1000000 by omega) hcg.len (by omega) (by rw [m6]; simp only [List.length_nil]; show 0 + ((foldE (ls.getD k [])).length + 3) * 4096 ≤ 900000; omega) q7.ok hcg.so
    have a10 := same35_p (repK ⟨sz, ls⟩ 1 (k + 1 : Nat) 0) (show sz.length ≤ 1000000 by omega)
    rw [q1] at a2
    rw [q5 0] at a3
    rw [b1] at a4
    rw [q6] at a5
    rw [b2] at a7
    rw [b3] at a8
    rw [b4] at a9
    have q7' : Inv ⟨sz, ls⟩ (1 + 2 * ((k + 1 : Nat) : Int)) 1 (k + 1) im2 d2 := by
      rw [show 1 + 2 * ((k + 1 : Nat) : Int) = 1 + 2 * (k : Int) + 2 by omega]; exact q7
    have q7'' := Lat.mk q7'
    clear q1 q2 q3 q4 q5 q6 q7 q8 q7' b1 b2 b3 b4 m1 m2 m3 m4 m5 m6 m7 l1 l2 l3 l4 l5 l6 l7 hI hcg hgl hg hwl2
    have e1 : ((k + 1 : Nat) : Int) = (k : Int) + 1 := by omega
    rw [e1] at a2 a4 a7 a8 a9 a10
    unfold ansV at a2 a8 a9
    unfold repK encR at a2 a4 a7 a8 a9 a10
    unfold rep0 at a8 a9
    unfold cycO encC at a1 a2 a5 a8
    unfold encC at a9
    unfold encP at a1
    obtain ⟨dst1, dca1⟩ := d
    obtain ⟨dst2, dca2⟩ := d2
    unfold encD at a2 a3 a4 a7 a8 a9
    simp only [] at *
    generalize foldE (ls.getD k []) = F at *
    refine zgo2 ?_
    refine ⟨m + 40, (⟨dst2, dca2⟩, im2), ⟨by omega, q7''.out⟩, ?_⟩
    exact zholds
  · obtain ⟨d, im⟩ := x
    obtain ⟨hm, hI⟩ := hR
    simp only [] at hI
    obtain ⟨l1, l2, l3, l4, l5, l6, l7⟩ := hI.lens hg'.out
    have c10 := guarded_p d (by omega)
    rw [hI.ph.guard] at c10
    obtain ⟨dst1, dca1⟩ := d
    unfold encD at c10
    clear hI l1 l2 l3 l4 l5 l6 l7
    simp only [] at *
    refine zgo2 ?_
    exact zfin
end Go.Proofs.YtkghiceeegindaaGreatDoor
namespace Go.Proofs.YtkghiceeegindaaGreatDoor
open Go.Proofs Go.AL
set_option maxRecDepth 100000
set_option maxHeartbeats 1000000
set_option linter.unusedVariables false
set_option linter.unusedSimpArgs false
attribute [local irreducible] endA AW aops thenA blockA hold
theorem crash_dok {d : Dsk} (h : DskOK d) (h0 : dskE d = 0) (c : List Int) : DskOK (crashS d c).1 := by
  obtain ⟨st', q1, q2, q3⟩ := crash_mix h0 c
  rw [q1]
  refine ⟨fun s hs => ?_, fun x hx => by simp at hx⟩
  obtain ⟨i, hi, rfl⟩ := List.mem_iff_getElem.1 hs
  have e : st'.getD i zSec = st'[i] := by simp [show i < st'.length from hi]
  have hi' : i < d.st.length := by rw [← q2]; exact hi
  rcases q3 i with g | g
  · rw [e] at g
    rw [g]
    exact h.1 _ (getD_mem' zSec hi')
  · rw [e] at g
    exact h.2 _ g
theorem opsOK_take {ops : List Opr} (h : OpsOK ops) (k : Nat) : OpsOK (ops.take k) := fun o ho => h o (List.mem_of_mem_take ho)
theorem inter_ok {Gd : Dsk → Prop} {ops : List Opr} {d : Dsk} (hP : Path Gd ops d) (h0 : dskE d = 0) (hd : DskOK d) (ho : OpsOK ops) (a : Int) (c : List Int) :
    ∃ br rest, interE d ops (a % ((ops.length : Int) + 1)) c = (br, rest, 0) ∧ Gd br ∧ DskOK br ∧ rest.length ≤ c.length ∧ (runE d (ops.take (a % ((ops.length : Int) + 1)).toNat)).1.st.length = d.st.length ∧ (runE d (ops.take (a % ((ops.length : Int) + 1)).toNat)).1.ca.length ≤ d.ca.length + ops.length * 4096 := by
  have h1 := Int.emod_nonneg a (show (ops.length : Int) + 1 ≠ 0 by omega)
  have h2 := Int.emod_lt_of_pos a (show 0 < (ops.length : Int) + 1 by omega)
  obtain ⟨k, hk⟩ := Int.eq_ofNat_of_zero_le h1
  rw [hk] at h2 ⊢
  rw [Int.toNat_natCast]
  obtain ⟨d', q1, q2⟩ := hP k (by omega)
  have q3 := ru_run h0 q1
  have q4 := ru_ok _ _ _ 0 h0 q1
  have q5 := runE_ok hd (opsOK_take ho k)
  refine ⟨(crashS d' c).1, (crashS d' c).2, ?_, q2 c, ?_, ?_, ?_, ?_⟩
  · unfold interE
    rw [if_pos h0, if_neg (by omega), Int.toNat_natCast, q3, if_pos rfl]
  · have := q5.1
    rw [q3] at this
    exact crash_dok this q4.2.1 c
  · unfold crashS
    rw [if_pos q4.2.1]
    exact crashTo_ch _ _ _ _
  · rw [q3]; exact q4.2.2
  · have := q5.2.2
    have : (ops.take k).length * 4096 ≤ ops.length * 4096 := Nat.mul_le_mul_right _ (by rw [List.length_take]; omega)
    omega
theorem same35_e (sz : List Int) (a b c d f g : Int) (hl : sz.length ≤ 1000000) (h : c ≠ g) : PC 16 [.agg [.snap (encL intRow sz), zV a, zV b, zV c, zV d, zV f], .agg [.snap (encL intRow sz), zV a, zV b, zV g, zV d, zV f]] (bV false) := by
  refine pstart Tryz.func16 Tryz.ntmps16 (.c _) ?_
  have c1 := sameInts_p sz hl
  have hq : ∀ x : Int, (x == x) = true := fun x => beq_self_eq_true x
  refine zgo2 ?_
  exact zfin
theorem same35_a (sz : List Int) (a b c d f g : Int) (hl : sz.length ≤ 1000000) (h : d ≠ g) : PC 16 [.agg [.snap (encL intRow sz), zV a, zV b, zV c, zV d, zV f], .agg [.snap (encL intRow sz), zV a, zV b, zV c, zV g, zV f]] (bV false) := by
  refine pstart Tryz.func16 Tryz.ntmps16 (.c _) ?_
  have c1 := sameInts_p sz hl
  have hq : ∀ x : Int, (x == x) = true := fun x => beq_self_eq_true x
  refine zgo2 ?_
  exact zfin
end Go.Proofs.YtkghiceeegindaaGreatDoor
namespace Go.Proofs.YtkghiceeegindaaGreatDoor
open Go.Proofs Go.AL
set_option maxRecDepth 100000
set_option maxHeartbeats 4000000
set_option linter.unusedVariables false
set_option linter.unusedSimpArgs false
attribute [local irreducible] endA AW aops thenA blockA hold
theorem raise_less {d : Dsk} {p : Pln} {e k : Int} (hr : repE (repK p e k 0) = 0) (n : Int) (h : n < e) : raiseE d (repK p e k 0) n = (rep0, [], 13) := by
  unfold raiseE
  rw [if_pos hr]
  exact if_pos h
theorem law9_p (p : Pln) (e : Int) (b : Crs) (h1 : p.sizes.length ≤ 9223372036854775807) (h2 : p.lists.length ≤ 9223372036854775807) (h3 : ∀ l ∈ p.lists, l.length ≤ 9223372036854775807 ∧ ∀ w ∈ l, w.2.2.length ≤ 9223372036854775807) (hso : ∀ l ∈ p.lists, ∀ w ∈ l, ∀ s ∈ w.2.2, SecOK s)
    (he : 0 ≤ e ∧ e < 256) (h4 : b.ch1.length ≤ 9223372036854775807) : PC 9 [.agg (encP p), .c (.int .u8 e), .agg (encK b)] (bV true) := by
  refine pstart Tryz.func9 Tryz.ntmps9 (.c _) ?_
  have c9 := awake_p
  have c1 := right_p p h1 h2 h3
  cases hb : rightB p
  · rw [hb] at c1
    clear hb h3 hso
    obtain ⟨sz, ls⟩ := p
    obtain ⟨p1, p2, p3, p4⟩ := b
    unfold encP encK at *
    simp only [] at *
    refine zgo2 ?_
    exact zfin
  have hg := good_of hb hso
  rw [hb] at c1
  by_cases hcl : 200 < b.ch1.length
  · clear hb h3 hso hg
    obtain ⟨sz, ls⟩ := p
    obtain ⟨p1, p2, p3, p4⟩ := b
    unfold encP encK at *
    simp only [] at *
    refine zgo2 ?_
    exact zfin
  obtain ⟨ops0, d0, s1, s2, s3, s4⟩ := start_ok hg
  have hsm := hg.sm
  have hll := hg.ll
  obtain ⟨z1, z2, z3⟩ := sizes_ok hg.sz
  have c2 := plan_p p ops0 d0 hg.sz (by omega) s1 s2 s3
  have hg' := Lat.mk hg
  have hso' := Lat.mk hso
  have s4' := Lat.mk s4
  generalize newIm p.sizes = im0 at *
  clear hb h3 hso hg s1 s2 s3 s4 z3
  obtain ⟨sz, ls⟩ := p
  obtain ⟨dst, dca⟩ := d0
  obtain ⟨k1, k2, k3, k4⟩ := b
  unfold rep1 encR at c2
  unfold encD at c2
  unfold encP encK at *
  simp only [] at *
  refine zgo2 ?_
  refine zfor (α := Dsk × List (List Sec)) ls.length (fun k x => [(53, true, zV k), (52, true, zV ls.length), (51, true, .snap (encL wrsRow ls)), (9, true, bV true), (8, true, .ptr 3 0 0), (7, true, .ptr 2 0 0), (6, true, bV false), (5, true, .ptr 1 0 0), (3, true, .ptr 0 0 0), (1, true, .c (.int .u8 e))])
    (fun k x => [(0, some (.cells 73 2 [[.snap (encL intRow sz), .snap (encL wrsRow ls)]] true false)), (1, some (.cells 84 4 [[zV k1, zV k2, .snap (encL intRow k3), .snap (encL intRow k4)]] true false)), (2, some (.cells 25 2 [[.snap (encL encSec x.1.st), .snap (encL encCa x.1.ca)]] true false)), (3, some (.cells 31 6 [[.snap (encL intRow sz), zV 0, zV 16, zV 1, zV k, zV 0]] true false))])
    (fun k m x => 6 ≤ m ∧ Inv ⟨sz, ls⟩ (1 + 2 * (k : Int)) 1 k x.2 x.1) ⟨6, (⟨dst, dca⟩, im0), ⟨Nat.le_refl _, by rw [show 1 + 2 * ((0 : Nat) : Int) = 1 from rfl]; exact s4'.out⟩, zholds⟩ (fun k m x hk hR => ?_) (fun m x hR => ?_)
  · obtain ⟨d, im⟩ := x
    obtain ⟨hm, hI⟩ := hR
    simp only [] at hI
    have hg := hg'.out
    have hcg := cyc_good hg hk
    have hgl := hg.ls _ (getD_mem' [] hk)
    obtain ⟨l1, l2, l3, l4, l5, l6, l7⟩ := hI.lens hg
    obtain ⟨ops, d2, im2, q1, q2, q3, q4, q5, q6, q7, q8⟩ := round_ok hg hk hI ⟨by decide, by decide⟩ (by omega)
    have hwl : (foldE (ls.getD k [])).length ≤ 192 := hcg.wl
    have hwl2 : (cycO ⟨sz, ls⟩ k).writes.length ≤ 192 := hwl
    have a1 := plancycle_p ⟨sz, ls⟩ k hk hll (fun w hw => (hgl.2 w hw).2.2) (fun w hw => (fit_plc hg.sz (hgl.2 w hw).2.1).1) (by have := hgl.1; omega) (fun w hw => by have := (hgl.2 w hw).1; omega)
    have a2 := apply_p d (repK ⟨sz, ls⟩ 1 k 0) (cycO ⟨sz, ls⟩ k) (show sz.length ≤ 1000000 by omega) hcg.len (by omega) (by rw [l6]; simp only [List.length_nil]; omega) hI.ok hcg.so
    have a3 := step_p d ops (by omega) (by rw [l6]; simp only [List.length_nil]; omega)
    rw [q1] at a2
    rw [q5 0] at a3
    have q7' : Inv ⟨sz, ls⟩ (1 + 2 * ((k + 1 : Nat) : Int)) 1 (k + 1) im2 d2 := by
      rw [show 1 + 2 * ((k + 1 : Nat) : Int) = 1 + 2 * (k : Int) + 2 by omega]; exact q7
    have q7'' := Lat.mk q7'
    clear q1 q2 q3 q4 q5 q6 q7 q8 q7' l1 l2 l3 l4 l5 l6 l7 hI hcg hgl hg hwl2
    have e1 : ((k + 1 : Nat) : Int) = (k : Int) + 1 := by omega
    rw [e1] at a2
    unfold ansV at a2
    unfold repK encR at a2
    unfold cycO encC at a1 a2
    unfold encP at a1
    obtain ⟨dst1, dca1⟩ := d
    obtain ⟨dst2, dca2⟩ := d2
    unfold encD at a2 a3
    simp only [] at *
    generalize foldE (ls.getD k []) = F at *
    refine zgo2 ?_
    refine ⟨m + 40, (⟨dst2, dca2⟩, im2), ⟨by omega, q7''.out⟩, ?_⟩
    exact zholds
  · obtain ⟨d, im⟩ := x
    obtain ⟨hm, hI⟩ := hR
    simp only [] at hI
    have hg := hg'.out
    obtain ⟨l1, l2, l3, l4, l5, l6, l7⟩ := hI.lens hg
    have hr1 := repK_ok hg (e := 1) (k := (ls.length : Int)) (by omega) (by omega) (by decide) (by decide)
    have hr2 := repK_ok hg (e := e + 2) (k := (ls.length : Int)) (by omega) (by omega) (by omega) (by omega)
    obtain ⟨ops, d2, q1, q2, q3, q4, q5⟩ := raise_path (n := e + 2) rfl hr1 (show (1 : Int) < e + 2 by omega) (by omega) hI.ph l1 (by omega)
    have e0 : (⟨(repK ⟨sz, ls⟩ 1 ls.length 0).sizes, (repK ⟨sz, ls⟩ 1 ls.length 0).super, (repK ⟨sz, ls⟩ 1 ls.length 0).data, e + 2, (repK ⟨sz, ls⟩ 1 ls.length 0).applied, (repK ⟨sz, ls⟩ 1 ls.length 0).applying⟩ : Rep) = repK ⟨sz, ls⟩ (e + 2) ls.length 0 := rfl
    rw [e0] at q1 q4 q5
    have hoo : OpsOK ops := by
      have h := stE_ops d (repK ⟨sz, ls⟩ (e + 2) ls.length 0)
      unfold raiseE at q1
      rw [if_pos hr1] at q1
      have q1' : (if e + 2 < 1 then ((rep0, [], 13) : Rep × List Opr × Int) else if 1073741824 < e + 2 then (rep0, [], 2) else if e + 2 = 1 then (repK ⟨sz, ls⟩ 1 ls.length 0, [], 0) else stE d (repK ⟨sz, ls⟩ (e + 2) ls.length 0)) = (repK ⟨sz, ls⟩ (e + 2) ls.length 0, ops, 0) := q1
      rw [if_neg (by omega), if_neg (by omega), if_neg (by omega)] at q1'
      rw [q1'] at h
      exact h
    have hI2 : Inv ⟨sz, ls⟩ (1 + 2 * (ls.length : Int) + 1) (e + 2) ls.length im d2 := ⟨q4, hI.sz, ru_dok q3 l7 hI.ok hoo⟩
    obtain ⟨m1, m2, m3, m4, m5, m6, m7⟩ := hI2.lens hg
    obtain ⟨br, rest, i1, i2, i3, i4, i5, i6⟩ := inter_ok q5 l7 hI.ok hoo k1 k3
    have b1 := img_st (r := repK ⟨sz, ls⟩ 1 ls.length 0) rfl hr1 rfl hI.ph hI.sz l1
    have b2 := img_st (r := repK ⟨sz, ls⟩ (e + 2) ls.length 0) rfl hr2 rfl q4 hI.sz l1
    have b3 := raise_less (d := d2) hr2 (e + 2 - 1) (by omega)
    have cl := place35_p k1 ops.length (by omega)
    have a4 := image_p d (repK ⟨sz, ls⟩ 1 ls.length 0) (show sz.length ≤ 1000000 by omega) (by omega) (by rw [l6]; decide)
    have a5 := raise_p d (repK ⟨sz, ls⟩ 1 ls.length 0) (e + 2) (show sz.length ≤ 1000000 by omega) (by omega) (by rw [l6]; decide) hI.ok.new
    have a6 := inter_p d ops (k1 % ((ops.length : Int) + 1)) k3 (by omega) (by omega) (by omega) (by rw [l6, q2]; decide) ⟨by omega, by have i6' := i6; rw [l6] at i6'; simp only [List.length_nil] at i6'; omega⟩
    have a7 := step_p d ops (by omega) (by rw [l6, q2]; decide)
    have a8 := image_p d2 (repK ⟨sz, ls⟩ (e + 2) ls.length 0) (show sz.length ≤ 1000000 by omega) (by omega) (by rw [m6]; decide)
    have a9 := raise_p d2 (repK ⟨sz, ls⟩ (e + 2) ls.length 0) (e + 2 - 1) (show sz.length ≤ 1000000 by omega) (by omega) (by rw [m6]; decide) hI2.ok.new
    have a10 := imsame_p im (by omega) (fun v hv => by have := l3 v hv; omega)
    rw [b1] at a4
    rw [q1] at a5
    rw [i1] at a6
    rw [ru_run l7 q3] at a7
    rw [b2] at a8
    rw [b3] at a9
    have hcase : ∃ y, (y = 1 ∨ y = e + 2) ∧ PH (1 + 2 * (ls.length : Int) + 1) (repK ⟨sz, ls⟩ y ls.length 0) im.flatten [s7, s8] br := i2.elim (fun h => ⟨1, .inl rfl, h⟩) fun h => ⟨e + 2, .inr rfl, h⟩
    obtain ⟨y, hy, hbr⟩ := hcase
    have hr3 := repK_ok hg (e := y) (k := (ls.length : Int)) (by omega) (by omega) (by omega) (by omega)
    obtain ⟨n1, n2, n3⟩ := hbr.dsk l1
    have n4 : br.st.length ≤ 300 := by rw [n2]; simp only [List.length_cons, List.length_nil]; have : sum sz = (im.flatten.length : Int) := l2.symm; omega
    have b4 := load_st (r := repK ⟨sz, ls⟩ y ls.length 0) rfl rfl hr3 hbr l2 l1
    have b5 := img_st (r := repK ⟨sz, ls⟩ y ls.length 0) rfl hr3 rfl hbr hI.sz l1
    have b4' : loadE br sz 0 16 = (repK ⟨sz, ls⟩ y ls.length 0, 0) := b4
    have a11 := aload_p br sz 0 16 (by omega) (by omega) (by rw [n3]; decide) i3.new
    have a12 := image_p br (repK ⟨sz, ls⟩ y ls.length 0) (show sz.length ≤ 1000000 by omega) (by omega) (by rw [n3]; decide)
    rw [b4'] at a11
    rw [b5] at a12
    have s1 := same35_p (repK ⟨sz, ls⟩ y ls.length 0) (show sz.length ≤ 1000000 by omega)
    have s2 := fun h => same35_e sz 0 16 y ls.length 0 1 (by omega) h
    have hy2 : ¬ (1 : Int) = e + 2 := by omega
    have w1 : IntKind.i64.wrap e = e := IntWalk.i64_in _ (by omega)
    have w2 : IntKind.i64.wrap (e + 2) = e + 2 := IntWalk.i64_in _ (by omega)
    have w3 : IntKind.i64.wrap (e + 2 - 1) = e + 2 - 1 := IntWalk.i64_in _ (by omega)
    clear b1 b2 b3 b4 b5 b4' q1 q3 q4 q5 e0 hoo hI2 i1 i2 i3 i4 i5 i6 m1 m2 m3 m4 m5 m6 m7 l1 l2 l3 l4 l5 l6 l7 hr1 hr2 hr3 hbr hI n1 n2 n3 n4 hg
    unfold ansV at a5 a9
    unfold repK encR at a4 a5 a8 a9 a11 a12 s1
    unfold rep0 at a9
    obtain ⟨dst1, dca1⟩ := d
    obtain ⟨dst2, dca2⟩ := d2
    obtain ⟨dst3, dca3⟩ := br
    unfold encD at a4 a5 a6 a7 a8 a9 a11 a12
    simp only [] at *
    clear q2
    generalize k1 % ((ops.length : Int) + 1) = pl at *
    rcases hy with rfl | rfl
    · clear s2
      refine zgo2 ?_
      exact zfin
    · have s3 := s2 (by omega)
      clear s2
      refine zgo2 ?_
      exact zfin
end Go.Proofs.YtkghiceeegindaaGreatDoor
namespace Go.Proofs.YtkghiceeegindaaGreatDoor
open Go.Proofs Go.AL
set_option maxRecDepth 100000
set_option linter.unusedVariables false
set_option linter.unusedSimpArgs false
theorem midK_ok {p : Pln} (h : Good p) {k : Nat} (hk : k ≤ 8) : repE (repK p 1 k (k + 1 : Nat)) = 0 := by
  have hr := repK_ok h (e := 1) (k := (k : Int)) (by omega) (by omega) (by decide) (by decide)
  obtain ⟨x1, x2, x3, x4, x5⟩ := repE_inv hr
  exact repE_mk (r := repK p 1 k (k + 1 : Nat)) x1 x2 x3 (timeB_in (show (0 : Int) ≤ ((k + 1 : Nat) : Int) by omega) (show ((k + 1 : Nat) : Int) ≤ 1073741824 by omega)) (by show ¬(((k + 1 : Nat) : Int) ≠ 0 ∧ ((k + 1 : Nat) : Int) ≤ (k : Int)); omega)
theorem redo_ok {p : Pln} (h : Good p) {K : Int} {k : Nat} {D D2 : List Sec} {d : Dsk} (hk : k < p.lists.length) (hp : PH K (repK p 1 k (k + 1 : Nat)) D [s7, s8] d) (hd : DskOK d) (hR : Reach (repK p 1 k 0) (cycO p k).writes D D2) (hK : K ≤ 100) :
    ∃ ops d2, applyE d (repK p 1 k (k + 1 : Nat)) (cycO p k) = (repK p 1 (k + 1 : Nat) 0, ops, 0) ∧ ops.length ≤ 197 ∧ OpsOK ops ∧ ru ops d = some d2 ∧ DskOK d2 ∧ PH (K + 2) (repK p 1 (k + 1 : Nat) 0) D2 [s7, s8] d2 ∧
      Path (fun x => (∃ D', PH (K + 2) (repK p 1 k (k + 1 : Nat)) D' [s7, s8] x ∧ Reach (repK p 1 k 0) (cycO p k).writes D' D2) ∨ PH (K + 2) (repK p 1 (k + 1 : Nat) 0) D2 [s7, s8] x) ops d := by
  have hg := cyc_good h hk
  have hll := h.ll
  have hsm := h.sm
  have hl1 : (D.length : Int) = sum p.sizes := hR.1
  have hl : 16 + D.length + [s7, s8].length ≤ 4096 := by simp only [List.length_cons, List.length_nil]; omega
  obtain ⟨l1, l2, l3⟩ := hp.dsk hl
  have hr := midK_ok h (k := k) (by omega)
  have e0 : (cycO p k).number = ((k + 1 : Nat) : Int) := by show (k : Int) + 1 = ((k + 1 : Nat) : Int); omega
  have hR' : Reach (repK p 1 k (k + 1 : Nat)) (cycO p k).writes D D2 := hR
  obtain ⟨ops, d2, q1, q2, q3, q4, q5⟩ := apply_path (r := repK p 1 k (k + 1 : Nat)) (c := cycO p k) rfl rfl hr hg.ok (Int.le_refl _) (show (k : Int) < (k : Int) + 1 by omega) (.inr e0.symm) hp hR' hl (by omega)
  have e1 : finR (repK p 1 k (k + 1 : Nat)) (cycO p k).number = repK p 1 (k + 1 : Nat) 0 := by rw [e0]; rfl
  have e2 : midR (repK p 1 k (k + 1 : Nat)) (cycO p k).number = repK p 1 k (k + 1 : Nat) := by rw [e0]; rfl
  rw [e1] at q1 q4 q5
  rw [e2] at q5
  have hoo : OpsOK ops := by
    have := applyE_ops d (repK p 1 k (k + 1 : Nat)) (cycO p k) hg.so
    rw [q1] at this
    exact this
  have hw : (cycO p k).writes.length ≤ 192 := hg.wl
  refine ⟨ops, d2, q1, by omega, hoo, q3, ru_dok q3 l1 hd hoo, q4, q5.mono fun e he => ?_⟩
  rcases he with he | ⟨D', he, hr2⟩ | he
  · exact .inl ⟨D, he, hR⟩
  · exact .inl ⟨D', he, hr2⟩
  · exact .inr he
theorem PH.lens {p : Pln} (h : Good p) {K e k a : Int} {D : List Sec} {d : Dsk} (hD : (D.length : Int) = sum p.sizes) (hp : PH K (repK p e k a) D [s7, s8] d) : 16 + D.length + [s7, s8].length ≤ 4096 ∧ d.st.length ≤ 300 ∧ d.ca = [] ∧ dskE d = 0 := by
  have hsm := h.sm
  have hl : 16 + D.length + [s7, s8].length ≤ 4096 := by simp only [List.length_cons, List.length_nil]; omega
  obtain ⟨l1, l2, l3⟩ := hp.dsk hl
  exact ⟨hl, by rw [l2]; simp only [List.length_cons, List.length_nil]; omega, l3, l1⟩
end Go.Proofs.YtkghiceeegindaaGreatDoor
