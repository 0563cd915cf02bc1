/- Apply: contracts of its functions. No condition but those named. -/
import Derived.Test.YtkghiceeegindaaGreatDoorAk
import Derived.Test.YtkghiceeegindaaGreatDoorLc
import Derived.KernelRfl
/- Sizes of what the functions answer, in plain terms. -/
namespace Go.Proofs.YtkghiceeegindaaGreatDoor
open Go.Proofs Go.AL
set_option linter.unusedVariables false
set_option linter.unusedSimpArgs false

/-- A list of operations of bounded size. -/
def OpsL (l : List Opr) (n : Nat) : Prop := l.length ≤ n ∧ ∀ o ∈ l, o.2.2.length ≤ 1000000
theorem opsL_nil (n : Nat) : OpsL [] n := ⟨Nat.zero_le _, fun o ho => by simp at ho⟩
theorem OpsL.app {a b : List Opr} {n m : Nat} (h : OpsL a n) (k : OpsL b m) : OpsL (a ++ b) (n + m) := by
  refine ⟨by rw [List.length_append]; have := h.1; have := k.1; omega, fun o ho => ?_⟩
  rcases List.mem_append.1 ho with ho | ho
  · exact h.2 o ho
  · exact k.2 o ho
theorem OpsL.mono {a : List Opr} {n m : Nat} (h : OpsL a n) (k : n ≤ m) : OpsL a m := ⟨Nat.le_trans h.1 k, h.2⟩
theorem fmtE_szs (l : List Int) (s d n : Int) : (fmtE l s d n).1.sizes = l ∨ (fmtE l s d n).1.sizes = [] := by
  unfold fmtE rep0
  repeat' split
  all_goals first | exact .inl rfl | exact .inr rfl
theorem zeros_len (n : Int) (h : n ≤ 1000000) : (zeros n).length ≤ 1000000 := by
  unfold zeros
  rw [List.length_replicate]
  omega
theorem sbFmt_ops (a : Int) (p : List Int) : OpsL (sbFmt a p).1 4 := by
  unfold sbFmt
  split
  · exact opsL_nil _
  · split
    · exact opsL_nil _
    · refine ⟨by simp, fun o ho => ?_⟩
      simp only [List.mem_cons, List.not_mem_nil, or_false] at ho
      rcases ho with rfl | rfl | rfl | rfl <;> simp [putS, zs16]
theorem fmtE_ops (l : List Int) (s d n : Int) : OpsL (fmtE l s d n).2.1 6 := by
  unfold fmtE
  split
  · rename_i g
    obtain ⟨y1, y2, y3, y4, y5, y6⟩ := layE_ok g
    obtain ⟨h1, h3, h4⟩ := sum_ok y1
    split
    · split
      · refine OpsL.app (n := 2) (m := 4) ⟨by simp, fun o ho => ?_⟩ (sbFmt_ops _ _)
        simp only [List.mem_cons, List.not_mem_nil, or_false] at ho
        rcases ho with rfl | rfl
        · exact zeros_len _ (by omega)
        · simp
      · exact opsL_nil _
    · exact opsL_nil _
  · exact opsL_nil _
theorem loadE_szs (d : Dsk) (l : List Int) (s a : Int) : (loadE d l s a).1.sizes = l ∨ (loadE d l s a).1.sizes = [] := by
  unfold loadE rep0
  repeat' split
  all_goals first | exact .inl rfl | exact .inr rfl
theorem endE_szs (d : Dsk) (r : Rep) : (endE d r).1.sizes = r.sizes ∨ (endE d r).1.sizes = [] := by
  unfold endE stE rep0
  repeat' split
  all_goals first | exact .inl rfl | exact .inr rfl
theorem raiseE_szs (d : Dsk) (r : Rep) (n : Int) : (raiseE d r n).1.sizes = r.sizes ∨ (raiseE d r n).1.sizes = [] := by
  unfold raiseE stE rep0
  repeat' split
  all_goals first | exact .inl rfl | exact .inr rfl
theorem stE_ops2 (d : Dsk) (r : Rep) : OpsL (stE d r).2.1 2 := by
  refine ⟨stE_len d r, ?_⟩
  unfold stE
  split
  · exact storeE_data _ _ _
  · intro o ho; simp at ho
theorem beginE_ops2 (d : Dsk) (r : Rep) (n : Int) : OpsL (beginE d r n).2.1 2 := ⟨beginE_len d r n, beginE_data d r n⟩
theorem endE_ops2 (d : Dsk) (r : Rep) : OpsL (endE d r).2.1 2 := by
  unfold endE
  repeat' split
  all_goals first | exact opsL_nil _ | exact stE_ops2 _ _
theorem raiseE_ops2 (d : Dsk) (r : Rep) (n : Int) : OpsL (raiseE d r n).2.1 2 := by
  unfold raiseE
  repeat' split
  all_goals first | exact opsL_nil _ | exact stE_ops2 _ _
theorem copyE_ops2 (r : Rep) (c : Cyc) (h : CycLen c) : OpsL (copyE r c).1 (c.writes.length + 1) := ⟨copyE_len r c, copyE_data r c h.2.2⟩
theorem applyE_ops2 (d : Dsk) (r : Rep) (c : Cyc) (h : CycLen c) : OpsL (applyE d r c).2.1 (c.writes.length + 5) := by
  rw [applyE_join]
  unfold joinE
  have h1 := beginE_ops2 d r c.number
  have h2 := copyE_ops2 (beginE d r c.number).1 c h
  have h3 := endE_ops2 (runE d ((beginE d r c.number).2.1 ++ (copyE (beginE d r c.number).1 c).1)).1 (beginE d r c.number).1
  split
  · split
    · split
      · split
        · exact ((h1.app h2).app h3).mono (by omega)
        · exact opsL_nil _
      · exact opsL_nil _
    · exact opsL_nil _
  · exact opsL_nil _
theorem szs_len {a b : List Int} {n : Nat} (h : a = b ∨ a = []) (hb : b.length ≤ n) : a.length ≤ n := by
  rcases h with rfl | rfl
  · exact hb
  · exact Nat.zero_le _
theorem applyE_szs (d : Dsk) (r : Rep) (c : Cyc) {n : Nat} (h : r.sizes.length ≤ n) : (applyE d r c).1.sizes.length ≤ n := by
  rw [applyE_join]
  unfold joinE
  have h1 := szs_len (beginE_szs d r c.number) h
  have h3 := szs_len (endE_szs (runE d ((beginE d r c.number).2.1 ++ (copyE (beginE d r c.number).1 c).1)).1 (beginE d r c.number).1) h1
  split
  · split
    · split
      · split
        · exact h3
        · exact Nat.zero_le _
      · exact Nat.zero_le _
    · exact Nat.zero_le _
  · exact Nat.zero_le _
theorem readE_len (d : Dsk) (s n : Int) : (readE d s n).1.length ≤ d.st.length := by
  unfold readE
  split
  · split
    · exact Nat.zero_le _
    · have := newL_len d.ca d.st
      simp only [List.length_take, List.length_drop]
      omega
  · exact Nat.zero_le _
theorem imgE_len (d : Dsk) (r : Rep) : (imgE d r).1.length ≤ r.sizes.length ∧ ∀ v ∈ (imgE d r).1, v.length ≤ d.st.length := by
  unfold imgE
  repeat' split
  all_goals first | exact ⟨Nat.zero_le _, fun v hv => by simp at hv⟩ | skip
  refine ⟨by simp [volsE], fun v hv => ?_⟩
  unfold volsE at hv
  obtain ⟨i, _, rfl⟩ := List.mem_map.1 hv
  exact readE_len _ _ _
theorem fewD_ok {d : Dsk} (h : fewD d = true) : d.st.length ≤ 400 ∧ d.ca.length ≤ 400 := by
  unfold fewD at h
  rw [Bool.and_eq_true] at h
  exact ⟨of_decide_eq_true h.1, of_decide_eq_true h.2⟩
theorem fewR_len {r : Rep} (h : fewR r = true) : r.sizes.length ≤ 20 := by
  unfold fewR at h
  rw [Bool.and_eq_true] at h
  exact of_decide_eq_true h.2
theorem fewW_len {l : List Wrt} (h : fewW l = true) : l.length ≤ 40 ∧ ∀ w ∈ l, w.2.2.length ≤ 24 := by
  unfold fewW at h
  rw [Bool.and_eq_true] at h
  have h2 : l.length ≤ 40 := of_decide_eq_true h.2
  refine ⟨h2, fun w hw => ?_⟩
  have h3 : (l.take 60).any bigW = false := by
    cases hh : (l.take 60).any bigW with
    | false => rfl
    | true => rw [hh] at h; exact absurd h.1 (by decide)
  rw [List.take_of_length_le (by omega), List.any_eq_false] at h3
  have h4 : ¬ bigW w = true := h3 w hw
  unfold bigW at h4
  rw [decide_eq_true_eq] at h4
  omega
end Go.Proofs.YtkghiceeegindaaGreatDoor

/- The laws 3 to 6. -/
namespace Go.Proofs.YtkghiceeegindaaGreatDoor
open Go.Proofs Go.AL
set_option maxRecDepth 100000
set_option maxHeartbeats 2000000
set_option linter.unusedVariables false
set_option linter.unusedSimpArgs false
attribute [local irreducible] endA AW aops thenA blockA hold

abbrev BIG : Nat := 9223372036854775807
theorem law3_p (d : Dsk) (sz : List Int) (a b c : Int) (h1 : d.st.length ≤ BIG) (h2 : d.ca.length ≤ BIG) (hl : sz.length ≤ BIG) (hk : DskOK d) : PC 3 [.agg (encD d), .agg [.snap (encL intRow sz), zV a, zV b, zV c]] (bV true) := by
  refine pstart Tryz.func3 Tryz.ntmps3 (.c _) ?_
  have c9 := awake_p
  have hq : ∀ x : Int, (x == x) = true := fun x => beq_self_eq_true x
  have c0 := few_p d ⟨sz, 0, 0, 0, 0, 0⟩ h1 h2 hl
  generalize hb : (fewD d && fewR ⟨sz, 0, 0, 0, 0, 0⟩) = B at c0
  unfold encR encD at c0
  unfold encD
  simp only [] at c0
  cases B
  · clear hb hk
    refine zgo2 ?_
    exact zfin
  rw [Bool.and_eq_true] at hb
  have f1 := fewD_ok hb.1
  have f2 : sz.length ≤ 20 := fewR_len hb.2
  clear hb
  have c1 := format_p sz a b c (by omega)
  have c2 := rformat_p sz a b c (by omega)
  have c3 := aload_p d sz a b (by omega) (by omega) (by omega) hk.new
  have c4 := rloadR_p d sz a b (by omega) (by omega) (by omega) hk.new
  have c5 := same35_p (fmtE sz a b c).1 (szs_len (fmtE_szs sz a b c) (by omega))
  have c6 := same35_p (loadE d sz a b).1 (szs_len (loadE_szs d sz a b) (by omega))
  have c7 := sameOps_p (fmtE sz a b c).2.1 (by have := (fmtE_ops sz a b c).1; omega) (fmtE_ops sz a b c).2
  clear hk
  generalize fmtE sz a b c = F at *
  generalize loadE d sz a b = L at *
  obtain ⟨⟨f1, f2, f3, f4, f5, f6⟩, Fo, Fe⟩ := F
  obtain ⟨⟨l1, l2, l3, l4, l5, l6⟩, Le⟩ := L
  unfold encR encD at *
  simp only [] at *
  refine zgo2 ?_
  exact zfin
theorem law5_p (d : Dsk) (r : Rep) (h1 : d.st.length ≤ BIG) (h2 : d.ca.length ≤ BIG) (hl : r.sizes.length ≤ BIG) (hk : DskOK d) : PC 5 [.agg (encD d), .agg (encR r)] (bV true) := by
  refine pstart Tryz.func5 Tryz.ntmps5 (.c _) ?_
  have c9 := awake_p
  have hq : ∀ x : Int, (x == x) = true := fun x => beq_self_eq_true x
  have c0 := few_p d r h1 h2 hl
  generalize hb : (fewD d && fewR r) = B at c0
  cases B
  · clear hb hk
    obtain ⟨sz, sp, dt, ep, ap, ag⟩ := r
    unfold encR encD at *
    simp only [] at *
    refine zgo2 ?_
    exact zfin
  rw [Bool.and_eq_true] at hb
  have f1 := fewD_ok hb.1
  have f2 : r.sizes.length ≤ 20 := fewR_len hb.2
  clear hb
  have c1 := image_p d r (by omega) (by omega) (by omega)
  have c2 := rimage_p d r (by omega) (by omega) (by omega)
  have c3 := acheck_p r (by omega)
  have c4 := rcheck_p r (by omega)
  have hi := imgE_len d r
  have c5 := same7_p (imgE d r).1 (by omega) (fun v hv => by have := hi.2 v hv; omega)
  clear hk hi
  generalize imgE d r = M at *
  generalize repE r = e at *
  obtain ⟨Mi, Me⟩ := M
  obtain ⟨sz, sp, dt, ep, ap, ag⟩ := r
  unfold encR encD at *
  simp only [] at *
  refine zgo2 ?_
  exact zfin
theorem law6_p (d : Dsk) (r : Rep) (n : Int) (h1 : d.st.length ≤ BIG) (h2 : d.ca.length ≤ BIG) (hl : r.sizes.length ≤ BIG) (hk : DskOK d) : PC 6 [.agg (encD d), .agg (encR r), zV n] (bV true) := by
  refine pstart Tryz.func6 Tryz.ntmps6 (.c _) ?_
  have c9 := awake_p
  have hq : ∀ x : Int, (x == x) = true := fun x => beq_self_eq_true x
  have c0 := few_p d r h1 h2 hl
  generalize hb : (fewD d && fewR r) = B at c0
  cases B
  · clear hb hk
    obtain ⟨sz, sp, dt, ep, ap, ag⟩ := r
    unfold encR encD at *
    simp only [] at *
    refine zgo2 ?_
    exact zfin
  rw [Bool.and_eq_true] at hb
  have f1 := fewD_ok hb.1
  have f2 : r.sizes.length ≤ 20 := fewR_len hb.2
  clear hb
  have c1 := begin_p d r n (by omega) (by omega) (by omega) hk.new
  have c2 := rbegin_p d r n (by omega) (by omega) (by omega) hk.new
  have c3 := end_pp d r (by omega) (by omega) (by omega) hk.new
  have c4 := rend_p d r (by omega) (by omega) (by omega) hk.new
  have c5 := raise_p d r n (by omega) (by omega) (by omega) hk.new
  have c6 := rraise_p d r n (by omega) (by omega) (by omega) hk.new
  have s1 := same35_p (beginE d r n).1 (szs_len (beginE_szs d r n) (by omega))
  have s2 := same35_p (endE d r).1 (szs_len (endE_szs d r) (by omega))
  have s3 := same35_p (raiseE d r n).1 (szs_len (raiseE_szs d r n) (by omega))
  have t1 := sameOps_p (beginE d r n).2.1 (by have := (beginE_ops2 d r n).1; omega) (beginE_ops2 d r n).2
  have t2 := sameOps_p (endE d r).2.1 (by have := (endE_ops2 d r).1; omega) (endE_ops2 d r).2
  have t3 := sameOps_p (raiseE d r n).2.1 (by have := (raiseE_ops2 d r n).1; omega) (raiseE_ops2 d r n).2
  clear hk
  generalize beginE d r n = A at *
  generalize endE d r = E at *
  generalize raiseE d r n = R at *
  obtain ⟨⟨a1, a2, a3, a4, a5, a6⟩, Ao, Ae⟩ := A
  obtain ⟨⟨e1, e2, e3, e4, e5, e6⟩, Eo, Ee⟩ := E
  obtain ⟨⟨r1, r2, r3, r4, r5, r6⟩, Ro, Re⟩ := R
  obtain ⟨sz, sp, dt, ep, ap, ag⟩ := r
  unfold ansV encR encD at *
  simp only [] at *
  refine zgo2 ?_
  exact zfin
theorem law4_p (d : Dsk) (r : Rep) (c : Cyc) (h1 : d.st.length ≤ BIG) (h2 : d.ca.length ≤ BIG) (hl : r.sizes.length ≤ BIG) (hk : DskOK d) (hp : c.pos.length ≤ BIG) (hw : c.writes.length ≤ BIG) (hs : ∀ w ∈ c.writes, w.2.2.length ≤ BIG) (hso : ∀ w ∈ c.writes, ∀ s ∈ w.2.2, SecOK s) : PC 4 [.agg (encD d), .agg (encR r), .agg (encC c)] (bV true) := by
  refine pstart Tryz.func4 Tryz.ntmps4 (.c _) ?_
  have c9 := awake_p
  have hq : ∀ x : Int, (x == x) = true := fun x => beq_self_eq_true x
  have c0 := few_p d r h1 h2 hl
  have c8 := fewC_p c hp hw hs
  generalize hb : (fewD d && fewR r) = B at c0
  generalize hd : (decide (c.pos.length ≤ 40) && fewW c.writes) = C at c8
  cases B
  · clear hb hk hd hs hso
    obtain ⟨sz, sp, dt, ep, ap, ag⟩ := r
    obtain ⟨cb, cn, ct, cp, cw⟩ := c
    unfold encR encD encC at *
    simp only [] at *
    refine zgo2 ?_
    exact zfin
  cases C
  · clear hb hk hd hs hso
    obtain ⟨sz, sp, dt, ep, ap, ag⟩ := r
    obtain ⟨cb, cn, ct, cp, cw⟩ := c
    unfold encR encD encC at *
    simp only [] at *
    refine zgo2 ?_
    exact zfin
  rw [Bool.and_eq_true] at hb hd
  have f1 := fewD_ok hb.1
  have f2 : r.sizes.length ≤ 20 := fewR_len hb.2
  have f3 : c.pos.length ≤ 40 := of_decide_eq_true hd.1
  have f4 := fewW_len hd.2
  have hc : CycLen c := ⟨by omega, by omega, fun w hw => by have := f4.2 w hw; omega⟩
  have f5 := f4.1
  clear hb hd hs f4
  have c1 := copy_p r c (by omega) hc
  have c2 := rcopyc_p r c (by omega) hc
  have c3 := apply_p d r c (by omega) hc (by omega) (by omega) hk hso
  have c4 := rapply_p d r c (by omega) hc (by omega) (by omega) hk hso
  have s1 := same35_p (applyE d r c).1 (applyE_szs d r c (by omega))
  have t1 := sameOps_p (copyE r c).1 (by have := (copyE_ops2 r c hc).1; omega) (copyE_ops2 r c hc).2
  have t2 := sameOps_p (applyE d r c).2.1 (by have := (applyE_ops2 d r c hc).1; omega) (applyE_ops2 d r c hc).2
  clear hk hso hc
  generalize applyE d r c = A at *
  generalize copyE r c = K at *
  obtain ⟨⟨a1, a2, a3, a4, a5, a6⟩, Ao, Ae⟩ := A
  obtain ⟨Ko, Ke⟩ := K
  obtain ⟨sz, sp, dt, ep, ap, ag⟩ := r
  obtain ⟨cb, cn, ct, cp, cw⟩ := c
  unfold ansV encR encD encC at *
  simp only [] at *
  refine zgo2 ?_
  exact zfin
end Go.Proofs.YtkghiceeegindaaGreatDoor

/- The laws' arguments opened. -/
namespace Go.Proofs.YtkghiceeegindaaGreatDoor
open Go.Proofs Go.AL
open Go.ChangeShapes Go.WideShapes Go.RowKit
set_option linter.unusedVariables false
set_option linter.unusedSimpArgs false

theorem u8_of {n : Int} (h : (Lit.int .u8 n).wf = true) : ByteOK n := by
  have := Go.bounds_u8 h
  exact ⟨by omega, by omega⟩
abbrev shI : Sh := .int .i64
abbrev shU : Sh := .int .u8
def shSec : List Sh := [shU, shU, shU, shU, shU, shU, shU, shU]
def shCa : List Sh := shI :: shSec
def shOp : List Sh := [shI, shI, .sl shSec]
def shD : List Sh := [.sl shSec, .sl shCa]
def shR : List Sh := [.sl [shI], shI, shI, shI, shI, shI]
def shF : List Sh := [.sl [shI], shI, shI, shI]
def shC : List Sh := [shI, shI, shI, .sl [shI], .sl shOp]
theorem open_sec (r : List AV) (h : CfR shSec r) : ∃ s : Sec, SecOK s ∧ r = encSec s := by
  obtain ⟨a0, r, rfl, h0, g0⟩ := h.uncons
  obtain ⟨a1, r, rfl, h1, g1⟩ := g0.uncons
  obtain ⟨a2, r, rfl, h2, g2⟩ := g1.uncons
  obtain ⟨a3, r, rfl, h3, g3⟩ := g2.uncons
  obtain ⟨a4, r, rfl, h4, g4⟩ := g3.uncons
  obtain ⟨a5, r, rfl, h5, g5⟩ := g4.uncons
  obtain ⟨a6, r, rfl, h6, g6⟩ := g5.uncons
  obtain ⟨a7, r, rfl, h7, g7⟩ := g6.uncons
  obtain rfl := g7.unnil
  obtain ⟨n0, rfl, w0⟩ := h0.unint
  obtain ⟨n1, rfl, w1⟩ := h1.unint
  obtain ⟨n2, rfl, w2⟩ := h2.unint
  obtain ⟨n3, rfl, w3⟩ := h3.unint
  obtain ⟨n4, rfl, w4⟩ := h4.unint
  obtain ⟨n5, rfl, w5⟩ := h5.unint
  obtain ⟨n6, rfl, w6⟩ := h6.unint
  obtain ⟨n7, rfl, w7⟩ := h7.unint
  refine ⟨((n0, n1, n2, n3), (n4, n5, n6, n7)), ⟨⟨u8_of w0, u8_of w1, u8_of w2, u8_of w3⟩, fun x hx => ?_⟩, rfl⟩
  simp only [d4, List.mem_cons, List.not_mem_nil, or_false] at hx
  rcases hx with rfl | rfl | rfl | rfl
  · exact u8_of w4
  · exact u8_of w5
  · exact u8_of w6
  · exact u8_of w7
theorem open_secs {a : AV} (h : CfS (.sl shSec) a) : ∃ l : List Sec, (∀ s ∈ l, SecOK s) ∧ l.length ≤ maxLen ∧ a = .snap (encL encSec l) := sl_enc open_sec h
theorem open_ca (r : List AV) (h : CfR shCa r) : ∃ x : Int × Sec, SecOK x.2 ∧ r = encCa x := by
  obtain ⟨a0, r, rfl, h0, g0⟩ := h.uncons
  obtain ⟨n, rfl, hn⟩ := h0.unint
  obtain ⟨s, hs, rfl⟩ := open_sec r g0
  exact ⟨(n, s), hs, rfl⟩
theorem open_cas {a : AV} (h : CfS (.sl shCa) a) : ∃ l : List (Int × Sec), (∀ x ∈ l, SecOK x.2) ∧ l.length ≤ maxLen ∧ a = .snap (encL encCa l) := sl_enc open_ca h
theorem open_int1 (r : List AV) (h : CfR [shI] r) : ∃ x : Int, True ∧ r = intRow x := by
  obtain ⟨a0, r, rfl, h0, g0⟩ := h.uncons
  obtain rfl := g0.unnil
  obtain ⟨n, rfl, hn⟩ := h0.unint
  exact ⟨n, trivial, rfl⟩
theorem open_ints {a : AV} (h : CfS (.sl [shI]) a) : ∃ l : List Int, (∀ x ∈ l, True) ∧ l.length ≤ maxLen ∧ a = .snap (encL intRow l) := sl_enc open_int1 h
theorem open_opr (r : List AV) (h : CfR shOp r) : ∃ o : Opr, ((∀ s ∈ o.2.2, SecOK s) ∧ o.2.2.length ≤ maxLen) ∧ r = opRow o := by
  obtain ⟨a0, r, rfl, h0, g0⟩ := h.uncons
  obtain ⟨a1, r, rfl, h1, g1⟩ := g0.uncons
  obtain ⟨a2, r, rfl, h2, g2⟩ := g1.uncons
  obtain rfl := g2.unnil
  obtain ⟨n0, rfl, w0⟩ := h0.unint
  obtain ⟨n1, rfl, w1⟩ := h1.unint
  obtain ⟨l, w2, w3, rfl⟩ := open_secs h2
  exact ⟨(n0, n1, l), ⟨w2, w3⟩, rfl⟩
theorem open_ops {a : AV} (h : CfS (.sl shOp) a) : ∃ l : List Opr, (∀ o ∈ l, (∀ s ∈ o.2.2, SecOK s) ∧ o.2.2.length ≤ maxLen) ∧ l.length ≤ maxLen ∧ a = .snap (encL opRow l) := sl_enc open_opr h
theorem open_dsk (r : List AV) (h : CfR shD r) : ∃ d : Dsk, (DskOK d ∧ d.st.length ≤ maxLen ∧ d.ca.length ≤ maxLen) ∧ r = encD d := by
  obtain ⟨a0, r, rfl, h0, g0⟩ := h.uncons
  obtain ⟨a1, r, rfl, h1, g1⟩ := g0.uncons
  obtain rfl := g1.unnil
  obtain ⟨st, w0, w1, rfl⟩ := open_secs h0
  obtain ⟨ca, w2, w3, rfl⟩ := open_cas h1
  exact ⟨⟨st, ca⟩, ⟨⟨w0, w2⟩, w1, w3⟩, rfl⟩
theorem open_rep (r : List AV) (h : CfR shR r) : ∃ x : Rep, x.sizes.length ≤ maxLen ∧ r = encR x := by
  obtain ⟨a0, r, rfl, h0, g0⟩ := h.uncons
  obtain ⟨a1, r, rfl, h1, g1⟩ := g0.uncons
  obtain ⟨a2, r, rfl, h2, g2⟩ := g1.uncons
  obtain ⟨a3, r, rfl, h3, g3⟩ := g2.uncons
  obtain ⟨a4, r, rfl, h4, g4⟩ := g3.uncons
  obtain ⟨a5, r, rfl, h5, g5⟩ := g4.uncons
  obtain rfl := g5.unnil
  obtain ⟨l, _, w0, rfl⟩ := open_ints h0
  obtain ⟨n1, rfl, _⟩ := h1.unint
  obtain ⟨n2, rfl, _⟩ := h2.unint
  obtain ⟨n3, rfl, _⟩ := h3.unint
  obtain ⟨n4, rfl, _⟩ := h4.unint
  obtain ⟨n5, rfl, _⟩ := h5.unint
  exact ⟨⟨l, n1, n2, n3, n4, n5⟩, w0, rfl⟩
theorem open_fmt (r : List AV) (h : CfR shF r) : ∃ x : List Int × Int × Int × Int, x.1.length ≤ maxLen ∧ r = [.snap (encL intRow x.1), zV x.2.1, zV x.2.2.1, zV x.2.2.2] := by
  obtain ⟨a0, r, rfl, h0, g0⟩ := h.uncons
  obtain ⟨a1, r, rfl, h1, g1⟩ := g0.uncons
  obtain ⟨a2, r, rfl, h2, g2⟩ := g1.uncons
  obtain ⟨a3, r, rfl, h3, g3⟩ := g2.uncons
  obtain rfl := g3.unnil
  obtain ⟨l, _, w0, rfl⟩ := open_ints h0
  obtain ⟨n1, rfl, _⟩ := h1.unint
  obtain ⟨n2, rfl, _⟩ := h2.unint
  obtain ⟨n3, rfl, _⟩ := h3.unint
  exact ⟨(l, n1, n2, n3), w0, rfl⟩
theorem open_cyc (r : List AV) (h : CfR shC r) : ∃ c : Cyc, (c.pos.length ≤ maxLen ∧ c.writes.length ≤ maxLen ∧ ∀ w ∈ c.writes, (∀ s ∈ w.2.2, SecOK s) ∧ w.2.2.length ≤ maxLen) ∧ r = encC c := by
  obtain ⟨a0, r, rfl, h0, g0⟩ := h.uncons
  obtain ⟨a1, r, rfl, h1, g1⟩ := g0.uncons
  obtain ⟨a2, r, rfl, h2, g2⟩ := g1.uncons
  obtain ⟨a3, r, rfl, h3, g3⟩ := g2.uncons
  obtain ⟨a4, r, rfl, h4, g4⟩ := g3.uncons
  obtain rfl := g4.unnil
  obtain ⟨n0, rfl, _⟩ := h0.unint
  obtain ⟨n1, rfl, _⟩ := h1.unint
  obtain ⟨n2, rfl, _⟩ := h2.unint
  obtain ⟨p, _, w0, rfl⟩ := open_ints h3
  obtain ⟨l, w1, w2, rfl⟩ := open_ops h4
  exact ⟨⟨n0, n1, n2, p, l⟩, ⟨w0, w2, w1⟩, rfl⟩
theorem open_i64 {a : AV} (h : CfS shI a) : ∃ n : Int, a = zV n := by
  obtain ⟨n, rfl, _⟩ := h.unint
  exact ⟨n, rfl⟩
theorem shp25 : shp Tryz.prog 10 25 = some shD := by kernel_rfl
theorem shp31 : shp Tryz.prog 10 31 = some shR := by kernel_rfl
theorem shp28 : shp Tryz.prog 10 28 = some shF := by kernel_rfl
theorem shp48 : shp Tryz.prog 10 48 = some shC := by kernel_rfl
theorem shp3 : shp Tryz.prog 10 3 = some [shI] := by kernel_rfl
end Go.Proofs.YtkghiceeegindaaGreatDoor
