/- Apply: contracts of its functions (Ap). No condition but those named. -/
import Derived.Test.YtkghiceeegindaaGreatDoorAo
namespace Go.Proofs.YtkghiceeegindaaGreatDoor
open Go.Proofs Go.AL
set_option maxRecDepth 100000
set_option maxHeartbeats 4000000
set_option linter.unusedVariables false
set_option linter.unusedSimpArgs false
attribute [local irreducible] endA AW aops thenA blockA hold
theorem law8_p (p : Pln) (b : Crs) (h1 : p.sizes.length ≤ 9223372036854775807) (h2 : p.lists.length ≤ 9223372036854775807) (h3 : ∀ l ∈ p.lists, l.length ≤ 9223372036854775807 ∧ ∀ w ∈ l, w.2.2.length ≤ 9223372036854775807) (hso : ∀ l ∈ p.lists, ∀ w ∈ l, ∀ s ∈ w.2.2, SecOK s)
    (h4 : b.ch1.length ≤ 9223372036854775807) (h5 : b.ch2.length ≤ 9223372036854775807) : PC 8 [.agg (encP p), .agg (encK b)] (bV true) := by
  refine pstart Tryz.func8 Tryz.ntmps8 (.c _) ?_
  have c9 := awake_p
  have c1 := right_p p h1 h2 h3
  cases hb : rightB p
  · rw [hb] at c1
    clear hb h3 hso
    obtain ⟨sz, ls⟩ := p
    obtain ⟨p1, p2, p3, p4⟩ := b
    unfold encP encK at *
    simp only [] at *
    refine zgo2 ?_
    exact zfin
  have hg := good_of hb hso
  rw [hb] at c1
  by_cases hl0 : (p.lists.length : Int) = 0
  · clear hb h3 hso hg
    obtain ⟨sz, ls⟩ := p
    obtain ⟨p1, p2, p3, p4⟩ := b
    unfold encP encK at *
    simp only [] at *
    refine zgo2 ?_
    exact zfin
  by_cases hcl : 200 < b.ch1.length
  · clear hb h3 hso hg
    obtain ⟨sz, ls⟩ := p
    obtain ⟨p1, p2, p3, p4⟩ := b
    unfold encP encK at *
    simp only [] at *
    refine zgo2 ?_
    exact zfin
  by_cases hcl2 : 200 < b.ch2.length
  · clear hb h3 hso hg
    obtain ⟨sz, ls⟩ := p
    obtain ⟨p1, p2, p3, p4⟩ := b
    unfold encP encK at *
    simp only [] at *
    refine zgo2 ?_
    exact zfin
  obtain ⟨ops0, d0, s1, s2, s3, s4⟩ := start_ok hg
  have hsm := hg.sm
  have hll := hg.ll
  obtain ⟨z1, z2, z3⟩ := sizes_ok hg.sz
  have c2 := plan_p p ops0 d0 hg.sz (by omega) s1 s2 s3
  have c3 := new_p p.sizes (by omega)
  rw [hg.sz] at c3
  have hg' := Lat.mk hg
  have hso' := Lat.mk hso
  have s4' := Lat.mk s4
  generalize newIm p.sizes = im0 at *
  clear hb h3 hso hg s1 s2 s3 s4 z3
  obtain ⟨sz, ls⟩ := p
  obtain ⟨dst, dca⟩ := d0
  obtain ⟨k1, k2, k3, k4⟩ := b
  unfold rep1 encR at c2
  unfold encD at c2
  unfold encP encK at *
  simp only [] at *
  obtain ⟨L, hL⟩ : ∃ L, ls.length = L + 1 := ⟨ls.length - 1, by omega⟩
  have w0 : IntKind.i64.wrap ((ls.length : Int) - 1) = (L : Int) := by rw [IntWalk.i64_in _ (by omega)]; omega
  have hL' := Lat.mk hL
  have hLb : L ≤ 7 := by omega
  clear hL
  refine zgo2 ?_
  refine zfor (α := Dsk × List (List Sec)) L (fun k x => [(77, true, zV k), (76, true, zV L), (10, true, zV L), (8, true, .snap (encL volRow x.2)), (7, true, bV true), (6, true, .ptr 3 0 0), (5, true, .ptr 2 0 0), (4, true, bV false), (3, true, .ptr 1 0 0), (2, true, .ptr 0 0 0)])
    (fun k x => [(0, some (.cells 73 2 [[.snap (encL intRow sz), .snap (encL wrsRow ls)]] true false)), (1, some (.cells 84 4 [[zV k1, zV k2, .snap (encL intRow k3), .snap (encL intRow k4)]] true false)), (2, some (.cells 25 2 [[.snap (encL encSec x.1.st), .snap (encL encCa x.1.ca)]] true false)), (3, some (.cells 31 6 [[.snap (encL intRow sz), zV 0, zV 16, zV 1, zV k, zV 0]] true false))])
    (fun k m x => 6 ≤ m ∧ Inv ⟨sz, ls⟩ (1 + 2 * (k : Int)) 1 k x.2 x.1) ⟨6, (⟨dst, dca⟩, im0), ⟨Nat.le_refl _, by rw [show 1 + 2 * ((0 : Nat) : Int) = 1 from rfl]; exact s4'.out⟩, zholds⟩ (fun k m x hk0 hR => ?_) (fun m x hR => ?_)
  · obtain ⟨d, im⟩ := x
    obtain ⟨hm, hI⟩ := hR
    simp only [] at hI
    have hk : k < ls.length := by have := hL'.out; omega
    have hg := hg'.out
    have hcg := cyc_good hg hk
    have hgl := hg.ls _ (getD_mem' [] hk)
    obtain ⟨l1, l2, l3, l4, l5, l6, l7⟩ := hI.lens hg
    obtain ⟨ops, d2, im2, q1, q2, q3, q4, q5, q6, q7, q8⟩ := round_ok hg hk hI ⟨by decide, by decide⟩ (by omega)
    have hwl : (foldE (ls.getD k [])).length ≤ 192 := hcg.wl
    have hwl2 : (cycO ⟨sz, ls⟩ k).writes.length ≤ 192 := hwl
    have a1 := plancycle_p ⟨sz, ls⟩ k hk hll (fun w hw => (hgl.2 w hw).2.2) (fun w hw => (fit_plc hg.sz (hgl.2 w hw).2.1).1) (by have := hgl.1; omega) (fun w hw => by have := (hgl.2 w hw).1; omega)
    have a2 := apply_p d (repK ⟨sz, ls⟩ 1 k 0) (cycO ⟨sz, ls⟩ k) (show sz.length ≤ 1000000 by omega) hcg.len (by omega) (by rw [l6]; simp only [List.length_nil]; omega) hI.ok hcg.so
    have a3 := step_p d ops (by omega) (by rw [l6]; simp only [List.length_nil]; omega)
    have a5 := cap_p im (cycO ⟨sz, ls⟩ k) (by rw [hI.sz]; exact hcg.ok) (fun v hv => by have := l3 v hv; omega) hcg.len
    rw [q1] at a2
    rw [q5 0] at a3
    rw [q6] at a5
    have q7' : Inv ⟨sz, ls⟩ (1 + 2 * ((k + 1 : Nat) : Int)) 1 (k + 1) im2 d2 := by
      rw [show 1 + 2 * ((k + 1 : Nat) : Int) = 1 + 2 * (k : Int) + 2 by omega]; exact q7
    have q7'' := Lat.mk q7'
    clear q1 q2 q3 q4 q5 q6 q7 q8 q7' l1 l2 l3 l4 l5 l6 l7 hI hcg hgl hg hwl2
    have e1 : ((k + 1 : Nat) : Int) = (k : Int) + 1 := by omega
    rw [e1] at a2
    unfold ansV at a2
    unfold repK encR at a2
    unfold cycO encC at a1 a2 a5
    unfold encP at a1
    obtain ⟨dst1, dca1⟩ := d
    obtain ⟨dst2, dca2⟩ := d2
    unfold encD at a2 a3
    simp only [] at *
    generalize foldE (ls.getD k []) = F at *
    refine zgo2 ?_
    refine ⟨m + 40, (⟨dst2, dca2⟩, im2), ⟨by omega, q7''.out⟩, ?_⟩
    exact zholds
  · obtain ⟨d, im⟩ := x
    obtain ⟨hm, hI⟩ := hR
    simp only [] at hI
    have hk : L < ls.length := by have := hL'.out; omega
    have hg := hg'.out
    have hcg := cyc_good hg hk
    have hgl := hg.ls _ (getD_mem' [] hk)
    obtain ⟨l1, l2, l3, l4, l5, l6, l7⟩ := hI.lens hg
    obtain ⟨ops, d2, im2, q1, q2, q3, q4, q5, q6, q7, q8⟩ := round_ok hg hk hI ⟨by decide, by decide⟩ (by omega)
    obtain ⟨m1, m2, m3, m4, m5, m6, m7⟩ := q7.lens hg
    have hwl : (foldE (ls.getD L [])).length ≤ 192 := hcg.wl
    have hwl2 : (cycO ⟨sz, ls⟩ L).writes.length ≤ 192 := hwl
    have a1 := plancycle_p ⟨sz, ls⟩ L hk hll (fun w hw => (hgl.2 w hw).2.2) (fun w hw => (fit_plc hg.sz (hgl.2 w hw).2.1).1) (by have := hgl.1; omega) (fun w hw => by have := (hgl.2 w hw).1; omega)
    have a2 := apply_p d (repK ⟨sz, ls⟩ 1 L 0) (cycO ⟨sz, ls⟩ L) (show sz.length ≤ 1000000 by omega) hcg.len (by omega) (by rw [l6]; simp only [List.length_nil]; omega) hI.ok hcg.so
    have a3 := cap_p im (cycO ⟨sz, ls⟩ L) (by rw [hI.sz]; exact hcg.ok) (fun v hv => by have := l3 v hv; omega) hcg.len
    rw [q1] at a2
    rw [q6] at a3
    have cl := place35_p k1 ops.length (by omega)
    obtain ⟨br, rest, i1, i2, i3, i4, i5, i6⟩ := inter_ok q8 l7 hI.ok q3 k1 k3
    have a4 := inter_p d ops (k1 % ((ops.length : Int) + 1)) k3 (by omega) (by omega) (by omega) (by rw [l6]; simp only [List.length_nil]; omega) ⟨by omega, by have i6' := i6; rw [l6] at i6'; simp only [List.length_nil] at i6'; omega⟩
    rw [i1] at a4
    have a5 := imsame_p im (by omega) (fun v hv => by have := l3 v hv; omega)
    have a6 := imsame_p im2 (by omega) (fun v hv => by have := m3 v hv; omega)
    have e1 : ((L + 1 : Nat) : Int) = (L : Int) + 1 := by omega
    have hr1 := repK_ok hg (e := 1) (k := (L : Int)) (by omega) (by omega) (by decide) (by decide)
    have hr2 := repK_ok hg (e := 1) (k := ((L + 1 : Nat) : Int)) (by omega) (by omega) (by decide) (by decide)
    have hrm := midK_ok hg (k := L) (by omega)
    have s1 := same35_p (repK ⟨sz, ls⟩ 1 (L + 1 : Nat) 0) (show sz.length ≤ 1000000 by omega)
    rw [e1] at s1
    unfold repK encR at s1
    rw [e1] at a2
    unfold ansV at a2
    unfold repK encR at a2
    unfold cycO encC at a1 a2 a3
    unfold encP at a1
    have hq9 := q7.sz
    have hD2 : (im2.flatten.length : Int) = sum sz := m2
    rcases i2 with hbr | ⟨D', hbr, hRe⟩ | hbr
    · obtain ⟨n1, n2, n3, n4⟩ := PH.lens hg l2 hbr
      have b1 : loadE br sz 0 16 = (repK ⟨sz, ls⟩ 1 L 0, 0) := load_st (r := repK ⟨sz, ls⟩ 1 L 0) rfl rfl hr1 hbr l2 n1
      have b2 := img_st (r := repK ⟨sz, ls⟩ 1 L 0) rfl hr1 rfl hbr hI.sz n1
      have x1 := aload_p br sz 0 16 (by omega) (by omega) (by rw [n3]; decide) i3.new
      have x2 := image_p br (repK ⟨sz, ls⟩ 1 L 0) (show sz.length ≤ 1000000 by omega) (by omega) (by rw [n3]; decide)
      have x3 := guarded_p br (by omega)
      have x4 := same35_p (repK ⟨sz, ls⟩ 1 L 0) (show sz.length ≤ 1000000 by omega)
      rw [b1] at x1
      rw [b2] at x2
      rw [hbr.guard] at x3
      clear b1 b2 q1 q2 q3 q4 q5 q6 q7 q8 i1 i3 i4 i5 i6 m1 m2 m3 m4 m5 m6 m7 l1 l2 l3 l4 l5 l6 l7 hr1 hr2 hrm hbr hI n1 n2 n3 n4 hg hcg hgl hwl2 hq9 hD2 e1
      unfold repK encR at x1 x2 x4
      obtain ⟨dst1, dca1⟩ := d
      obtain ⟨dst3, dca3⟩ := br
      unfold encD at a2 a4 x1 x2 x3
      simp only [] at *
      generalize foldE (ls.getD L []) = F at *
      generalize k1 % ((ops.length : Int) + 1) = pl at *
      refine zgo2 ?_
      exact zfin
    · have e2 : (repK ⟨sz, ls⟩ 1 L (L + 1 : Nat)) = repK ⟨sz, ls⟩ 1 L ((L : Int) + 1) := by rw [e1]
      have hD' : (D'.length : Int) = sum sz := hRe.1
      obtain ⟨n1, n2, n3, n4⟩ := PH.lens hg hD' hbr
      obtain ⟨ops2, d4, r1, r2, r3, r4, r5, r6, r7⟩ := redo_ok hg hk hbr i3 hRe (by omega)
      have b1 : loadE br sz 0 16 = (repK ⟨sz, ls⟩ 1 L (L + 1 : Nat), 0) := load_st (r := repK ⟨sz, ls⟩ 1 L (L + 1 : Nat)) rfl rfl hrm hbr hD' n1
      have x1 := aload_p br sz 0 16 (by omega) (by omega) (by rw [n3]; decide) i3.new
      have x3 := guarded_p br (by omega)
      have x5 := apply_p br (repK ⟨sz, ls⟩ 1 L (L + 1 : Nat)) (cycO ⟨sz, ls⟩ L) (show sz.length ≤ 1000000 by omega) hcg.len (by omega) (by rw [n3]; simp only [List.length_nil]; omega) i3 hcg.so
      rw [b1] at x1
      rw [hbr.guard] at x3
      rw [r1] at x5
      have cl2 := place35_p k2 ops2.length (by omega)
      obtain ⟨br2, rest2, j1, j2, j3, j4, j5, j6⟩ := inter_ok r7 n4 i3 r3 k2 k4
      have x6 := inter_p br ops2 (k2 % ((ops2.length : Int) + 1)) k4 (by omega) (by omega) (by omega) (by rw [n3]; simp only [List.length_nil]; omega) ⟨by omega, by have j6' := j6; rw [n3] at j6'; simp only [List.length_nil] at j6'; omega⟩
      rw [j1] at x6
      rw [e1] at x1 x5
      unfold ansV at x5
      unfold repK encR at x1 x5
      unfold cycO encC at x5
      rcases j2 with ⟨D3, hbr2, hRe2⟩ | hbr2
      · have hD3 : (D3.length : Int) = sum sz := hRe2.1
        obtain ⟨t1, t2, t3, t4⟩ := PH.lens hg hD3 hbr2
        obtain ⟨ops3, d5, u1, u2, u3, u4, u5, u6, u7⟩ := redo_ok hg hk hbr2 j3 hRe2 (by omega)
        obtain ⟨v1, v2, v3, v4⟩ := PH.lens hg hD2 u6
        have b2 : loadE br2 sz 0 16 = (repK ⟨sz, ls⟩ 1 L (L + 1 : Nat), 0) := load_st (r := repK ⟨sz, ls⟩ 1 L (L + 1 : Nat)) rfl rfl hrm hbr2 hD3 t1
        have b3 : loadE d5 sz 0 16 = (repK ⟨sz, ls⟩ 1 (L + 1 : Nat) 0, 0) := load_st (r := repK ⟨sz, ls⟩ 1 (L + 1 : Nat) 0) rfl rfl hr2 u6 hD2 v1
        have b4 := img_st (r := repK ⟨sz, ls⟩ 1 (L + 1 : Nat) 0) rfl hr2 rfl u6 hq9 v1
        have y1 := aload_p br2 sz 0 16 (by omega) (by omega) (by rw [t3]; decide) j3.new
        have y2 := apply_p br2 (repK ⟨sz, ls⟩ 1 L (L + 1 : Nat)) (cycO ⟨sz, ls⟩ L) (show sz.length ≤ 1000000 by omega) hcg.len (by omega) (by rw [t3]; simp only [List.length_nil]; omega) j3 hcg.so
        have y3 := step_p br2 ops3 (by omega) (by rw [t3]; simp only [List.length_nil]; omega)
        have y4 := aload_p d5 sz 0 16 (by omega) (by omega) (by rw [v3]; decide) u5.new
        have y5 := image_p d5 (repK ⟨sz, ls⟩ 1 (L + 1 : Nat) 0) (show sz.length ≤ 1000000 by omega) (by omega) (by rw [v3]; decide)
        have y6 := guarded_p d5 (by omega)
        rw [b2] at y1
        rw [u1] at y2
        rw [ru_run t4 u4] at y3
        rw [b3] at y4
        rw [b4] at y5
        rw [u6.guard] at y6
        rw [e1] at y1 y2 y4 y5
        clear b1 b2 b3 b4 q1 q2 q3 q4 q5 q6 q7 q8 i1 i3 i4 i5 i6 m1 m2 m3 m4 m5 m6 m7 l1 l2 l3 l4 l5 l6 l7 hr1 hr2 hrm hbr hI n1 n2 n3 n4 hg hcg hgl hwl2 hq9 hD2 e1 e2 hD' r1 r2 r3 r4 r5 r6 r7 j1 j3 j4 j5 j6 hbr2 hD3 t1 t2 t3 t4 u1 u2 u3 u4 u5 u6 u7 v1 v2 v3 v4 hRe hRe2
        unfold ansV at y2
        unfold repK encR at y1 y2 y4 y5
        unfold cycO encC at y2
        obtain ⟨dst1, dca1⟩ := d
        obtain ⟨dst3, dca3⟩ := br
        obtain ⟨dst4, dca4⟩ := br2
        obtain ⟨dst5, dca5⟩ := d5
        unfold encD at a2 a4 x1 x3 x5 x6 y1 y2 y3 y4 y5 y6
        simp only [] at *
        generalize foldE (ls.getD L []) = F at *
        generalize k1 % ((ops.length : Int) + 1) = pl at *
        generalize k2 % ((ops2.length : Int) + 1) = pl2 at *
        refine zgo2 ?_
        exact zfin
      · obtain ⟨t1, t2, t3, t4⟩ := PH.lens hg hD2 hbr2
        have b2 : loadE br2 sz 0 16 = (repK ⟨sz, ls⟩ 1 (L + 1 : Nat) 0, 0) := load_st (r := repK ⟨sz, ls⟩ 1 (L + 1 : Nat) 0) rfl rfl hr2 hbr2 hD2 t1
        have b4 := img_st (r := repK ⟨sz, ls⟩ 1 (L + 1 : Nat) 0) rfl hr2 rfl hbr2 hq9 t1
        have y1 := aload_p br2 sz 0 16 (by omega) (by omega) (by rw [t3]; decide) j3.new
        have y5 := image_p br2 (repK ⟨sz, ls⟩ 1 (L + 1 : Nat) 0) (show sz.length ≤ 1000000 by omega) (by omega) (by rw [t3]; decide)
        have y6 := guarded_p br2 (by omega)
        rw [b2] at y1
        rw [b4] at y5
        rw [hbr2.guard] at y6
        rw [e1] at y1 y5
        clear b1 b2 b4 q1 q2 q3 q4 q5 q6 q7 q8 i1 i3 i4 i5 i6 m1 m2 m3 m4 m5 m6 m7 l1 l2 l3 l4 l5 l6 l7 hr1 hr2 hrm hbr hI n1 n2 n3 n4 hg hcg hgl hwl2 hq9 hD2 e1 e2 hD' r1 r2 r3 r4 r5 r6 r7 j1 j3 j4 j5 j6 hbr2 t1 t2 t3 t4 hRe
        unfold repK encR at y1 y5
        obtain ⟨dst1, dca1⟩ := d
        obtain ⟨dst3, dca3⟩ := br
        obtain ⟨dst4, dca4⟩ := br2
        unfold encD at a2 a4 x1 x3 x5 x6 y1 y5 y6
        simp only [] at *
        generalize foldE (ls.getD L []) = F at *
        generalize k1 % ((ops.length : Int) + 1) = pl at *
        generalize k2 % ((ops2.length : Int) + 1) = pl2 at *
        refine zgo2 ?_
        exact zfin
    · obtain ⟨n1, n2, n3, n4⟩ := PH.lens hg hD2 hbr
      have b1 : loadE br sz 0 16 = (repK ⟨sz, ls⟩ 1 (L + 1 : Nat) 0, 0) := load_st (r := repK ⟨sz, ls⟩ 1 (L + 1 : Nat) 0) rfl rfl hr2 hbr hD2 n1
      have b2 := img_st (r := repK ⟨sz, ls⟩ 1 (L + 1 : Nat) 0) rfl hr2 rfl hbr hq9 n1
      have x1 := aload_p br sz 0 16 (by omega) (by omega) (by rw [n3]; decide) i3.new
      have x2 := image_p br (repK ⟨sz, ls⟩ 1 (L + 1 : Nat) 0) (show sz.length ≤ 1000000 by omega) (by omega) (by rw [n3]; decide)
      have x3 := guarded_p br (by omega)
      have x4 := same35_a sz 0 16 1 ((L : Int) + 1) 0 L (by omega) (by omega)
      rw [b1] at x1
      rw [b2] at x2
      rw [hbr.guard] at x3
      rw [e1] at x1 x2
      clear b1 b2 q1 q2 q3 q4 q5 q6 q7 q8 i1 i3 i4 i5 i6 m1 m2 m3 m4 m5 m6 m7 l1 l2 l3 l4 l5 l6 l7 hr1 hr2 hrm hbr hI n1 n2 n3 n4 hg hcg hgl hwl2 hq9 hD2 e1
      unfold repK encR at x1 x2
      obtain ⟨dst1, dca1⟩ := d
      obtain ⟨dst3, dca3⟩ := br
      unfold encD at a2 a4 x1 x2 x3
      simp only [] at *
      generalize foldE (ls.getD L []) = F at *
      generalize k1 % ((ops.length : Int) + 1) = pl at *
      refine zgo2 ?_
      exact zfin
end Go.Proofs.YtkghiceeegindaaGreatDoor
namespace Go.Proofs.YtkghiceeegindaaGreatDoor
open Go.Proofs Go.AL
open Go.ChangeShapes Go.WideShapes Go.RowKit
set_option linter.unusedVariables false
theorem open_byte {a : AV} (h : CfS (.int .u8) a) : ∃ n : Int, (0 ≤ n ∧ n < 256) ∧ a = .c (.int .u8 n) := by
  obtain ⟨n, rfl, hw⟩ := h.unint
  have hb : 0 ≤ n ∧ n ≤ 255 := Go.bounds_u8 hw
  exact ⟨n, ⟨hb.1, by omega⟩, rfl⟩
theorem shp5 : shp Tryz.prog 10 5 = some [.int .u8] := by kernel_rfl
end Go.Proofs.YtkghiceeegindaaGreatDoor
