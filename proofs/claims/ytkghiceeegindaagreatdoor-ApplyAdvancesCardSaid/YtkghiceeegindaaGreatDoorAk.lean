/- Apply: contracts of its functions (Ak). No condition but those named. -/
import Derived.Shelf.SlicesG.Cmp
import Derived.Shelf.Lay
import Derived.Ground.SlgcProg
import Derived.Test.YtkghiceeegindaaGreatDoorProg
import Derived.Deep.RegionLaw
import Derived.Deep.RegionHeld3
import Derived.Deep.RegionWith
import Derived.Sort.Grow
import Derived.Deep.Draws
import Derived.LoopN
import Derived.RowKit3
import Derived.Below
namespace Go.Proofs.YtkghiceeegindaaGreatDoor
open Go.Proofs Go.Sort Go.Shelf Go.Lib
set_option maxRecDepth 10000
set_option linter.unusedVariables false
set_option linter.unusedSimpArgs false
shelf_lay_g SlLaysC2.n5 Slgc 5 at Tryz 172 as Tryz.cmpP
def cfP (x y : Int × Int) : Int := if Lib.compareInt x.1 y.1 = 0 then Lib.compareInt x.2 y.2 else Lib.compareInt x.1 y.1
set_option maxHeartbeats 1000000 in
theorem or_w (x y : Int) (b : Nat) (cap : Nat) (W : World) (h0 : W.cell? ⟨b, 0, none⟩ = some (.int .i64 x)) (h1 : W.cell? ⟨b, 1, none⟩ = some (.int .i64 y)) :
    Calls Tryz.prog 171 #[.slice (some ⟨b, 0, none⟩) 2 cap] W fun e w' => e = .returned (.int .i64 (if x = 0 then y else x)) ∧ w' = W := by
  by_cases hx : x = 0
  · rw [if_pos hx]
    subst hx
    by_cases hy : y = 0
    · subst hy
      go_enter Tryz.func171, Tryz.ntmps171
      go_wp2_with (first | (refine wp_loop_rounds 3 ?_; rw [rounds_succ]) | rw [rounds_succ])
      go_ret
      exact ⟨rfl, rfl⟩
    · have hyb : (y != 0) = true := by simp [hy]
      go_enter Tryz.func171, Tryz.ntmps171
      go_wp2_with (first | (refine wp_loop_rounds 3 ?_; rw [rounds_succ]) | rw [rounds_succ])
      all_goals first | (go_ret; exact ⟨rfl, rfl⟩) | (rename_i h; rw [hyb] at h; cases h) | skip
  · rw [if_neg hx]
    have hyb : (x != 0) = true := by simp [hx]
    go_enter Tryz.func171, Tryz.ntmps171
    go_wp2_with (first | (refine wp_loop_rounds 3 ?_; rw [rounds_succ]) | rw [rounds_succ])
    all_goals first | (go_ret; exact ⟨rfl, rfl⟩) | (rename_i h; rw [hyb] at h; cases h) | skip
def Ext (W w' : World) : Prop := ∃ q os', w' = grow (W.drewN q) os'
theorem Ext.drew {W w : World} (h : Ext W w) : Ext W w.drew := by
  obtain ⟨q, os, rfl⟩ := h
  exact ⟨q + 1, os, rfl⟩
theorem Ext.alloc {W w : World} (h : Ext W w) (o : Obj) : Ext W (w.alloc o) := by
  obtain ⟨q, os, rfl⟩ := h
  exact ⟨q, os.push o, by rw [alloc_eq_grow, grow_grow]; rfl⟩
theorem new_cell (w : World) (c : Array Value) (e : TypeId) (i : Nat) : (w.alloc (.cells c e)).cell? ⟨w.heap.size, i, none⟩ = c[i]? := by
  simp
theorem keep_cell {w : World} {o : Obj} {a : Addr} {v : Value} (h : w.cell? a = some v) (hb : a.block < w.heap.size) : (w.alloc o).cell? a = some v := by
  unfold World.cell? at h ⊢
  rw [Go.RowKit.Below.heap_alloc w o a.block hb]
  exact h
set_option maxHeartbeats 4000000 in
theorem before_w (x y : Int × Int) (W : World) : Calls Tryz.prog 161 #[.agg #[.int .i64 x.1, .int .i64 x.2], .agg #[.int .i64 y.1, .int .i64 y.2]] W fun e w' => e = .returned (.int .i64 (cfP x y)) ∧ ∃ q os', w' = grow (W.drewN q) os' := by
  have hcon : ∀ (a b : Int) W', Calls Tryz.prog 172 #[.int .i64 a, .int .i64 b] W' fun e w' => e = .returned (.int .i64 (Lib.compareInt a b)) ∧ w' = W' := fun a b W' => AnyG.cmp_Compare_int Tryz.cmpP a b W'
  unfold cfP
  have h1 := hcon x.1 y.1
  have h2 := hcon x.2 y.2
  have h3 := or_w (Lib.compareInt x.1 y.1) (Lib.compareInt x.2 y.2)
  generalize (if Lib.compareInt x.1 y.1 = 0 then Lib.compareInt x.2 y.2 else Lib.compareInt x.1 y.1) = r at *
  generalize Lib.compareInt x.1 y.1 = r1 at *
  generalize Lib.compareInt x.2 y.2 = r2 at *
  obtain ⟨x1, x2⟩ := x
  obtain ⟨y1, y2⟩ := y
  simp only [] at *
  clear hcon
  go_enter Tryz.func161, Tryz.ntmps161
  go_wp2
  change Code.wp _ _ _ _ ((W.alloc (.cells #[.int .i64 x1, .int .i64 x2] 240)).alloc (.cells #[.int .i64 y1, .int .i64 y2] 240))
  obtain ⟨W2, hW2⟩ : ∃ W2, W2 = ((W.alloc (.cells #[.int .i64 x1, .int .i64 x2] 240)).alloc (.cells #[.int .i64 y1, .int .i64 y2] 240)) := ⟨_, rfl⟩
  rw [← hW2]
  have c0 : W2.cell? ⟨W.heap.size, 0, none⟩ = some (.int .i64 x1) := by rw [hW2]; simp
  have c1 : W2.cell? ⟨W.heap.size, 1, none⟩ = some (.int .i64 x2) := by rw [hW2]; simp
  have c2 : W2.cell? ⟨W.heap.size + 1, 0, none⟩ = some (.int .i64 y1) := by rw [hW2]; simp
  have c3 : W2.cell? ⟨W.heap.size + 1, 1, none⟩ = some (.int .i64 y2) := by rw [hW2]; simp
  have hg : W2 = grow (W.drewN 0) #[.cells #[.int .i64 x1, .int .i64 x2] 240, .cells #[.int .i64 y1, .int .i64 y2] 240] := by rw [hW2, alloc_eq_grow, alloc_eq_grow, grow_grow]; rfl
  have hsz : W.heap.size + 2 ≤ W2.heap.size := by rw [hW2]; simp
  have hx : Ext W W2 := ⟨0, _, hg⟩
  clear hW2 hg
  go_region_held3 (fun w' : World => w'.cell? ⟨W.heap.size, 0, none⟩ = some (.int .i64 x1) ∧ w'.cell? ⟨W.heap.size, 1, none⟩ = some (.int .i64 x2) ∧ w'.cell? ⟨W.heap.size + 1, 0, none⟩ = some (.int .i64 y1) ∧ w'.cell? ⟨W.heap.size + 1, 1, none⟩ = some (.int .i64 y2) ∧ W.heap.size + 2 ≤ w'.heap.size ∧ Ext W w') ((((try dsimp only); (try go_split_ands); (repeat' apply And.intro)) <;> (first | (go_simp; done) | omega | exact keep_cell (w := W2.drew) c0 (by show W.heap.size < W2.heap.size; omega) | exact keep_cell (w := W2.drew) c1 (by show W.heap.size < W2.heap.size; omega) | exact keep_cell (w := W2.drew) c2 (by show W.heap.size + 1 < W2.heap.size; omega) | exact keep_cell (w := W2.drew) c3 (by show W.heap.size + 1 < W2.heap.size; omega) | (show W.heap.size + 2 ≤ (W2.heap.push _).size; rw [Array.size_push]; omega) | (simp only [World.size_drew, World.size_alloc, World.size_setCell]; omega) | (repeat (first | assumption | apply Ext.drew | apply Ext.alloc)) | (go_keep; done)))) (first | (go_at_call 172; first | ((with_reducible refine (h1 _).mono ?_); rintro e w' ⟨rfl, rfl⟩) | ((with_reducible refine (h2 _).mono ?_); rintro e w' ⟨rfl, rfl⟩)) | (go_at_call 171; (with_reducible refine (h3 _ _ _ ?q1 ?q2).mono ?_); (case q1 => exact new_cell W2.drew #[.int .i64 r1, .int .i64 r2] 3 0); (case q2 => exact new_cell W2.drew #[.int .i64 r1, .int .i64 r2] 3 1); rintro e w' ⟨rfl, rfl⟩))
  rename_i hH
  obtain ⟨_, _, _, _, _, hE⟩ := hH
  go_wp2
  go_ret
  exact ⟨rfl, hE⟩
end Go.Proofs.YtkghiceeegindaaGreatDoor
