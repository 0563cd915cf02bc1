/- Small laws of the walks: what lies below a bound stays, with its side conditions in a form that the walk decides by linear arithmetic. -/
import Derived.Test.YtelkpeoilneikaaProg
import Derived.WalkKit
import Derived.WalkLawsBesides
import Derived.WalkSpells
import Derived.Outline
import Derived.Lib.Hide
import Derived.Deep.DeepFit
namespace Go.Proofs.Ytelkpeoilneikaa
open Go.RowKit

/-- 'n < m': the walk turns it into an equation of addresses, behind the sizes' own rules, and decides that by linear arithmetic. -/
def ltB (n m : Nat) : Bool := decide (n < m)
theorem ltB_lt {n m : Nat} (h : ltB n m = true) : n < m := of_decide_eq_true h
theorem ltB_addr (n m : Nat) : (ltB n m = true) = ((⟨n + 1 - m, 0, none⟩ : Addr) = ⟨0, 0, none⟩) := by
  apply propext
  constructor
  · intro h
    have := ltB_lt h
    have : n + 1 - m = 0 := by omega
    rw [this]
  · intro h
    have := congrArg Addr.block h
    simp at this
    exact decide_eq_true (by omega)

theorem arm {B : Nat} {W w1 : World} (hb : Below B W w1) : (∀ b o, ltB b B = true → w1.cell? ⟨b, o, none⟩ = W.cell? ⟨b, o, none⟩) ∧ (∀ b o, ltB b B = true → w1.frozen? ⟨b, o, none⟩ = W.frozen? ⟨b, o, none⟩) ∧ W.heap.size ≤ w1.heap.size :=
  ⟨fun b o h => hb.cell (p := ⟨b, o, none⟩) (ltB_lt h), fun b o h => hb.frozen (p := ⟨b, o, none⟩) (ltB_lt h), hb.size⟩

theorem cellA_past (w : World) (o : Obj) (n i : Nat) (hn : ltB n w.heap.size = true) : (w.alloc o).cell? ⟨n, i, none⟩ = w.cell? ⟨n, i, none⟩ :=
  World.cell?_alloc_past o n i (ltB_lt hn)
theorem frozenA_past (w : World) (o : Obj) (n i : Nat) (hn : ltB n w.heap.size = true) : (w.alloc o).frozen? ⟨n, i, none⟩ = w.frozen? ⟨n, i, none⟩ :=
  World.frozen?_alloc_past o n i (ltB_lt hn)
theorem setCellA_past (w : World) (o : Obj) (n i : Nat) (v : Value) (hn : ltB n w.heap.size = true) : (w.alloc o).setCell ⟨n, i, none⟩ v = (w.setCell ⟨n, i, none⟩ v).alloc o :=
  World.setCell_alloc_past o n i v (ltB_lt hn)

end Go.Proofs.Ytelkpeoilneikaa
