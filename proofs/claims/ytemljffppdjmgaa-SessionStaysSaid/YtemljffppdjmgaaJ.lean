/- What the laws with steps share: the steps read, and small laws of blocks. -/
import Derived.Test.YtemljffppdjmgaaK
import Derived.Deep.LoopGhost
import Derived.Deep.DeepCutAuto
namespace Go.Proofs.Ytemljffppdjmgaa
open Go.RowKit
/-- A row of steps: each has three cells. -/
def StepAt (w : World) (b off : Nat) (n : Nat) (K : Nat → Int) (O : Nat → Bool) (Q : Nat → Int) : Prop :=
  ∀ i, i < n → w.cell? ⟨b, off + i * 3, none⟩ = some (.int .u8 (K i)) ∧ w.cell? ⟨b, off + i * 3 + 1, none⟩ = some (.bool (O i)) ∧ w.cell? ⟨b, off + i * 3 + 2, none⟩ = some (.int .u8 (Q i)) ∧ 0 ≤ K i ∧ K i ≤ 255 ∧ 0 ≤ Q i ∧ Q i ≤ 255
theorem StepAt.lt {w : World} {b off n : Nat} {K : Nat → Int} {O : Nat → Bool} {Q : Nat → Int} (h : StepAt w b off n K O Q) {i : Nat} (hi : i < n) : b < w.heap.size := World.block_lt_of_cell? w _ (h i hi).1
theorem StepAt.below {w w1 : World} {b off n : Nat} {K : Nat → Int} {O : Nat → Bool} {Q : Nat → Int} (h : StepAt w b off n K O Q) (hb : Below w.heap.size w w1) : StepAt w1 b off n K O Q := by
  intro i hi
  obtain ⟨h1, h2, h3, h4⟩ := h i hi
  exact ⟨cell_below h1 hb, cell_below h2 hb, cell_below h3 hb, h4⟩
theorem Blk.far12 {w : World} {g g2 t : Nat} {cs : Array Value} {a' b' c' d' e' f' m' n' o' p' q' r' : Value} (h : Blk w g cs t) (hne : g ≠ g2) : Blk ((((((((((((w.setCell ⟨g2, 0, none⟩ a').setCell ⟨g2, 1, none⟩ b').setCell ⟨g2, 2, none⟩ c').setCell ⟨g2, 3, none⟩ d').setCell ⟨g2, 4, none⟩ e').setCell ⟨g2, 5, none⟩ f').setCell ⟨g2, 6, none⟩ m').setCell ⟨g2, 7, none⟩ n').setCell ⟨g2, 8, none⟩ o').setCell ⟨g2, 9, none⟩ p').setCell ⟨g2, 10, none⟩ q').setCell ⟨g2, 11, none⟩ r') g cs t :=
  (((((((((((h.far hne _).far hne _).far hne _).far hne _).far hne _).far hne _).far hne _).far hne _).far hne _).far hne _).far hne _).far hne _
end Go.Proofs.Ytemljffppdjmgaa
