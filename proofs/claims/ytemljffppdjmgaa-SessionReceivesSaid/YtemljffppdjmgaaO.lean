/- How the laws' arguments are read: a session by value, a message by value. -/
import Derived.Test.YtemljffppdjmgaaRa
import Derived.Deep.Slices
import Derived.Deep.Fields
import Derived.ChangeSame
import Derived.Lib.SmallJoins
import Derived.OpenShut
namespace Go.Proofs.Ytemljffppdjmgaa
open Go.RowKit Go.ChangeShapes Go.WideShapes Go.Deep Go.Joins
section
variable {H : Type} {enc : TypeId × Value → H} {w : World} {base : Nat} {spare : Nat → Bool} {held : Bool}
theorem int_of {fuel : Nat} {c : Value} {x : DataW H × List MemPlace} (h : DataW.trod enc Try.prog w base spare held fuel 3 [c] = some x) : ∃ a, c = .int .i64 a ∧ -9223372036854775808 ≤ a ∧ a ≤ 9223372036854775807 := by
  obtain ⟨a, e, _, wa⟩ := DataW.trod_int Try.underlying3 h
  simp only [List.cons.injEq, and_true] at e
  exact ⟨a, e, bounds_i64 wa⟩
theorem slice_of {fuel : Nat} {t e : TypeId} (hs : Try.prog.underlying t = some (.slice e)) {c : Value} {x : DataW H × List MemPlace} (h : DataW.trod enc Try.prog w base spare held fuel t [c] = some x) : ∃ a l m, c = .slice a l m := by
  rcases open_slice hs h with ⟨h0, _⟩ | ⟨a, len, cap, m, n, D, Pl, hcs, _⟩
  · simp only [List.cons.injEq, and_true] at h0
    exact ⟨_, _, _, h0⟩
  · simp only [List.cons.injEq, and_true] at hcs
    exact ⟨_, _, _, hcs⟩
theorem s6_at {r : Reach} {b0 : Nat} {v : Value} {d : DataW H} {p : List MemPlace} (hv : Value.okWide Try.prog w r b0 28 v) (h : DataW.Trod enc Try.prog w base spare held 28 v d p) :
    ∃ s : Ses, v = S6 s := by
  obtain ⟨⟨cs⟩, rfl, hsz⟩ := okWide_struct Try.underlying28 hv
  have hC : Try.prog.cellsOf 28 = 6 := by kernel_rfl
  have k3 : Try.prog.cellsOf 3 = 1 := by kernel_rfl
  rw [hC] at hsz
  obtain ⟨fuel, hf⟩ := h
  obtain ⟨ys, n, _, hy, _, hyl, hg⟩ := DataW.trod_struct Try.underlying28 hf
  match cs, hsz with
  | [c0, c1, c2, c3, c4, c5], _ =>
    have hys : ys.length = 6 := hyl
    match ys, hys with
    | [y0, y1, y2, y3, y4, y5], _ =>
      have g0 : DataW.trod enc Try.prog w base spare held n 3 [c0] = some y0 := by simpa [Value.cells, k3] using hg 0 _ rfl
      obtain ⟨a0, rfl, b0⟩ := int_of g0
      have g1 : DataW.trod enc Try.prog w base spare held n 3 [c1] = some y1 := by simpa [Value.cells, k3] using hg 1 _ rfl
      obtain ⟨a1, rfl, b1⟩ := int_of g1
      have g2 : DataW.trod enc Try.prog w base spare held n 3 [c2] = some y2 := by simpa [Value.cells, k3] using hg 2 _ rfl
      obtain ⟨a2, rfl, b2⟩ := int_of g2
      have g3 : DataW.trod enc Try.prog w base spare held n 3 [c3] = some y3 := by simpa [Value.cells, k3] using hg 3 _ rfl
      obtain ⟨a3, rfl, b3⟩ := int_of g3
      have g4 : DataW.trod enc Try.prog w base spare held n 3 [c4] = some y4 := by simpa [Value.cells, k3] using hg 4 _ rfl
      obtain ⟨a4, rfl, b4⟩ := int_of g4
      have g5 : DataW.trod enc Try.prog w base spare held n 3 [c5] = some y5 := by simpa [Value.cells, k3] using hg 5 _ rfl
      obtain ⟨a5, rfl, b5⟩ := int_of g5
      exact ⟨⟨a0, a1, a2, a3, a4, a5⟩, rfl⟩
theorem m8_at {r : Reach} {b0 : Nat} {v : Value} {d : DataW H} {p : List MemPlace} (hv : Value.okWide Try.prog w r b0 51 v) (h : DataW.Trod enc Try.prog w base spare held 51 v d p) :
    ∃ (m : Msg) (x : Int) (va ba : Option Addr) (vl vc bl bc : Nat), v = MV m x (.slice va vl vc) (.slice ba bl bc) ∧ -9223372036854775808 ≤ m.k ∧ m.k ≤ 9223372036854775807 := by
  obtain ⟨⟨cs⟩, rfl, hsz⟩ := okWide_struct Try.underlying51 hv
  have hC : Try.prog.cellsOf 51 = 8 := by kernel_rfl
  have k3 : Try.prog.cellsOf 3 = 1 := by kernel_rfl
  have k48 : Try.prog.cellsOf 48 = 1 := by kernel_rfl
  have k49 : Try.prog.cellsOf 49 = 1 := by kernel_rfl
  rw [hC] at hsz
  obtain ⟨fuel, hf⟩ := h
  obtain ⟨ys, n, _, hy, _, hyl, hg⟩ := DataW.trod_struct Try.underlying51 hf
  match cs, hsz with
  | [c0, c1, c2, c3, c4, c5, c6, c7], _ =>
    have hys : ys.length = 8 := hyl
    match ys, hys with
    | [y0, y1, y2, y3, y4, y5, y6, y7], _ =>
      have g0 : DataW.trod enc Try.prog w base spare held n 3 [c0] = some y0 := by simpa [Value.cells, k3] using hg 0 _ rfl
      obtain ⟨a0, rfl, b0⟩ := int_of g0
      have g1 : DataW.trod enc Try.prog w base spare held n 3 [c1] = some y1 := by simpa [Value.cells, k3] using hg 1 _ rfl
      obtain ⟨a1, rfl, b1⟩ := int_of g1
      have g2 : DataW.trod enc Try.prog w base spare held n 3 [c2] = some y2 := by simpa [Value.cells, k3] using hg 2 _ rfl
      obtain ⟨a2, rfl, b2⟩ := int_of g2
      have g3 : DataW.trod enc Try.prog w base spare held n 3 [c3] = some y3 := by simpa [Value.cells, k3] using hg 3 _ rfl
      obtain ⟨a3, rfl, b3⟩ := int_of g3
      have g4 : DataW.trod enc Try.prog w base spare held n 3 [c4] = some y4 := by simpa [Value.cells, k3] using hg 4 _ rfl
      obtain ⟨a4, rfl, b4⟩ := int_of g4
      have g5 : DataW.trod enc Try.prog w base spare held n 3 [c5] = some y5 := by simpa [Value.cells, k3] using hg 5 _ rfl
      obtain ⟨a5, rfl, b5⟩ := int_of g5
      have g6 : DataW.trod enc Try.prog w base spare held n 48 [c6] = some y6 := by simpa [Value.cells, k48] using hg 6 _ rfl
      obtain ⟨t6, l6, m6, rfl⟩ := slice_of Try.underlying48 g6
      have g7 : DataW.trod enc Try.prog w base spare held n 49 [c7] = some y7 := by simpa [Value.cells, k49] using hg 7 _ rfl
      obtain ⟨t7, l7, m7, rfl⟩ := slice_of Try.underlying49 g7
      exact ⟨⟨a0, a1, a2, a3, a5⟩, a4, _, _, _, _, _, _, rfl, b0⟩
end
end Go.Proofs.Ytemljffppdjmgaa
