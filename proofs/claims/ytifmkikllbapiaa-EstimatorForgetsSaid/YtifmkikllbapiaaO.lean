/- How the laws' arguments are read: a slice of steps, and an estimator by value. -/
import Derived.Test.YtifmkikllbapiaaA
import Derived.Deep.Slices
import Derived.Deep.Fields
import Derived.ChangeSame
import Derived.Lib.SmallJoins
import Derived.OpenShut
namespace Go.Proofs.Ytifmkikllbapiaa
open Go.RowKit Go.ChangeShapes Go.WideShapes Go.Deep Go.Joins
/-- A row of steps: each has two cells. -/
def StepAt (w : World) (b off : Nat) (n : Nat) (X : Nat → Bool) (T : Nat → Int) : Prop :=
  ∀ i, i < n → w.cell? ⟨b, off + i * 2, none⟩ = some (.bool (X i)) ∧ w.cell? ⟨b, off + i * 2 + 1, none⟩ = some (.int .u16 (T i)) ∧ 0 ≤ T i ∧ T i ≤ 65535
theorem StepAt.below {w w1 : World} {b off n : Nat} {X : Nat → Bool} {T : Nat → Int} (h : StepAt w b off n X T) (hb : Below w.heap.size w w1) : StepAt w1 b off n X T := by
  intro i hi
  obtain ⟨h1, h2, h3⟩ := h i hi
  have hlt : b < w.heap.size := World.block_lt_of_cell? w _ h1
  exact ⟨(hb.cell (p := ⟨b, off + i * 2, none⟩) hlt).trans h1, (hb.cell (p := ⟨b, off + i * 2 + 1, none⟩) hlt).trans h2, h3⟩
section
variable {H : Type} {enc : TypeId × Value → H} {w : World} {base : Nat} {spare : Nat → Bool} {held : Bool}
theorem steps_at {fuel : Nat} {v : Value} {x : DataW H × List MemPlace} (h : DataW.trod enc Try.prog w base spare held fuel 36 [v] = some x) :
    (∃ A cap, v = .slice A 0 cap) ∨ ∃ (b off len cap : Nat) (X : Nat → Bool) (T : Nat → Int), v = .slice (some ⟨b, off, none⟩) len cap ∧ StepAt w b off len X T := by
  rcases open_slice Try.underlying36 h with ⟨h0, _⟩ | ⟨a, len, cap, m, n, D, Pl, hcs, hb, hl, hm, hmm, hx, hi⟩
  · simp only [List.cons.injEq, and_true] at h0
    exact .inl ⟨none, 0, h0⟩
  · simp only [List.cons.injEq, and_true] at hcs
    by_cases h0 : len = 0
    · subst h0
      exact .inl ⟨_, _, hcs⟩
    · right
      have hC : Try.prog.cellsOf 39 = 2 := by kernel_rfl
      have hlm : len ≤ m := by rw [hmm]; split <;> omega
      have key : ∀ i, i < m → ∃ (p : Bool × Int), w.cell? (a.add (i * 2)) = some (.bool p.1) ∧ w.cell? (a.add (i * 2 + 1)) = some (.int .u16 p.2) ∧ 0 ≤ p.2 ∧ p.2 ≤ 65535 := by
        intro i him
        obtain ⟨cs', hc, ht'⟩ := hi i him
        rw [hC] at hc
        obtain ⟨_, hcl, hat⟩ := World.cells?_some hc
        obtain ⟨ys, n', hn', hy, hlen, hyl, hf⟩ := DataW.trod_struct Try.underlying39 ht'
        have h0 := hf 0 _ rfl
        have h1 := hf 1 _ rfl
        have a0 := hat 0 (by omega)
        have a1 := hat 1 (by omega)
        rw [add_add] at a0 a1
        match cs', hcl with
        | [u0, u1], _ =>
          have e0 : DataW.trod enc Try.prog w base spare held n' 4 [u0] = ys[0]? := by
            have hk : Try.prog.cellsOf 4 = 1 := by kernel_rfl
            simpa [hk] using h0
          have e1 : DataW.trod enc Try.prog w base spare held n' 37 [u1] = ys[1]? := by
            have hk : Try.prog.cellsOf 37 = 1 := by kernel_rfl
            simpa [hk] using h1
          have hys : ys.length = 2 := hyl
          match ys, hys with
          | [y0, y1], _ =>
            obtain ⟨b0, q0, _⟩ := DataW.trod_bool Try.underlying4 e0
            obtain ⟨n1, q1, _, wn⟩ := DataW.trod_int Try.underlying37 e1
            simp only [List.cons.injEq, and_true] at q0 q1
            subst q0 q1
            have hw : 0 ≤ n1 ∧ n1 ≤ 65535 := by
              have := bounds_u16 wn
              exact this
            exact ⟨(b0, n1), a0, a1, hw.1, hw.2⟩
      obtain ⟨F, hF⟩ := choose_lt key
      obtain ⟨b, off, spot⟩ := a
      have hspot : spot = none := by simpa [Addr.add] using World.cell?_spot (hF 0 (by omega)).1
      subst hspot
      refine ⟨b, off, len, cap, fun i => (F i).1, fun i => (F i).2, hcs, fun i hi' => ?_⟩
      obtain ⟨f0, f1, f2, f3⟩ := hF i (by omega)
      rw [add_plain] at f0 f1
      exact ⟨f0, f1, f2, f3⟩
theorem e4_at {r : Reach} {b0 : Nat} {v : Value} {d : DataW H} {p : List MemPlace} (hv : Value.okWide Try.prog w r b0 23 v) (h : DataW.Trod enc Try.prog w base spare held 23 v d p) :
    ∃ a b c e : Int, v = E4 a b c e := by
  obtain ⟨v0, v1, v2, v3, y0, y1, y2, y3, n, rfl, _, _, h0, h1, h2, h3⟩ := open_agg4 Try.underlying23 (by kernel_rfl) (by kernel_rfl) hv h
  obtain ⟨a, e0, _⟩ := DataW.trod_int Try.underlying3 h0
  obtain ⟨b, e1, _⟩ := DataW.trod_int Try.underlying3 h1
  obtain ⟨c, e2, _⟩ := DataW.trod_int Try.underlying3 h2
  obtain ⟨d, e3, _⟩ := DataW.trod_int Try.underlying3 h3
  simp only [List.cons.injEq, and_true] at e0 e1 e2 e3
  subst e0 e1 e2 e3
  exact ⟨a, b, c, d, rfl⟩
end
end Go.Proofs.Ytifmkikllbapiaa
