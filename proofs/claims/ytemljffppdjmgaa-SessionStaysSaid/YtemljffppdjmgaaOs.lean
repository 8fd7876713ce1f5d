/- How the arguments of the laws with steps are read: the start, the steps, two offsets. -/
import Derived.Test.YtemljffppdjmgaaJ
import Derived.Deep.Slices
import Derived.Deep.Fields
import Derived.ChangeSame
import Derived.Lib.SmallJoins
import Derived.OpenShut
namespace Go.Proofs.Ytemljffppdjmgaa
open Go.RowKit Go.ChangeShapes Go.WideShapes Go.Deep Go.Joins
section
variable {H : Type} {enc : TypeId × Value → H} {w : World} {base : Nat} {spare : Nat → Bool} {held : Bool}
theorem u8_of {fuel : Nat} {c : Value} {x : DataW H × List MemPlace} (h : DataW.trod enc Try.prog w base spare held fuel 5 [c] = some x) : ∃ a, c = .int .u8 a ∧ 0 ≤ a ∧ a ≤ 255 := by
  obtain ⟨a, e, _, wa⟩ := DataW.trod_int Try.underlying5 h
  simp only [List.cons.injEq, and_true] at e
  exact ⟨a, e, bounds_u8 wa⟩
theorem i8_of {fuel : Nat} {c : Value} {x : DataW H × List MemPlace} (h : DataW.trod enc Try.prog w base spare held fuel 45 [c] = some x) : ∃ a, c = .int .i8 a ∧ -128 ≤ a ∧ a ≤ 127 := by
  obtain ⟨a, e, _, wa⟩ := DataW.trod_int Try.underlying45 h
  simp only [List.cons.injEq, and_true] at e
  exact ⟨a, e, bounds_i8 wa⟩
theorem two_of {fuel t e : Nat} (ht : Try.prog.underlying t = some (.array 2 e)) (hc : Try.prog.cellsOf e = 1) {c0 c1 : Value} {x : DataW H × List MemPlace} (h : DataW.trod enc Try.prog w base spare held fuel t [c0, c1] = some x) :
    ∃ (y0 y1 : DataW H × List MemPlace) (m : Nat), DataW.trod enc Try.prog w base spare held m e [c0] = some y0 ∧ DataW.trod enc Try.prog w base spare held m e [c1] = some y1 := by
  obtain ⟨ys, m, _, _, _, hyl, hg⟩ := DataW.trod_array ht h
  match ys, hyl with
  | [y0, y1], _ => exact ⟨y0, y1, m, by simpa [hc] using hg 0 (by omega), by simpa [hc] using hg 1 (by omega)⟩
theorem okWide_ar {r : Reach} {b0 n : Nat} {t e : TypeId} {v : Value} (ht : Try.prog.underlying t = some (.array n e)) (h : Value.okWide Try.prog w r b0 t v) : ∃ cs, v = .agg cs ∧ cs.size = Try.prog.cellsOf t := by
  simp only [Value.okWide, ht] at h
  obtain ⟨cs, h1, h2, _⟩ := h
  exact ⟨cs, h1, h2⟩
theorem start_at {r : Reach} {b0 : Nat} {v : Value} {d : DataW H} {p : List MemPlace} (hv : Value.okWide Try.prog w r b0 24 v) (h : DataW.Trod enc Try.prog w base spare held 24 v d p) :
    ∃ e0 e1 n0 n1 : Int, v = .agg #[.int .u8 e0, .int .u8 e1, .int .u8 n0, .int .u8 n1] ∧ (0 ≤ e0 ∧ e0 ≤ 255) ∧ (0 ≤ e1 ∧ e1 ≤ 255) ∧ (0 ≤ n0 ∧ n0 ≤ 255) ∧ 0 ≤ n1 ∧ n1 ≤ 255 := by
  obtain ⟨⟨cs⟩, rfl, hsz⟩ := okWide_struct Try.underlying24 hv
  have hC : Try.prog.cellsOf 24 = 4 := by kernel_rfl
  have k22 : Try.prog.cellsOf 22 = 2 := by kernel_rfl
  have k5 : Try.prog.cellsOf 5 = 1 := by kernel_rfl
  rw [hC] at hsz
  obtain ⟨fuel, hf⟩ := h
  obtain ⟨ys, n, _, hy, _, hyl, hg⟩ := DataW.trod_struct Try.underlying24 hf
  match cs, hsz with
  | [c0, c1, c2, c3], _ =>
    have hys : ys.length = 2 := hyl
    match ys, hys with
    | [y0, y1], _ =>
      have g0 : DataW.trod enc Try.prog w base spare held n 22 [c0, c1] = some y0 := by simpa [Value.cells, k22] using hg 0 _ rfl
      have g1 : DataW.trod enc Try.prog w base spare held n 22 [c2, c3] = some y1 := by simpa [Value.cells, k22] using hg 1 _ rfl
      obtain ⟨z0, z1, m, q0, q1⟩ := two_of Try.underlying22 k5 g0
      obtain ⟨z2, z3, m2, q2, q3⟩ := two_of Try.underlying22 k5 g1
      obtain ⟨a0, rfl, w0⟩ := u8_of q0
      obtain ⟨a1, rfl, w1⟩ := u8_of q1
      obtain ⟨a2, rfl, w2⟩ := u8_of q2
      obtain ⟨a3, rfl, w3⟩ := u8_of q3
      exact ⟨a0, a1, a2, a3, rfl, w0, w1, w2, w3⟩
theorem more_at {r : Reach} {b0 : Nat} {v : Value} {d : DataW H} {p : List MemPlace} (hv : Value.okWide Try.prog w r b0 46 v) (h : DataW.Trod enc Try.prog w base spare held 46 v d p) :
    ∃ m0 m1 : Int, v = .agg #[.int .i8 m0, .int .i8 m1] ∧ (-128 ≤ m0 ∧ m0 ≤ 127) ∧ -128 ≤ m1 ∧ m1 ≤ 127 := by
  obtain ⟨⟨cs⟩, rfl, hsz⟩ := okWide_ar Try.underlying46 hv
  have hC : Try.prog.cellsOf 46 = 2 := by kernel_rfl
  have k45 : Try.prog.cellsOf 45 = 1 := by kernel_rfl
  rw [hC] at hsz
  obtain ⟨fuel, hf⟩ := h
  match cs, hsz with
  | [c0, c1], _ =>
    obtain ⟨z0, z1, m, q0, q1⟩ := two_of Try.underlying46 k45 hf
    obtain ⟨a0, rfl, w0⟩ := i8_of q0
    obtain ⟨a1, rfl, w1⟩ := i8_of q1
    exact ⟨a0, a1, rfl, w0, w1⟩
theorem steps_at {fuel : Nat} {v : Value} {x : DataW H × List MemPlace} (h : DataW.trod enc Try.prog w base spare held fuel 25 [v] = some x) :
    ∃ (A : Option Addr) (len cap : Nat) (K : Nat → Int) (O : Nat → Bool) (Q : Nat → Int), v = .slice A len cap ∧ (0 < len → ∃ b off, A = some ⟨b, off, none⟩ ∧ StepAt w b off len K O Q) := by
  rcases open_slice Try.underlying25 h with ⟨h0, _⟩ | ⟨a, len, cap, m, n, D, Pl, hcs, hb, hl, hm, hmm, hx, hi⟩
  · simp only [List.cons.injEq, and_true] at h0
    exact ⟨none, 0, 0, fun _ => 0, fun _ => false, fun _ => 0, h0, fun h => absurd h (by omega)⟩
  · simp only [List.cons.injEq, and_true] at hcs
    by_cases h0 : len = 0
    · subst h0
      exact ⟨_, _, _, fun _ => 0, fun _ => false, fun _ => 0, hcs, fun h => absurd h (by omega)⟩
    · have hC : Try.prog.cellsOf 36 = 3 := by kernel_rfl
      have k5 : Try.prog.cellsOf 5 = 1 := by kernel_rfl
      have k4 : Try.prog.cellsOf 4 = 1 := by kernel_rfl
      have hlm : len ≤ m := by rw [hmm]; split <;> omega
      have key : ∀ i, i < m → ∃ (p : Int × Bool × Int), w.cell? (a.add (i * 3)) = some (.int .u8 p.1) ∧ w.cell? (a.add (i * 3 + 1)) = some (.bool p.2.1) ∧ w.cell? (a.add (i * 3 + 2)) = some (.int .u8 p.2.2) ∧ 0 ≤ p.1 ∧ p.1 ≤ 255 ∧ 0 ≤ p.2.2 ∧ p.2.2 ≤ 255 := by
        intro i him
        obtain ⟨cs', hc, ht'⟩ := hi i him
        rw [hC] at hc
        obtain ⟨_, hcl, hat⟩ := World.cells?_some hc
        obtain ⟨ys, n', hn', hy, hlen, hyl, hf⟩ := DataW.trod_struct Try.underlying36 ht'
        have h0 := hf 0 _ rfl
        have h1 := hf 1 _ rfl
        have h2 := hf 2 _ rfl
        have a0 := hat 0 (by omega)
        have a1 := hat 1 (by omega)
        have a2 := hat 2 (by omega)
        rw [add_add] at a0 a1 a2
        match cs', hcl with
        | [u0, u1, u2], _ =>
          have hys : ys.length = 3 := hyl
          match ys, hys with
          | [y0, y1, y2], _ =>
            have e0 : DataW.trod enc Try.prog w base spare held n' 5 [u0] = some y0 := by simpa [k5] using h0
            have e1 : DataW.trod enc Try.prog w base spare held n' 4 [u1] = some y1 := by simpa [k4] using h1
            have e2 : DataW.trod enc Try.prog w base spare held n' 5 [u2] = some y2 := by simpa [k5] using h2
            obtain ⟨p0, rfl, w0⟩ := u8_of e0
            obtain ⟨p1, q1, _⟩ := DataW.trod_bool Try.underlying4 e1
            obtain ⟨p2, rfl, w2⟩ := u8_of e2
            simp only [List.cons.injEq, and_true] at q1
            subst q1
            exact ⟨(p0, p1, p2), a0, a1, a2, w0.1, w0.2, w2.1, w2.2⟩
      obtain ⟨F, hF⟩ := choose_lt key
      obtain ⟨b, off, spot⟩ := a
      have hspot : spot = none := by simpa [Addr.add] using World.cell?_spot (hF 0 (by omega)).1
      subst hspot
      refine ⟨_, len, cap, fun i => (F i).1, fun i => (F i).2.1, fun i => (F i).2.2, hcs, fun _ => ⟨b, off, rfl, fun i hi' => ?_⟩⟩
      obtain ⟨f0, f1, f2, f3⟩ := hF i (by omega)
      rw [add_plain] at f0 f1 f2
      exact ⟨f0, f1, f2, f3⟩
end
end Go.Proofs.Ytemljffppdjmgaa
