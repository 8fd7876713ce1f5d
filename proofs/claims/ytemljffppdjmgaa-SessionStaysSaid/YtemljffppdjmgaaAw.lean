/- The contract of awake: true, and nothing that existed before is changed. -/
import Derived.Test.YtemljffppdjmgaaD
namespace Go.Proofs.Ytemljffppdjmgaa
open Go.RowKit
set_option linter.unusedVariables false
/-- A call that gives a session and messages, with the session's cells written out. -/
theorem gave_of {fn : Nat} {args : Array Value} {w : World} {t t' : Ses} {ms ms' : List Msg} (h : Calls Try.prog fn args w (Gave t ms w)) (e1 : t = t') (e2 : ms = ms') :
    Calls Try.prog fn args w (Gave t' ms' w) := by
  subst e1 e2
  exact h
theorem dialled_of {fn : Nat} {args : Array Value} {w : World} {t t' : Ses} {ms ms' : List Msg} {c c' : Int} (h : Calls Try.prog fn args w (Dialled t ms c w)) (e1 : (t, ms, c) = (t', ms', c')) :
    Calls Try.prog fn args w (Dialled t' ms' c' w) := by
  cases e1
  exact h
theorem aw_new1 (w : World) : Calls Try.prog 20 #[.int .i64 0, .int .i64 1, .int .i64 2, .int .i64 4] w fun e' w' => e' = .returned (.tuple #[S6 ⟨0, 1, 2, 4, 0, 0⟩, .int .i64 0]) ∧ Below w.heap.size w w' := by
  have h : newF 0 1 2 4 = (⟨0, 1, 2, 4, 0, 0⟩, 0) := by rfl
  have h2 := new_any 0 1 2 4 w
  rwa [h] at h2
theorem aw_new2 (w : World) : Calls Try.prog 20 #[.int .i64 1, .int .i64 0, .int .i64 2, .int .i64 6] w fun e' w' => e' = .returned (.tuple #[S6 ⟨1, 0, 2, 6, 0, 0⟩, .int .i64 0]) ∧ Below w.heap.size w w' := by
  have h : newF 1 0 2 6 = (⟨1, 0, 2, 6, 0, 0⟩, 0) := by rfl
  have h2 := new_any 1 0 2 6 w
  rwa [h] at h2
theorem aw_dial1 (w : World) : Calls Try.prog 14 #[S6 ⟨0, 1, 2, 4, 0, 0⟩, .int .i64 0, .int .i64 9] w (Dialled ⟨0, 1, 2, 5, 1, 9⟩ [⟨5, 0, 1, 5, 2⟩] 0 w) := by
  refine dialled_of (dial_any _ _ _ w) ?_
  rfl
theorem aw_dial2 (w : World) : Calls Try.prog 14 #[S6 ⟨0, 1, 2, 6, 0, 0⟩, .int .i64 1, .int .i64 9] w (Dialled ⟨0, 1, 2, 7, 1, 10⟩ [⟨5, 0, 1, 7, 2⟩] 0 w) := by
  refine dialled_of (dial_any _ _ _ w) ?_
  rfl
theorem aw_del1 (w : World) (base : Nat) (v : Value) (h : Row w base v [⟨5, 0, 1, 5, 2⟩]) : Calls Try.prog 15 #[S6 ⟨1, 0, 2, 6, 0, 0⟩, v] w (Gave ⟨1, 0, 2, 6, 0, 0⟩ [⟨7, 1, 0, 6, 2⟩] w) :=
  gave_of (deliver_any _ base v _ w h (by simp) (by simp)) (by rfl) (by rfl)
theorem aw_del2 (w : World) (base : Nat) (v : Value) (h : Row w base v [⟨7, 1, 0, 6, 2⟩]) : Calls Try.prog 15 #[S6 ⟨0, 1, 2, 5, 1, 9⟩, v] w (Gave ⟨0, 1, 2, 6, 0, 0⟩ [] w) :=
  gave_of (deliver_any _ base v _ w h (by simp) (by simp)) (by rfl) (by rfl)
theorem aw_del3 (w : World) (base : Nat) (v : Value) (h : Row w base v [⟨5, 0, 1, 7, 2⟩]) : Calls Try.prog 15 #[S6 ⟨1, 0, 2, 6, 0, 0⟩, v] w (Gave ⟨1, 0, 2, 7, 2, 0⟩ [⟨6, 1, 0, 7, 2⟩] w) :=
  gave_of (deliver_any _ base v _ w h (by simp) (by simp)) (by rfl) (by rfl)
theorem aw_del4 (w : World) (base : Nat) (v : Value) (h : Row w base v [⟨6, 1, 0, 7, 2⟩]) : Calls Try.prog 15 #[S6 ⟨0, 1, 2, 7, 1, 10⟩, v] w (Gave ⟨0, 1, 2, 7, 2, 0⟩ [] w) :=
  gave_of (deliver_any _ base v _ w h (by simp) (by simp)) (by rfl) (by rfl)
theorem aw_del5 (w : World) (base : Nat) (v : Value) (h : Row w base v [⟨5, 0, 1, 5, 2⟩]) : Calls Try.prog 15 #[S6 ⟨1, 0, 2, 7, 2, 0⟩, v] w (Gave ⟨1, 0, 2, 7, 2, 0⟩ [] w) :=
  gave_of (deliver_any _ base v _ w h (by simp) (by simp)) (by rfl) (by rfl)
theorem Row.one {w : World} {base : Nat} {v : Value} {m : Msg} (h : Row w base v [m]) :
    ∃ (g cap : Nat), v = .slice (some ⟨g, 0, none⟩) 1 cap ∧ base ≤ g ∧ g < w.heap.size ∧ 1 ≤ cap ∧ w.cell? ⟨g, 0, none⟩ = some (.int .i64 m.k) ∧ w.cell? ⟨g, 1, none⟩ = some (.int .i64 m.f) ∧ w.cell? ⟨g, 2, none⟩ = some (.int .i64 m.t) ∧ w.cell? ⟨g, 3, none⟩ = some (.int .i64 m.n) ∧ w.cell? ⟨g, 5, none⟩ = some (.int .i64 m.e) := by
  rcases h.open with ⟨_, h2⟩ | ⟨g, cap, h1, h2, h3, h4, h5⟩
  · cases h2
  · have h6 := h5 0 (by simp)
    refine ⟨g, cap, h1, h2, h3, h4, ?_, ?_, ?_, ?_, ?_⟩
    · simpa using h6 0 (by omega)
    · simpa using h6 1 (by omega)
    · simpa using h6 2 (by omega)
    · simpa using h6 3 (by omega)
    · simpa using h6 5 (by omega)
theorem Row.nil {w : World} {base : Nat} {v : Value} (h : Row w base v []) : v = .slice none 0 0 := h.2 rfl
set_option maxHeartbeats 4000000 in
theorem awake_any (w : World) : Calls Try.prog 10 #[] w fun e w' => e = .returned (.bool true) ∧ Below w.heap.size w w' := by
  go_enter Try.func10, Try.ntmps10
  go_wp2_with fail
  refine (aw_new1 _).mono ?_
  rintro e w1 ⟨rfl, h1⟩
  go_wp2_with fail
  refine (aw_new2 _).mono ?_
  rintro e w2 ⟨rfl, h2⟩
  have B1 := (Blk.new w1 (c6 ⟨0, 1, 2, 4, 0, 0⟩) 28).below h2
  have l1 := B1.lt
  have h3 := b_step (b_alloc h1 _) h2
  have hA := h1.size
  clear h1 h2
  obtain ⟨y0, y1, y2, y3, y4, y5, z0, z1, z2, z3, z4, z5⟩ := B1.six
  go_wp2_with fail
  refine (aw_dial1 _).mono ?_
  rintro e w3 ⟨v1, rfl, r1, h4⟩
  have B2 := (B1.alloc (.cells (c6 ⟨1, 0, 2, 6, 0, 0⟩) 28)).below h4
  have C2 := (Blk.new w2 (c6 ⟨1, 0, 2, 6, 0, 0⟩) 28).below h4
  have l2 := C2.lt
  rw [World.size_alloc] at r1
  have h5 := b_step (b_alloc h3 _) h4
  have hB : w.heap.size ≤ w2.heap.size := by omega
  clear h3 h4 B1
  clear y0 y1 y2 y3 y4 y5 z0 z1 z2 z3 z4 z5
  obtain ⟨y0, y1, y2, y3, y4, y5, z0, z1, z2, z3, z4, z5⟩ := B2.six
  obtain ⟨p0, p1, p2, p3, p4, p5, q0, q1, q2, q3, q4, q5⟩ := C2.six
  go_wp2_with fail
  refine (aw_del1 _ _ v1 (r1.far6 (by omega))).mono ?_
  rintro e w4 ⟨v2, rfl, r2, h6⟩
  have B3 := B2.store6.below h6
  have C3 := (C2.far6 (by omega)).below h6
  have r1' := Row.below (r1.far6 (by omega)) h6
  have h7 := b_step (b_store6 h5 hA) h6
  have r2 := r2.lower (base' := w3.heap.size) (by simp)
  obtain ⟨g2, cap2, rfl, hg2, hl2, hc2, m0, -, -, m3, -⟩ := r2.one
  dsimp only at m0 m3
  have n2 : w2.heap.size < g2 := by omega
  have n3 : w1.heap.size < g2 := by omega
  clear h5 h6 B2 C2 r1
  clear y0 y1 y2 y3 y4 y5 z0 z1 z2 z3 z4 z5
  clear p0 p1 p2 p3 p4 p5 q0 q1 q2 q3 q4 q5
  obtain ⟨y0, y1, y2, y3, y4, y5, z0, z1, z2, z3, z4, z5⟩ := B3.six
  obtain ⟨p0, p1, p2, p3, p4, p5, q0, q1, q2, q3, q4, q5⟩ := C3.six
  go_wp2_with fail
  refine (aw_del2 _ _ _ (r2.far6 (by omega))).mono ?_
  rintro e w5 ⟨v3, rfl, r3, h8⟩
  have B4 := (B3.far6 (by omega)).below h8
  have C4 := C3.store6.below h8
  have r1 := Row.below (r1'.far6 (by omega)) h8
  have h9 := b_step (b_store6 h7 hB) h8
  clear h7 h8 B3 C3 r1' r2 r3 m0 m3 n2 n3 hg2 hl2
  clear y0 y1 y2 y3 y4 y5 z0 z1 z2 z3 z4 z5
  clear p0 p1 p2 p3 p4 p5 q0 q1 q2 q3 q4 q5
  obtain ⟨y0, y1, y2, y3, y4, y5, z0, z1, z2, z3, z4, z5⟩ := B4.six
  obtain ⟨p0, p1, p2, p3, p4, p5, q0, q1, q2, q3, q4, q5⟩ := C4.six
  go_wp2_with fail
  refine (aw_dial2 _).mono ?_
  rintro e w6 ⟨v4, rfl, r4, h10⟩
  have B5 := B4.store6.below h10
  have C5 := (C4.far6 (by omega)).below h10
  have r1' := Row.below (r1.far6 (by omega)) h10
  have h11 := b_step (b_store6 h9 hA) h10
  have l5 := B4.lt
  have l6 := C4.lt
  have r4 := r4.lower (base' := w5.heap.size) (by simp)
  clear h9 h10 B4 C4 r1
  clear y0 y1 y2 y3 y4 y5 z0 z1 z2 z3 z4 z5
  clear p0 p1 p2 p3 p4 p5 q0 q1 q2 q3 q4 q5
  obtain ⟨y0, y1, y2, y3, y4, y5, z0, z1, z2, z3, z4, z5⟩ := B5.six
  obtain ⟨p0, p1, p2, p3, p4, p5, q0, q1, q2, q3, q4, q5⟩ := C5.six
  go_wp2_with fail
  refine (aw_del3 _ _ _ (r4.far6 (by omega))).mono ?_
  rintro e w7 ⟨v5, rfl, r5, h12⟩
  have B6 := B5.store6.below h12
  have C6 := (C5.far6 (by omega)).below h12
  have r1 := Row.below (r1'.far6 (by omega)) h12
  have h13 := b_step (b_store6 h11 hA) h12
  have l7 := B5.lt
  have l8 := C5.lt
  have r5 := r5.lower (base' := w6.heap.size) (by simp)
  clear h11 h12 B5 C5 r1' r4
  clear y0 y1 y2 y3 y4 y5 z0 z1 z2 z3 z4 z5
  clear p0 p1 p2 p3 p4 p5 q0 q1 q2 q3 q4 q5
  obtain ⟨y0, y1, y2, y3, y4, y5, z0, z1, z2, z3, z4, z5⟩ := B6.six
  obtain ⟨p0, p1, p2, p3, p4, p5, q0, q1, q2, q3, q4, q5⟩ := C6.six
  go_wp2_with fail
  refine (aw_del4 _ _ _ (r5.far6 (by omega))).mono ?_
  rintro e w8 ⟨v6, rfl, r6, h14⟩
  have B7 := (B6.far6 (by omega)).below h14
  have C7 := C6.store6.below h14
  have r1' := Row.below (r1.far6 (by omega)) h14
  have h15 := b_step (b_store6 h13 hB) h14
  clear h13 h14 B6 C6 r1 r5 r6
  clear y0 y1 y2 y3 y4 y5 z0 z1 z2 z3 z4 z5
  clear p0 p1 p2 p3 p4 p5 q0 q1 q2 q3 q4 q5
  obtain ⟨y0, y1, y2, y3, y4, y5, z0, z1, z2, z3, z4, z5⟩ := B7.six
  obtain ⟨p0, p1, p2, p3, p4, p5, q0, q1, q2, q3, q4, q5⟩ := C7.six
  go_wp2_with fail
  refine (aw_del5 _ _ _ (r1'.far6 (by omega))).mono ?_
  rintro e w9 ⟨v7, rfl, r7, h16⟩
  have B8 := B7.store6.below h16
  have C8 := (C7.far6 (by omega)).below h16
  have h17 := b_step (b_store6 h15 hA) h16
  have e7 := r7.nil
  subst e7
  have l9 := B8.lt
  have l10 := C8.lt
  clear h15 h16 B7 C7 r1' r7
  clear y0 y1 y2 y3 y4 y5 z0 z1 z2 z3 z4 z5
  clear p0 p1 p2 p3 p4 p5 q0 q1 q2 q3 q4 q5
  obtain ⟨y0, y1, y2, y3, y4, y5, z0, z1, z2, z3, z4, z5⟩ := B8.six
  obtain ⟨p0, p1, p2, p3, p4, p5, q0, q1, q2, q3, q4, q5⟩ := C8.six
  go_wp2_with fail
  go_ret
  exact ⟨rfl, b_alloc h17 _⟩
end Go.Proofs.Ytemljffppdjmgaa
