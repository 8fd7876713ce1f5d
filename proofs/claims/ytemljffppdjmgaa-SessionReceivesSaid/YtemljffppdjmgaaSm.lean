/- The reference's comparison of messages: equal rows are the same. -/
import Derived.Test.YtemljffppdjmgaaX
import Derived.Laws.BytesArg
import Derived.Deep.LoopGhost
import Derived.Deep.DeepCutAuto
namespace Go.Proofs.Ytemljffppdjmgaa
open Go.RowKit Go.Proofs.YtemljffppdjmgaaW.PrintLast
set_option linter.unusedVariables false
set_option linter.unusedSimpArgs false
set_option maxHeartbeats 2000000 in
theorem same_one (m : Msg) (w : World) : Calls Try.prog 39 #[MV m 0 (.slice none 0 0) (.slice none 0 0), MV m 0 (.slice none 0 0) (.slice none 0 0)] w fun e w' => e = .returned (.bool true) ∧ Below w.heap.size w w' := by
  obtain ⟨k, f, t, n, e⟩ := m
  have HCV : ∀ w, (convert 49 9 (.slice none 0 0)).run Try.prog w = .ok (.string ByteArray.empty) w := fun w => run_convert_bytes_nil (w := w) 49 5 Try.underlying49 Try.underlying5 0 0 9 Try.underlying9
  have A1 := (Blk.new w (c8 ⟨k, f, t, n, e⟩ 0 (.slice none 0 0) (.slice none 0 0)) 51).alloc (.cells (c8 ⟨k, f, t, n, e⟩ 0 (.slice none 0 0) (.slice none 0 0)) 51)
  have hb := b_alloc (b_alloc (Below.refl w.heap.size w) (.cells (c8 ⟨k, f, t, n, e⟩ 0 (.slice none 0 0) (.slice none 0 0)) 51)) (.cells (c8 ⟨k, f, t, n, e⟩ 0 (.slice none 0 0) (.slice none 0 0)) 51)
  go_enter Try.func39, Try.ntmps39
  go_wp2_with fail
  go_loopg [5] 0 (fun n' i wr => i = .int .i64 0 ∧ Blk wr w.heap.size (c8 ⟨k, f, t, n, e⟩ 0 (.slice none 0 0) (.slice none 0 0)) 51 ∧ Below w.heap.size w wr)
  case atStart => exact ⟨rfl, A1, hb⟩
  case round =>
    clear A1 hb
    obtain ⟨rfl, A1, hb⟩ := hrel
    have a6 := A1.cell 6
    have lA := A1.lt
    go_wp2_with fail
    go_ret
    exact ⟨rfl, hb⟩
set_option maxHeartbeats 2000000 in
theorem same_nil (w : World) : Calls Try.prog 19 #[.slice none 0 0, .slice none 0 0] w fun e w' => e = .returned (.bool true) ∧ Below w.heap.size w w' := by
  go_enter Try.func19, Try.ntmps19
  go_wp2_with fail
  go_loopg [5] 0 (fun n' i wr => i = .int .i64 0 ∧ Below w.heap.size w wr)
  case atStart => exact ⟨rfl, Below.refl _ _⟩
  case round =>
    obtain ⟨rfl, hb⟩ := hrel
    go_wp2_with fail
    go_ret
    exact ⟨rfl, hb⟩
theorem Row.eight {W : World} {base : Nat} {v : Value} {k f t n e : Int} (h : Row W base v [⟨k, f, t, n, e⟩]) :
    ∃ (g cap : Nat), v = .slice (some ⟨g, 0, none⟩) 1 cap ∧ 1 ≤ cap ∧ W.cell? ⟨g, 0, none⟩ = some (.int .i64 k) ∧ W.cell? ⟨g, 1, none⟩ = some (.int .i64 f) ∧ W.cell? ⟨g, 2, none⟩ = some (.int .i64 t) ∧ W.cell? ⟨g, 3, none⟩ = some (.int .i64 n) ∧ W.cell? ⟨g, 4, none⟩ = some (.int .i64 0) ∧ W.cell? ⟨g, 5, none⟩ = some (.int .i64 e) ∧ W.cell? ⟨g, 6, none⟩ = some (.slice none 0 0) ∧ W.cell? ⟨g, 7, none⟩ = some (.slice none 0 0) := by
  rcases h.open with ⟨_, h2⟩ | ⟨g, cap, h1, h2, h3, h4, h5⟩
  · cases h2
  · have h6 := h5 0 (by simp)
    refine ⟨g, cap, h1, h4, ?_, ?_, ?_, ?_, ?_, ?_, ?_, ?_⟩
    · simpa using h6 0 (by omega)
    · simpa using h6 1 (by omega)
    · simpa using h6 2 (by omega)
    · simpa using h6 3 (by omega)
    · simpa using h6 4 (by omega)
    · simpa using h6 5 (by omega)
    · simpa using h6 6 (by omega)
    · simpa using h6 7 (by omega)
set_option maxHeartbeats 4000000 in
theorem same_row1 (k f t n e : Int) (g h c1 c2 : Nat) (w : World) (d1 : 1 ≤ c1) (d2 : 1 ≤ c2) (hx : w.cell? ⟨g, 0, none⟩ = some (.int .i64 k) ∧ w.cell? ⟨g, 1, none⟩ = some (.int .i64 f) ∧ w.cell? ⟨g, 2, none⟩ = some (.int .i64 t) ∧ w.cell? ⟨g, 3, none⟩ = some (.int .i64 n) ∧ w.cell? ⟨g, 4, none⟩ = some (.int .i64 0) ∧ w.cell? ⟨g, 5, none⟩ = some (.int .i64 e) ∧ w.cell? ⟨g, 6, none⟩ = some (.slice none 0 0) ∧ w.cell? ⟨g, 7, none⟩ = some (.slice none 0 0)) (hy : w.cell? ⟨h, 0, none⟩ = some (.int .i64 k) ∧ w.cell? ⟨h, 1, none⟩ = some (.int .i64 f) ∧ w.cell? ⟨h, 2, none⟩ = some (.int .i64 t) ∧ w.cell? ⟨h, 3, none⟩ = some (.int .i64 n) ∧ w.cell? ⟨h, 4, none⟩ = some (.int .i64 0) ∧ w.cell? ⟨h, 5, none⟩ = some (.int .i64 e) ∧ w.cell? ⟨h, 6, none⟩ = some (.slice none 0 0) ∧ w.cell? ⟨h, 7, none⟩ = some (.slice none 0 0)) :
    Calls Try.prog 19 #[.slice (some ⟨g, 0, none⟩) 1 c1, .slice (some ⟨h, 0, none⟩) 1 c2] w fun e w' => e = .returned (.bool true) ∧ Below w.heap.size w w' := by
  have HX := Lib.hid hx
  have HY := Lib.hid hy
  clear hx hy
  go_enter Try.func19, Try.ntmps19
  go_wp2_with fail
  go_loopg [5] 1 (fun n' i wr => ∃ j : Nat, j + n' = 1 ∧ i = .int .i64 j ∧ Below w.heap.size w wr)
  case atStart => exact ⟨0, by omega, rfl, Below.refl _ _⟩
  case round =>
    obtain ⟨j, hj, rfl, hb⟩ := hrel
    by_cases hj0 : j = 0
    · subst hj0
      obtain ⟨x0, x1, x2, x3, x4, x5, x6, x7⟩ := HX.out
      obtain ⟨y0, y1, y2, y3, y4, y5, y6, y7⟩ := HY.out
      replace x0 := cell_below x0 hb
      replace y0 := cell_below y0 hb
      replace x1 := cell_below x1 hb
      replace y1 := cell_below y1 hb
      replace x2 := cell_below x2 hb
      replace y2 := cell_below y2 hb
      replace x3 := cell_below x3 hb
      replace y3 := cell_below y3 hb
      replace x4 := cell_below x4 hb
      replace y4 := cell_below y4 hb
      replace x5 := cell_below x5 hb
      replace y5 := cell_below y5 hb
      replace x6 := cell_below x6 hb
      replace y6 := cell_below y6 hb
      replace x7 := cell_below x7 hb
      replace y7 := cell_below y7 hb
      have HB := Lib.hid hb
      clear hb HX HY
      go_upto_region 6 with fail
      refine start_ (n := 10) (S := fun w' => w'.cell? ⟨g, 0, none⟩ = some (.int .i64 k) ∧ w'.cell? ⟨g, 1, none⟩ = some (.int .i64 f) ∧ w'.cell? ⟨g, 2, none⟩ = some (.int .i64 t) ∧ w'.cell? ⟨g, 3, none⟩ = some (.int .i64 n) ∧ w'.cell? ⟨g, 4, none⟩ = some (.int .i64 0) ∧ w'.cell? ⟨g, 5, none⟩ = some (.int .i64 e) ∧ w'.cell? ⟨g, 6, none⟩ = some (.slice none 0 0) ∧ w'.cell? ⟨g, 7, none⟩ = some (.slice none 0 0) ∧ w'.cell? ⟨h, 0, none⟩ = some (.int .i64 k) ∧ w'.cell? ⟨h, 1, none⟩ = some (.int .i64 f) ∧ w'.cell? ⟨h, 2, none⟩ = some (.int .i64 t) ∧ w'.cell? ⟨h, 3, none⟩ = some (.int .i64 n) ∧ w'.cell? ⟨h, 4, none⟩ = some (.int .i64 0) ∧ w'.cell? ⟨h, 5, none⟩ = some (.int .i64 e) ∧ w'.cell? ⟨h, 6, none⟩ = some (.slice none 0 0) ∧ w'.cell? ⟨h, 7, none⟩ = some (.slice none 0 0)) (ds := []) #[false, false, false, false, false, false, false, false, false, false] (by kernel_rfl) rfl rfl ⟨(x0), (x1), (x2), (x3), (x4), (x5), (x6), (x7), (y0), (y1), (y2), (y3), (y4), (y5), (y6), (y7)⟩ (fun hHeld => ?_)
      refine pure_ (i := 0) (N := some 17) (v := ?_) (a' := ?_) #[true, false, false, false, false, false, false, false, false, false] rfl rfl (by kernel_rfl) (fun _ _ _ h => h) (Or.inl ⟨by rfl, ?_⟩) ?_ ?_
      rotate_left
      · intro w'
        go_simp
        with_reducible rfl
      rotate_left
      · simp only [Act.put, List.setIfInBounds_toArray, List.set_cons_zero, List.set_cons_succ, i64_w, i32_w]
        rfl
      refine pure_ (i := 1) (N := some 18) (v := ?_) (a' := ?_) #[true, true, false, false, false, false, false, false, false, false] rfl rfl (by kernel_rfl) (fun _ _ _ h => h) (Or.inl ⟨by rfl, ?_⟩) ?_ ?_
      rotate_left
      · intro w'
        go_simp
        with_reducible rfl
      rotate_left
      · simp only [Act.put, List.setIfInBounds_toArray, List.set_cons_zero, List.set_cons_succ, i64_w, i32_w]
        rfl
      refine pure_ (i := 2) (N := some 19) (v := ?_) (a' := ?_) #[true, true, true, false, false, false, false, false, false, false] rfl rfl (by kernel_rfl) (fun _ _ _ h => h) (Or.inl ⟨by rfl, ?_⟩) ?_ ?_
      rotate_left
      · intro w'
        go_simp
        with_reducible rfl
      rotate_left
      · simp only [Act.put, List.setIfInBounds_toArray, List.set_cons_zero, List.set_cons_succ, i64_w, i32_w]
        rfl
      refine pure_ (i := 4) (N := some 21) (v := ?_) (a' := ?_) #[true, true, true, false, true, false, false, false, false, false] rfl rfl (by kernel_rfl) (fun _ _ _ h => h) (Or.inl ⟨by rfl, ?_⟩) ?_ ?_
      rotate_left
      · intro w'
        go_simp
        with_reducible rfl
      rotate_left
      · simp only [Act.put, List.setIfInBounds_toArray, List.set_cons_zero, List.set_cons_succ, i64_w, i32_w]
        rfl
      refine pure_ (i := 5) (N := some 22) (v := ?_) (a' := ?_) #[true, true, true, false, true, true, false, false, false, false] rfl rfl (by kernel_rfl) (fun _ _ _ h => h) (Or.inl ⟨by rfl, ?_⟩) ?_ ?_
      rotate_left
      · intro w'
        go_simp
        with_reducible rfl
      rotate_left
      · simp only [Act.put, List.setIfInBounds_toArray, List.set_cons_zero, List.set_cons_succ, i64_w, i32_w]
        rfl
      refine pure_ (i := 6) (N := some 23) (v := ?_) (a' := ?_) #[true, true, true, false, true, true, true, false, false, false] rfl rfl (by kernel_rfl) (fun _ _ _ h => h) (Or.inl ⟨by rfl, ?_⟩) ?_ ?_
      rotate_left
      · intro w'
        go_simp
        with_reducible rfl
      rotate_left
      · simp only [Act.put, List.setIfInBounds_toArray, List.set_cons_zero, List.set_cons_succ, i64_w, i32_w]
        rfl
      refine take_ (i := 3) (N := some 20) (v := ?_) (a' := ?_) #[true, true, true, true, true, true, true, false, false, false] rfl rfl (by kernel_rfl) (fun _ _ _ h => h) (Or.inl ⟨by rfl, ?_⟩) hHeld ?_ ?_
      rotate_left
      · rintro w' ⟨s0, s1, s2, s3, s4, s5, s6, s7, s8, s9, s10, s11, s12, s13, s14, s15⟩
        go_simp
        with_reducible rfl
      rotate_left
      · simp only [Act.put, List.setIfInBounds_toArray, List.set_cons_zero, List.set_cons_succ, i64_w, i32_w]
        rfl
      refine take_ (i := 7) (N := some 24) (v := ?_) (a' := ?_) #[true, true, true, true, true, true, true, true, false, false] rfl rfl (by kernel_rfl) (fun _ _ _ h => h) (Or.inl ⟨by rfl, ?_⟩) hHeld ?_ ?_
      rotate_left
      · rintro w' ⟨s0, s1, s2, s3, s4, s5, s6, s7, s8, s9, s10, s11, s12, s13, s14, s15⟩
        go_simp
        with_reducible rfl
      rotate_left
      · simp only [Act.put, List.setIfInBounds_toArray, List.set_cons_zero, List.set_cons_succ, i64_w, i32_w]
        rfl
      refine one_ (i := 8) (N := some 25) #[true, true, true, true, true, true, true, true, true, false] rfl rfl (by kernel_rfl) (by decide) (fun K hK => ?_)
      refine goes_ Try.func39 (by kernel_rfl) rfl #[MV ⟨k, f, t, n, e⟩ 0 (.slice none 0 0) (.slice none 0 0), MV ⟨k, f, t, n, e⟩ 0 (.slice none 0 0) (.slice none 0 0)] (by rfl) rfl rfl (by simp only [List.map_toArray, List.map_cons, List.map_nil]; rfl) ?_
      with_reducible refine (same_one ⟨k, f, t, n, e⟩ _).mono ?_
      rintro e9 wz ⟨rfl, hx⟩
      refine ⟨_, rfl, ?_⟩
      refine hK.out _ _ ⟨(cell_below hHeld.1 hx), (cell_below hHeld.2.1 hx), (cell_below hHeld.2.2.1 hx), (cell_below hHeld.2.2.2.1 hx), (cell_below hHeld.2.2.2.2.1 hx), (cell_below hHeld.2.2.2.2.2.1 hx), (cell_below hHeld.2.2.2.2.2.2.1 hx), (cell_below hHeld.2.2.2.2.2.2.2.1 hx), (cell_below hHeld.2.2.2.2.2.2.2.2.1 hx), (cell_below hHeld.2.2.2.2.2.2.2.2.2.1 hx), (cell_below hHeld.2.2.2.2.2.2.2.2.2.2.1 hx), (cell_below hHeld.2.2.2.2.2.2.2.2.2.2.2.1 hx), (cell_below hHeld.2.2.2.2.2.2.2.2.2.2.2.2.1 hx), (cell_below hHeld.2.2.2.2.2.2.2.2.2.2.2.2.2.1 hx), (cell_below hHeld.2.2.2.2.2.2.2.2.2.2.2.2.2.2.1 hx), (cell_below hHeld.2.2.2.2.2.2.2.2.2.2.2.2.2.2.2 hx)⟩ (fun hHeld => ?_)
      clear hK K
      refine norm_ (a' := ?_) ?_ ?_
      rotate_left
      · show Act.put _ (some 25) _ = _
        simp only [Act.put, List.setIfInBounds_toArray, List.set_cons_zero, List.set_cons_succ, i64_w, i32_w]
        rfl
      refine pure_ (i := 9) (N := some 26) (v := ?_) (a' := ?_) #[true, true, true, true, true, true, true, true, true, true] rfl rfl (by kernel_rfl) (fun _ _ _ h => h) (Or.inl ⟨by rfl, ?_⟩) ?_ ?_
      rotate_left
      · intro w'
        go_simp
        with_reducible rfl
      rotate_left
      · simp only [Act.put, List.setIfInBounds_toArray, List.set_cons_zero, List.set_cons_succ, i64_w, i32_w]
        rfl
      refine done_ (by kernel_rfl) ?_
      have hb3 := b_step (b_drew HB.out) hx
      clear HB hx
      go_wp2_with fail
      go_roundg (gk - 1)
      case measure => omega
      case rel => exact ⟨0 + 1, by omega, by go_num, hb3⟩
    · obtain rfl : j = 1 := by omega
      clear HX HY
      have HB := Lib.hid hb
      clear hb
      go_wp2_with fail
      go_ret
      exact ⟨rfl, HB.out⟩
theorem same_any {w : World} {b1 b2 : Nat} {v1 v2 : Value} {ms : List Msg} (h1 : Row w b1 v1 ms) (h2 : Row w b2 v2 ms) (hl : ms.length ≤ 1) :
    Calls Try.prog 19 #[v1, v2] w fun e w' => e = .returned (.bool true) ∧ Below w.heap.size w w' := by
  rcases ms with _ | ⟨⟨k, f, t, n, e⟩, _ | ⟨m2, ms⟩⟩
  · obtain rfl := h1.nil
    obtain rfl := h2.nil
    exact same_nil w
  · obtain ⟨g, c1, rfl, d1, hx⟩ := h1.eight
    obtain ⟨h, c2, rfl, d2, hy⟩ := h2.eight
    exact same_row1 k f t n e g h c1 c2 w d1 d2 hx hy
  · exfalso
    simp at hl
end Go.Proofs.Ytemljffppdjmgaa
