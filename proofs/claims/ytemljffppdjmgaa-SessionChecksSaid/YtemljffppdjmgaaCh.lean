/- SessionChecks returns true for all sessions and numbers. -/
import Derived.Test.YtemljffppdjmgaaX
namespace Go.Proofs.Ytemljffppdjmgaa
open Go.RowKit Go.Proofs.YtemljffppdjmgaaW.PrintLast
set_option linter.unusedVariables false
set_option linter.unusedSimpArgs false
set_option maxHeartbeats 4000000 in
theorem checks_any (s : Ses) (mn me : Int) (w : World) : Calls Try.prog 6 #[S6 s, .int .i64 mn, .int .i64 me] w fun e w' => e = .returned (.bool true) ∧ Below w.heap.size w w' := by
  obtain ⟨l, r, e, n, p, d⟩ := s
  have N1 := Lib.hid (fun w => new_any l r e n w)
  have N2 := Lib.hid (fun w => rnew_any l r e n w)
  generalize newF l r e n = q at N1 N2
  obtain ⟨⟨l', r', e', n', p', d'⟩, c'⟩ := q
  dsimp only at N1 N2
  have C1 := Lib.hid (fun w => chk_any ⟨l, r, e, n, p, d⟩ w)
  have C2 := Lib.hid (fun w => rchk_any ⟨l, r, e, n, p, d⟩ w)
  generalize chk ⟨l, r, e, n, p, d⟩ = c at C1 C2
  have A1 := Lib.hid (fun w => acc_any ⟨l, r, e, n, p, d⟩ mn me w)
  have A2 := Lib.hid (fun w => racc_any ⟨l, r, e, n, p, d⟩ mn me w)
  generalize accF ⟨l, r, e, n, p, d⟩ mn me = g at A1 A2
  go_enter Try.func6, Try.ntmps6
  go_wp2_with fail
  refine (N1.out _).mono ?_
  rintro e0 w1 ⟨rfl, h1⟩
  have B1 := (Blk.new w (c6 ⟨l, r, e, n, p, d⟩) 28).below h1
  have l1 := B1.lt
  have hb1 := b_step (b_alloc (Below.refl _ _) _) h1
  clear h1
  obtain ⟨y0, y1, y2, y3, y4, y5, z0, z1, z2, z3, z4, z5⟩ := B1.six
  go_wp2_with fail
  refine (N2.out _).mono ?_
  rintro e0 w2 ⟨rfl, h2⟩
  have B2 := (B1.alloc _).below h2
  have D2 := (Blk.new w1 (c6 ⟨l', r', e', n', p', d'⟩) 28).below h2
  have l2 := D2.lt
  have hb2 := b_step (b_alloc hb1 _) h2
  clear h2 B1 y0 y1 y2 y3 y4 y5 z0 z1 z2 z3 z4 z5 hb1
  have B3 := (B2.alloc (.cells (c6 ⟨l', r', e', n', p', d'⟩) 28)).drew
  have D3 := (D2.alloc (.cells (c6 ⟨l', r', e', n', p', d'⟩) 28)).drew
  have E3 := (Blk.new w2 (c6 ⟨l', r', e', n', p', d'⟩) 28).drew
  have hb3 := b_drew (b_alloc hb2 (.cells (c6 ⟨l', r', e', n', p', d'⟩) 28))
  go_wp2_with fail
  refine start_ (n := 30) (S := fun w' => w'.cell? ⟨w.heap.size, 0, none⟩ = some (.int .i64 l) ∧ w'.cell? ⟨w.heap.size, 1, none⟩ = some (.int .i64 r) ∧ w'.cell? ⟨w.heap.size, 2, none⟩ = some (.int .i64 e) ∧ w'.cell? ⟨w.heap.size, 3, none⟩ = some (.int .i64 n) ∧ w'.cell? ⟨w.heap.size, 4, none⟩ = some (.int .i64 p) ∧ w'.cell? ⟨w.heap.size, 5, none⟩ = some (.int .i64 d) ∧ w'.cell? ⟨w1.heap.size, 0, none⟩ = some (.int .i64 l') ∧ w'.cell? ⟨w1.heap.size, 1, none⟩ = some (.int .i64 r') ∧ w'.cell? ⟨w1.heap.size, 2, none⟩ = some (.int .i64 e') ∧ w'.cell? ⟨w1.heap.size, 3, none⟩ = some (.int .i64 n') ∧ w'.cell? ⟨w1.heap.size, 4, none⟩ = some (.int .i64 p') ∧ w'.cell? ⟨w1.heap.size, 5, none⟩ = some (.int .i64 d') ∧ w'.cell? ⟨w2.heap.size, 0, none⟩ = some (.int .i64 l') ∧ w'.cell? ⟨w2.heap.size, 1, none⟩ = some (.int .i64 r') ∧ w'.cell? ⟨w2.heap.size, 2, none⟩ = some (.int .i64 e') ∧ w'.cell? ⟨w2.heap.size, 3, none⟩ = some (.int .i64 n') ∧ w'.cell? ⟨w2.heap.size, 4, none⟩ = some (.int .i64 p') ∧ w'.cell? ⟨w2.heap.size, 5, none⟩ = some (.int .i64 d')) (ds := []) #[false, false, false, false, false, false, false, false, false, false, false, false, false, false, false, false, false, false, false, false, false, false, false, false, false, false, false, false, false, false] (by kernel_rfl) rfl rfl ⟨(B3.cell 0), (B3.cell 1), (B3.cell 2), (B3.cell 3), (B3.cell 4), (B3.cell 5), (D3.cell 0), (D3.cell 1), (D3.cell 2), (D3.cell 3), (D3.cell 4), (D3.cell 5), (E3.cell 0), (E3.cell 1), (E3.cell 2), (E3.cell 3), (E3.cell 4), (E3.cell 5)⟩ (fun hHeld => ?_)
  refine one_ (i := 0) (N := some 35) #[true, false, false, false, false, false, false, false, false, false, false, false, false, false, false, false, false, false, false, false, false, false, false, false, false, false, false, false, false, false] rfl rfl (by kernel_rfl) (by decide) (fun K hK => ?_)
  refine goes_ Try.func10 (by kernel_rfl) rfl #[] (by rfl) rfl rfl (by simp only [List.map_toArray, List.map_cons, List.map_nil]) ?_
  with_reducible refine (awake_any _).mono ?_
  rintro e wz3 ⟨rfl, hx3⟩
  have hb4 := b_step hb3 hx3
  refine ⟨_, rfl, ?_⟩
  refine hK.out _ _ ⟨(cell_below hHeld.1 hx3), (cell_below hHeld.2.1 hx3), (cell_below hHeld.2.2.1 hx3), (cell_below hHeld.2.2.2.1 hx3), (cell_below hHeld.2.2.2.2.1 hx3), (cell_below hHeld.2.2.2.2.2.1 hx3), (cell_below hHeld.2.2.2.2.2.2.1 hx3), (cell_below hHeld.2.2.2.2.2.2.2.1 hx3), (cell_below hHeld.2.2.2.2.2.2.2.2.1 hx3), (cell_below hHeld.2.2.2.2.2.2.2.2.2.1 hx3), (cell_below hHeld.2.2.2.2.2.2.2.2.2.2.1 hx3), (cell_below hHeld.2.2.2.2.2.2.2.2.2.2.2.1 hx3), (cell_below hHeld.2.2.2.2.2.2.2.2.2.2.2.2.1 hx3), (cell_below hHeld.2.2.2.2.2.2.2.2.2.2.2.2.2.1 hx3), (cell_below hHeld.2.2.2.2.2.2.2.2.2.2.2.2.2.2.1 hx3), (cell_below hHeld.2.2.2.2.2.2.2.2.2.2.2.2.2.2.2.1 hx3), (cell_below hHeld.2.2.2.2.2.2.2.2.2.2.2.2.2.2.2.2.1 hx3), (cell_below hHeld.2.2.2.2.2.2.2.2.2.2.2.2.2.2.2.2.2 hx3)⟩ (fun hHeld => ?_)
  clear hK K
  refine norm_ (a' := ?_) ?_ ?_
  rotate_left
  · show Act.put _ (some 35) _ = _
    simp only [Act.put, List.setIfInBounds_toArray, List.set_cons_zero, List.set_cons_succ, i64_w, i32_w]
    rfl
  refine pure_ (i := 1) (N := some 36) (v := ?_) (a' := ?_) #[true, true, false, false, false, false, false, false, false, false, false, false, false, false, false, false, false, false, false, false, false, false, false, false, false, false, false, false, false, false] rfl rfl (by kernel_rfl) (fun _ _ _ h => h) (Or.inl ⟨by rfl, ?_⟩) ?_ ?_
  rotate_left
  · intro w'
    go_simp
    with_reducible rfl
  rotate_left
  · simp only [Act.put, List.setIfInBounds_toArray, List.set_cons_zero, List.set_cons_succ, i64_w, i32_w]
    rfl
  refine take_ (i := 2) (N := some 37) (v := ?_) (a' := ?_) #[true, true, true, false, false, false, false, false, false, false, false, false, false, false, false, false, false, false, false, false, false, false, false, false, false, false, false, false, false, false] rfl rfl (by kernel_rfl) (fun _ _ _ h => h) (Or.inl ⟨by rfl, ?_⟩) hHeld ?_ ?_
  rotate_left
  · rintro w' ⟨s0, s1, s2, s3, s4, s5, s6, s7, s8, s9, s10, s11, s12, s13, s14, s15, s16, s17⟩
    go_simp
    with_reducible rfl
  rotate_left
  · simp only [Act.put, List.setIfInBounds_toArray, List.set_cons_zero, List.set_cons_succ, i64_w, i32_w]
    rfl
  refine take_ (i := 3) (N := some 38) (v := ?_) (a' := ?_) #[true, true, true, true, false, false, false, false, false, false, false, false, false, false, false, false, false, false, false, false, false, false, false, false, false, false, false, false, false, false] rfl rfl (by kernel_rfl) (fun _ _ _ h => h) (Or.inl ⟨by rfl, ?_⟩) hHeld ?_ ?_
  rotate_left
  · rintro w' ⟨s0, s1, s2, s3, s4, s5, s6, s7, s8, s9, s10, s11, s12, s13, s14, s15, s16, s17⟩
    go_simp
    with_reducible rfl
  rotate_left
  · simp only [Act.put, List.setIfInBounds_toArray, List.set_cons_zero, List.set_cons_succ, i64_w, i32_w]
    rfl
  refine pure_ (i := 4) (N := some 39) (v := ?_) (a' := ?_) #[true, true, true, true, true, false, false, false, false, false, false, false, false, false, false, false, false, false, false, false, false, false, false, false, false, false, false, false, false, false] rfl rfl (by kernel_rfl) (fun _ _ _ h => h) (Or.inl ⟨by rfl, ?_⟩) ?_ ?_
  rotate_left
  · intro w'
    go_simp
    with_reducible rfl
  rotate_left
  · simp only [Act.put, List.setIfInBounds_toArray, List.set_cons_zero, List.set_cons_succ, i64_w, i32_w]
    rfl
  refine pure_ (i := 5) (N := some 40) (v := ?_) (a' := ?_) #[true, true, true, true, true, true, false, false, false, false, false, false, false, false, false, false, false, false, false, false, false, false, false, false, false, false, false, false, false, false] rfl rfl (by kernel_rfl) (fun _ _ _ h => h) (Or.inl ⟨by rfl, ?_⟩) ?_ ?_
  rotate_left
  · intro w'
    go_simp
    with_reducible rfl
  rotate_left
  · simp only [Act.put, List.setIfInBounds_toArray, List.set_cons_zero, List.set_cons_succ, i64_w, i32_w]
    rfl
  refine pure_ (i := 6) (N := some 41) (v := ?_) (a' := ?_) #[true, true, true, true, true, true, true, false, false, false, false, false, false, false, false, false, false, false, false, false, false, false, false, false, false, false, false, false, false, false] rfl rfl (by kernel_rfl) (fun _ _ _ h => h) (Or.inl ⟨by rfl, ?_⟩) ?_ ?_
  rotate_left
  · intro w'
    go_simp
    with_reducible rfl
  rotate_left
  · simp only [Act.put, List.setIfInBounds_toArray, List.set_cons_zero, List.set_cons_succ, i64_w, i32_w]
    rfl
  refine pure_ (i := 7) (N := some 42) (v := ?_) (a' := ?_) #[true, true, true, true, true, true, true, true, false, false, false, false, false, false, false, false, false, false, false, false, false, false, false, false, false, false, false, false, false, false] rfl rfl (by kernel_rfl) (fun _ _ _ h => h) (Or.inl ⟨by rfl, ?_⟩) ?_ ?_
  rotate_left
  · intro w'
    go_simp
    with_reducible rfl
  rotate_left
  · simp only [Act.put, List.setIfInBounds_toArray, List.set_cons_zero, List.set_cons_succ, i64_w, i32_w]
    rfl
  refine pure_ (i := 8) (N := some 43) (v := ?_) (a' := ?_) #[true, true, true, true, true, true, true, true, true, false, false, false, false, false, false, false, false, false, false, false, false, false, false, false, false, false, false, false, false, false] rfl rfl (by kernel_rfl) (fun _ _ _ h => h) (Or.inl ⟨by rfl, ?_⟩) ?_ ?_
  rotate_left
  · intro w'
    go_simp
    with_reducible rfl
  rotate_left
  · simp only [Act.put, List.setIfInBounds_toArray, List.set_cons_zero, List.set_cons_succ, i64_w, i32_w]
    rfl
  refine pure_ (i := 9) (N := some 44) (v := ?_) (a' := ?_) #[true, true, true, true, true, true, true, true, true, true, false, false, false, false, false, false, false, false, false, false, false, false, false, false, false, false, false, false, false, false] rfl rfl (by kernel_rfl) (fun _ _ _ h => h) (Or.inl ⟨by rfl, ?_⟩) ?_ ?_
  rotate_left
  · intro w'
    go_simp
    with_reducible rfl
  rotate_left
  · simp only [Act.put, List.setIfInBounds_toArray, List.set_cons_zero, List.set_cons_succ, i64_w, i32_w]
    rfl
  refine pure_ (i := 10) (N := some 45) (v := ?_) (a' := ?_) #[true, true, true, true, true, true, true, true, true, true, true, false, false, false, false, false, false, false, false, false, false, false, false, false, false, false, false, false, false, false] rfl rfl (by kernel_rfl) (fun _ _ _ h => h) (Or.inl ⟨by rfl, ?_⟩) ?_ ?_
  rotate_left
  · intro w'
    go_simp
    with_reducible rfl
  rotate_left
  · simp only [Act.put, List.setIfInBounds_toArray, List.set_cons_zero, List.set_cons_succ, i64_w, i32_w]
    rfl
  refine pure_ (i := 11) (N := some 46) (v := ?_) (a' := ?_) #[true, true, true, true, true, true, true, true, true, true, true, true, false, false, false, false, false, false, false, false, false, false, false, false, false, false, false, false, false, false] rfl rfl (by kernel_rfl) (fun _ _ _ h => h) (Or.inl ⟨by rfl, ?_⟩) ?_ ?_
  rotate_left
  · intro w'
    go_simp
    with_reducible rfl
  rotate_left
  · simp only [Act.put, List.setIfInBounds_toArray, List.set_cons_zero, List.set_cons_succ, i64_w, i32_w]
    rfl
  refine take_ (i := 12) (N := some 47) (v := ?_) (a' := ?_) #[true, true, true, true, true, true, true, true, true, true, true, true, true, false, false, false, false, false, false, false, false, false, false, false, false, false, false, false, false, false] rfl rfl (by kernel_rfl) (fun _ _ _ h => h) (Or.inl ⟨by rfl, ?_⟩) hHeld ?_ ?_
  rotate_left
  · rintro w' ⟨s0, s1, s2, s3, s4, s5, s6, s7, s8, s9, s10, s11, s12, s13, s14, s15, s16, s17⟩
    go_simp
    with_reducible rfl
  rotate_left
  · simp only [Act.put, List.setIfInBounds_toArray, List.set_cons_zero, List.set_cons_succ, i64_w, i32_w]
    rfl
  refine take_ (i := 14) (N := some 49) (v := ?_) (a' := ?_) #[true, true, true, true, true, true, true, true, true, true, true, true, true, false, true, false, false, false, false, false, false, false, false, false, false, false, false, false, false, false] rfl rfl (by kernel_rfl) (fun _ _ _ h => h) (Or.inl ⟨by rfl, ?_⟩) hHeld ?_ ?_
  rotate_left
  · rintro w' ⟨s0, s1, s2, s3, s4, s5, s6, s7, s8, s9, s10, s11, s12, s13, s14, s15, s16, s17⟩
    go_simp
    with_reducible rfl
  rotate_left
  · simp only [Act.put, List.setIfInBounds_toArray, List.set_cons_zero, List.set_cons_succ, i64_w, i32_w]
    rfl
  refine one_ (i := 13) (N := some 48) #[true, true, true, true, true, true, true, true, true, true, true, true, true, true, true, false, false, false, false, false, false, false, false, false, false, false, false, false, false, false] rfl rfl (by kernel_rfl) (by decide) (fun K hK => ?_)
  refine goes_ Try.func22 (by kernel_rfl) rfl #[S6 ⟨l, r, e, n, p, d⟩] (by rfl) rfl rfl (by simp only [List.map_toArray, List.map_cons, List.map_nil]; rfl) ?_
  with_reducible refine (C1.out _).mono ?_
  rintro e wz4 ⟨rfl, hx4⟩
  have hb5 := b_step hb4 hx4
  refine ⟨_, rfl, ?_⟩
  refine hK.out _ _ ⟨(cell_below hHeld.1 hx4), (cell_below hHeld.2.1 hx4), (cell_below hHeld.2.2.1 hx4), (cell_below hHeld.2.2.2.1 hx4), (cell_below hHeld.2.2.2.2.1 hx4), (cell_below hHeld.2.2.2.2.2.1 hx4), (cell_below hHeld.2.2.2.2.2.2.1 hx4), (cell_below hHeld.2.2.2.2.2.2.2.1 hx4), (cell_below hHeld.2.2.2.2.2.2.2.2.1 hx4), (cell_below hHeld.2.2.2.2.2.2.2.2.2.1 hx4), (cell_below hHeld.2.2.2.2.2.2.2.2.2.2.1 hx4), (cell_below hHeld.2.2.2.2.2.2.2.2.2.2.2.1 hx4), (cell_below hHeld.2.2.2.2.2.2.2.2.2.2.2.2.1 hx4), (cell_below hHeld.2.2.2.2.2.2.2.2.2.2.2.2.2.1 hx4), (cell_below hHeld.2.2.2.2.2.2.2.2.2.2.2.2.2.2.1 hx4), (cell_below hHeld.2.2.2.2.2.2.2.2.2.2.2.2.2.2.2.1 hx4), (cell_below hHeld.2.2.2.2.2.2.2.2.2.2.2.2.2.2.2.2.1 hx4), (cell_below hHeld.2.2.2.2.2.2.2.2.2.2.2.2.2.2.2.2.2 hx4)⟩ (fun hHeld => ?_)
  clear hK K
  refine norm_ (a' := ?_) ?_ ?_
  rotate_left
  · show Act.put _ (some 48) _ = _
    simp only [Act.put, List.setIfInBounds_toArray, List.set_cons_zero, List.set_cons_succ, i64_w, i32_w]
    rfl
  refine one_ (i := 15) (N := some 50) #[true, true, true, true, true, true, true, true, true, true, true, true, true, true, true, true, false, false, false, false, false, false, false, false, false, false, false, false, false, false] rfl rfl (by kernel_rfl) (by decide) (fun K hK => ?_)
  refine goes_ Try.func23 (by kernel_rfl) rfl #[S6 ⟨l, r, e, n, p, d⟩] (by rfl) rfl rfl (by simp only [List.map_toArray, List.map_cons, List.map_nil]; rfl) ?_
  with_reducible refine (C2.out _).mono ?_
  rintro e wz5 ⟨rfl, hx5⟩
  have hb6 := b_step hb5 hx5
  refine ⟨_, rfl, ?_⟩
  refine hK.out _ _ ⟨(cell_below hHeld.1 hx5), (cell_below hHeld.2.1 hx5), (cell_below hHeld.2.2.1 hx5), (cell_below hHeld.2.2.2.1 hx5), (cell_below hHeld.2.2.2.2.1 hx5), (cell_below hHeld.2.2.2.2.2.1 hx5), (cell_below hHeld.2.2.2.2.2.2.1 hx5), (cell_below hHeld.2.2.2.2.2.2.2.1 hx5), (cell_below hHeld.2.2.2.2.2.2.2.2.1 hx5), (cell_below hHeld.2.2.2.2.2.2.2.2.2.1 hx5), (cell_below hHeld.2.2.2.2.2.2.2.2.2.2.1 hx5), (cell_below hHeld.2.2.2.2.2.2.2.2.2.2.2.1 hx5), (cell_below hHeld.2.2.2.2.2.2.2.2.2.2.2.2.1 hx5), (cell_below hHeld.2.2.2.2.2.2.2.2.2.2.2.2.2.1 hx5), (cell_below hHeld.2.2.2.2.2.2.2.2.2.2.2.2.2.2.1 hx5), (cell_below hHeld.2.2.2.2.2.2.2.2.2.2.2.2.2.2.2.1 hx5), (cell_below hHeld.2.2.2.2.2.2.2.2.2.2.2.2.2.2.2.2.1 hx5), (cell_below hHeld.2.2.2.2.2.2.2.2.2.2.2.2.2.2.2.2.2 hx5)⟩ (fun hHeld => ?_)
  clear hK K
  refine norm_ (a' := ?_) ?_ ?_
  rotate_left
  · show Act.put _ (some 50) _ = _
    simp only [Act.put, List.setIfInBounds_toArray, List.set_cons_zero, List.set_cons_succ, i64_w, i32_w]
    rfl
  refine pure_ (i := 16) (N := some 51) (v := ?_) (a' := ?_) #[true, true, true, true, true, true, true, true, true, true, true, true, true, true, true, true, true, false, false, false, false, false, false, false, false, false, false, false, false, false] rfl rfl (by kernel_rfl) (fun _ _ _ h => h) (Or.inl ⟨by rfl, ?_⟩) ?_ ?_
  rotate_left
  · intro w'
    go_simp
    with_reducible rfl
  rotate_left
  · simp only [Act.put, List.setIfInBounds_toArray, List.set_cons_zero, List.set_cons_succ, i64_w, i32_w]
    rfl
  refine pure_ (i := 17) (N := some 52) (v := ?_) (a' := ?_) #[true, true, true, true, true, true, true, true, true, true, true, true, true, true, true, true, true, true, false, false, false, false, false, false, false, false, false, false, false, false] rfl rfl (by kernel_rfl) (fun _ _ _ h => h) (Or.inl ⟨by rfl, ?_⟩) ?_ ?_
  rotate_left
  · intro w'
    go_simp
    with_reducible rfl
  rotate_left
  · simp only [Act.put, List.setIfInBounds_toArray, List.set_cons_zero, List.set_cons_succ, i64_w, i32_w]
    rfl
  refine pure_ (i := 18) (N := some 53) (v := ?_) (a' := ?_) #[true, true, true, true, true, true, true, true, true, true, true, true, true, true, true, true, true, true, true, false, false, false, false, false, false, false, false, false, false, false] rfl rfl (by kernel_rfl) (fun _ _ _ h => h) (Or.inl ⟨by rfl, ?_⟩) ?_ ?_
  rotate_left
  · intro w'
    go_simp
    with_reducible rfl
  rotate_left
  · simp only [Act.put, List.setIfInBounds_toArray, List.set_cons_zero, List.set_cons_succ, i64_w, i32_w]
    rfl
  refine pure_ (i := 20) (N := some 55) (v := ?_) (a' := ?_) #[true, true, true, true, true, true, true, true, true, true, true, true, true, true, true, true, true, true, true, false, true, false, false, false, false, false, false, false, false, false] rfl rfl (by kernel_rfl) (fun _ _ _ h => h) (Or.inl ⟨by rfl, ?_⟩) ?_ ?_
  rotate_left
  · intro w'
    go_simp
    with_reducible rfl
  rotate_left
  · simp only [Act.put, List.setIfInBounds_toArray, List.set_cons_zero, List.set_cons_succ, i64_w, i32_w]
    rfl
  refine pure_ (i := 21) (N := some 56) (v := ?_) (a' := ?_) #[true, true, true, true, true, true, true, true, true, true, true, true, true, true, true, true, true, true, true, false, true, true, false, false, false, false, false, false, false, false] rfl rfl (by kernel_rfl) (fun _ _ _ h => h) (Or.inl ⟨by rfl, ?_⟩) ?_ ?_
  rotate_left
  · intro w'
    go_simp
    with_reducible rfl
  rotate_left
  · simp only [Act.put, List.setIfInBounds_toArray, List.set_cons_zero, List.set_cons_succ, i64_w, i32_w]
    rfl
  refine pure_ (i := 24) (N := some 59) (v := ?_) (a' := ?_) #[true, true, true, true, true, true, true, true, true, true, true, true, true, true, true, true, true, true, true, false, true, true, false, false, true, false, false, false, false, false] rfl rfl (by kernel_rfl) (fun _ _ _ h => h) (Or.inl ⟨by rfl, ?_⟩) ?_ ?_
  rotate_left
  · intro w'
    go_simp
    with_reducible rfl
  rotate_left
  · simp only [Act.put, List.setIfInBounds_toArray, List.set_cons_zero, List.set_cons_succ, i64_w, i32_w]
    rfl
  refine pure_ (i := 25) (N := some 60) (v := ?_) (a' := ?_) #[true, true, true, true, true, true, true, true, true, true, true, true, true, true, true, true, true, true, true, false, true, true, false, false, true, true, false, false, false, false] rfl rfl (by kernel_rfl) (fun _ _ _ h => h) (Or.inl ⟨by rfl, ?_⟩) ?_ ?_
  rotate_left
  · intro w'
    go_simp
    with_reducible rfl
  rotate_left
  · simp only [Act.put, List.setIfInBounds_toArray, List.set_cons_zero, List.set_cons_succ, i64_w, i32_w]
    rfl
  refine take_ (i := 19) (N := some 54) (v := ?_) (a' := ?_) #[true, true, true, true, true, true, true, true, true, true, true, true, true, true, true, true, true, true, true, true, true, true, false, false, true, true, false, false, false, false] rfl rfl (by kernel_rfl) (fun _ _ _ h => h) (Or.inl ⟨by rfl, ?_⟩) hHeld ?_ ?_
  rotate_left
  · rintro w' ⟨s0, s1, s2, s3, s4, s5, s6, s7, s8, s9, s10, s11, s12, s13, s14, s15, s16, s17⟩
    go_simp
    with_reducible rfl
  rotate_left
  · simp only [Act.put, List.setIfInBounds_toArray, List.set_cons_zero, List.set_cons_succ, i64_w, i32_w]
    rfl
  refine take_ (i := 23) (N := some 58) (v := ?_) (a' := ?_) #[true, true, true, true, true, true, true, true, true, true, true, true, true, true, true, true, true, true, true, true, true, true, false, true, true, true, false, false, false, false] rfl rfl (by kernel_rfl) (fun _ _ _ h => h) (Or.inl ⟨by rfl, ?_⟩) hHeld ?_ ?_
  rotate_left
  · rintro w' ⟨s0, s1, s2, s3, s4, s5, s6, s7, s8, s9, s10, s11, s12, s13, s14, s15, s16, s17⟩
    go_simp
    with_reducible rfl
  rotate_left
  · simp only [Act.put, List.setIfInBounds_toArray, List.set_cons_zero, List.set_cons_succ, i64_w, i32_w]
    rfl
  refine one_ (i := 22) (N := some 57) #[true, true, true, true, true, true, true, true, true, true, true, true, true, true, true, true, true, true, true, true, true, true, true, true, true, true, false, false, false, false] rfl rfl (by kernel_rfl) (by decide) (fun K hK => ?_)
  refine goes_ Try.func16 (by kernel_rfl) rfl #[S6 ⟨l, r, e, n, p, d⟩, .int .i64 mn, .int .i64 me] (by rfl) rfl rfl (by simp only [List.map_toArray, List.map_cons, List.map_nil]; rfl) ?_
  with_reducible refine (A1.out _).mono ?_
  rintro e wz6 ⟨rfl, hx6⟩
  have hb7 := b_step hb6 hx6
  refine ⟨_, rfl, ?_⟩
  refine hK.out _ _ ⟨(cell_below hHeld.1 hx6), (cell_below hHeld.2.1 hx6), (cell_below hHeld.2.2.1 hx6), (cell_below hHeld.2.2.2.1 hx6), (cell_below hHeld.2.2.2.2.1 hx6), (cell_below hHeld.2.2.2.2.2.1 hx6), (cell_below hHeld.2.2.2.2.2.2.1 hx6), (cell_below hHeld.2.2.2.2.2.2.2.1 hx6), (cell_below hHeld.2.2.2.2.2.2.2.2.1 hx6), (cell_below hHeld.2.2.2.2.2.2.2.2.2.1 hx6), (cell_below hHeld.2.2.2.2.2.2.2.2.2.2.1 hx6), (cell_below hHeld.2.2.2.2.2.2.2.2.2.2.2.1 hx6), (cell_below hHeld.2.2.2.2.2.2.2.2.2.2.2.2.1 hx6), (cell_below hHeld.2.2.2.2.2.2.2.2.2.2.2.2.2.1 hx6), (cell_below hHeld.2.2.2.2.2.2.2.2.2.2.2.2.2.2.1 hx6), (cell_below hHeld.2.2.2.2.2.2.2.2.2.2.2.2.2.2.2.1 hx6), (cell_below hHeld.2.2.2.2.2.2.2.2.2.2.2.2.2.2.2.2.1 hx6), (cell_below hHeld.2.2.2.2.2.2.2.2.2.2.2.2.2.2.2.2.2 hx6)⟩ (fun hHeld => ?_)
  clear hK K
  refine norm_ (a' := ?_) ?_ ?_
  rotate_left
  · show Act.put _ (some 57) _ = _
    simp only [Act.put, List.setIfInBounds_toArray, List.set_cons_zero, List.set_cons_succ, i64_w, i32_w]
    rfl
  refine one_ (i := 26) (N := some 61) #[true, true, true, true, true, true, true, true, true, true, true, true, true, true, true, true, true, true, true, true, true, true, true, true, true, true, true, false, false, false] rfl rfl (by kernel_rfl) (by decide) (fun K hK => ?_)
  refine goes_ Try.func24 (by kernel_rfl) rfl #[S6 ⟨l, r, e, n, p, d⟩, .int .i64 mn, .int .i64 me] (by rfl) rfl rfl (by simp only [List.map_toArray, List.map_cons, List.map_nil]; rfl) ?_
  with_reducible refine (A2.out _).mono ?_
  rintro e wz7 ⟨rfl, hx7⟩
  have hb8 := b_step hb7 hx7
  refine ⟨_, rfl, ?_⟩
  refine hK.out _ _ ⟨(cell_below hHeld.1 hx7), (cell_below hHeld.2.1 hx7), (cell_below hHeld.2.2.1 hx7), (cell_below hHeld.2.2.2.1 hx7), (cell_below hHeld.2.2.2.2.1 hx7), (cell_below hHeld.2.2.2.2.2.1 hx7), (cell_below hHeld.2.2.2.2.2.2.1 hx7), (cell_below hHeld.2.2.2.2.2.2.2.1 hx7), (cell_below hHeld.2.2.2.2.2.2.2.2.1 hx7), (cell_below hHeld.2.2.2.2.2.2.2.2.2.1 hx7), (cell_below hHeld.2.2.2.2.2.2.2.2.2.2.1 hx7), (cell_below hHeld.2.2.2.2.2.2.2.2.2.2.2.1 hx7), (cell_below hHeld.2.2.2.2.2.2.2.2.2.2.2.2.1 hx7), (cell_below hHeld.2.2.2.2.2.2.2.2.2.2.2.2.2.1 hx7), (cell_below hHeld.2.2.2.2.2.2.2.2.2.2.2.2.2.2.1 hx7), (cell_below hHeld.2.2.2.2.2.2.2.2.2.2.2.2.2.2.2.1 hx7), (cell_below hHeld.2.2.2.2.2.2.2.2.2.2.2.2.2.2.2.2.1 hx7), (cell_below hHeld.2.2.2.2.2.2.2.2.2.2.2.2.2.2.2.2.2 hx7)⟩ (fun hHeld => ?_)
  clear hK K
  refine norm_ (a' := ?_) ?_ ?_
  rotate_left
  · show Act.put _ (some 61) _ = _
    simp only [Act.put, List.setIfInBounds_toArray, List.set_cons_zero, List.set_cons_succ, i64_w, i32_w]
    rfl
  refine pure_ (i := 27) (N := some 62) (v := ?_) (a' := ?_) #[true, true, true, true, true, true, true, true, true, true, true, true, true, true, true, true, true, true, true, true, true, true, true, true, true, true, true, true, false, false] rfl rfl (by kernel_rfl) (fun _ _ _ h => h) (Or.inl ⟨by rfl, ?_⟩) ?_ ?_
  rotate_left
  · intro w'
    go_simp
    with_reducible rfl
  rotate_left
  · simp only [Act.put, List.setIfInBounds_toArray, List.set_cons_zero, List.set_cons_succ, i64_w, i32_w]
    rfl
  refine pure_ (i := 28) (N := some 63) (v := ?_) (a' := ?_) #[true, true, true, true, true, true, true, true, true, true, true, true, true, true, true, true, true, true, true, true, true, true, true, true, true, true, true, true, true, false] rfl rfl (by kernel_rfl) (fun _ _ _ h => h) (Or.inl ⟨by rfl, ?_⟩) ?_ ?_
  rotate_left
  · intro w'
    go_simp
    with_reducible rfl
  rotate_left
  · simp only [Act.put, List.setIfInBounds_toArray, List.set_cons_zero, List.set_cons_succ, i64_w, i32_w]
    rfl
  refine pure_ (i := 29) (N := some 6) (v := ?_) (a' := ?_) #[true, true, true, true, true, true, true, true, true, true, true, true, true, true, true, true, true, true, true, true, true, true, true, true, true, true, true, true, true, true] rfl rfl (by kernel_rfl) (fun _ _ _ h => h) (Or.inl ⟨by rfl, ?_⟩) ?_ ?_
  rotate_left
  · intro w'
    go_simp
    with_reducible rfl
  rotate_left
  · simp only [Act.put, List.setIfInBounds_toArray, List.set_cons_zero, List.set_cons_succ, i64_w, i32_w]
    rfl
  refine done_ (by kernel_rfl) ?_
  go_wp2_with fail
  go_ret
  exact ⟨rfl, hb8⟩
end Go.Proofs.Ytemljffppdjmgaa
