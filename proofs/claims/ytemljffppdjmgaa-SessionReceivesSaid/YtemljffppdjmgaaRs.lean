/- The reference's Receive: the cases in which the epoch rises, and all cases together. -/
import Derived.Test.YtemljffppdjmgaaRr
namespace Go.Proofs.Ytemljffppdjmgaa
open Go.RowKit Go.Proofs.YtemljffppdjmgaaW.PrintLast
set_option linter.unusedVariables false
set_option linter.unusedSimpArgs false
set_option maxHeartbeats 2000000 in
theorem rrecv_up5b {l r e n p d c mf mt mn me mx now : Int} {va ba : Option Addr} {vl vc bl bc : Nat} (hz : chk ⟨l, r, e, n, p, d⟩ = c) (hc : (c != 0) = false) (h1 : (mf != r) = false) (h2 : (mt != l) = false) (h3 : 0 ≤ me) (h4 : me ≤ 1073741824) (h5 : 0 ≤ mn) (h6 : mn ≤ 1073741824) (he : e < me) (hq : mn < n) (w : World) : Calls Try.prog 18 #[S6 ⟨l, r, e, n, p, d⟩, .int .i64 now, MV ⟨5, mf, mt, mn, me⟩ mx (.slice va vl vc) (.slice ba bl bc)] w (Gave ⟨l, r, me, n, 0, 0⟩ [⟨7, l, r, n, me⟩] w) := by
  have HC := Lib.hid (fun w => rchk_c hz w)
  clear hz
  go_enter Try.func18, Try.ntmps18
  go_wp2_with fail
  refine (HC.out _).mono ?_
  rintro e0 w1 ⟨rfl, h1⟩
  have A1 := (((Blk.new w (c6 ⟨l, r, e, n, p, d⟩) 28).alloc (.cells (c8 ⟨5, mf, mt, mn, me⟩ mx (.slice va vl vc) (.slice ba bl bc)) 51)).alloc (.cells (c6 zS) 28)).below h1
  have M1 := ((Blk.new (w.alloc (.cells (c6 ⟨l, r, e, n, p, d⟩) 28)) (c8 ⟨5, mf, mt, mn, me⟩ mx (.slice va vl vc) (.slice ba bl bc)) 51).alloc (.cells (c6 zS) 28)).below h1
  have D1 := (Blk.new ((w.alloc (.cells (c6 ⟨l, r, e, n, p, d⟩) 28)).alloc (.cells (c8 ⟨5, mf, mt, mn, me⟩ mx (.slice va vl vc) (.slice ba bl bc)) 51)) (c6 zS) 28).below h1
  rw [World.size_alloc] at M1
  rw [World.size_alloc, World.size_alloc] at D1
  have hb1 := b_step (b_alloc (b_alloc (b_alloc (Below.refl w.heap.size w) (.cells (c6 ⟨l, r, e, n, p, d⟩) 28)) (.cells (c8 ⟨5, mf, mt, mn, me⟩ mx (.slice va vl vc) (.slice ba bl bc)) 51)) (.cells (c6 zS) 28)) h1
  have la := A1.lt
  have ld := D1.lt
  clear h1 HC
  obtain ⟨c0, c1, c2, c3, c4, c5, f0, f1, f2, f3, f4, f5⟩ := A1.six
  obtain ⟨g0, g1, g2, g3, g4, g5, k0, k1, k2, k3, k4, k5⟩ := D1.six
  have m0 := M1.cell 0
  have m1 := M1.cell 1
  have m2 := M1.cell 2
  have m3 := M1.cell 3
  have m5 := M1.cell 5
  go_wp2_with fail
  refine (phase_any ⟨l, r, me, n, p, d⟩ 0 _).mono ?_
  rintro e7 w7 ⟨rfl, h7⟩
  have A2 := (A1.set 2 (.int .i64 me)).below h7
  have M2 := (M1.far (p := ⟨w.heap.size, 2, none⟩) (by simp) (.int .i64 me)).below h7
  have D2 := (D1.far (p := ⟨w.heap.size, 2, none⟩) (by show w.heap.size + 1 + 1 ≠ w.heap.size; omega) (.int .i64 me)).below h7
  have hb2 := b_step (b_set (g := w.heap.size) (j := 2) (v := .int .i64 me) hb1 (Nat.le_refl _)) h7
  replace A2 : Blk w7 w.heap.size #[.int .i64 l, .int .i64 r, .int .i64 me, .int .i64 n, .int .i64 p, .int .i64 d] 28 := A2
  clear A1 M1 D1 hb1 h7 c0 f0 g0 k0 c1 f1 g1 k1 c2 f2 g2 k2 c3 f3 g3 k3 c4 f4 g4 k4 c5 f5 g5 k5 m0 m1 m2 m3 m5
  obtain ⟨c0, c1, c2, c3, c4, c5, f0, f1, f2, f3, f4, f5⟩ := A2.six
  have A3 := A2.store6 (a' := .int .i64 l) (b' := .int .i64 r) (c' := .int .i64 me) (d' := .int .i64 n) (e' := .int .i64 0) (f' := .int .i64 0)
  have M3 := M2.far6 (g' := w.heap.size) (a := .int .i64 l) (b := .int .i64 r) (c := .int .i64 me) (d := .int .i64 n) (e := .int .i64 0) (f := .int .i64 0) (by omega)
  have D3 := D2.far6 (g' := w.heap.size) (a := .int .i64 l) (b := .int .i64 r) (c := .int .i64 me) (d := .int .i64 n) (e := .int .i64 0) (f := .int .i64 0) (by omega)
  have hb3 := b_store6 (g := w.heap.size) (a := .int .i64 l) (b := .int .i64 r) (c := .int .i64 me) (d := .int .i64 n) (e := .int .i64 0) (f := .int .i64 0) hb2 (Nat.le_refl _)
  have m0 := M2.cell 0
  have lm := M2.lt
  have la2 := A2.lt
  clear A2 M2 D2 hb2
  go_upto_region 12 with fail
  clear c0 f0 c1 f1 c2 f2 c3 f3 c4 f4 c5 f5 m0
  generalize ((((((w7.setCell ⟨w.heap.size, 0, none⟩ (.int .i64 l)).setCell ⟨w.heap.size, 1, none⟩ (.int .i64 r)).setCell ⟨w.heap.size, 2, none⟩ (.int .i64 me)).setCell ⟨w.heap.size, 3, none⟩ (.int .i64 n)).setCell ⟨w.heap.size, 4, none⟩ (.int .i64 0)).setCell ⟨w.heap.size, 5, none⟩ (.int .i64 0)) = w8 at *
  have la3 := A3.lt
  have ld3 := D3.lt
  obtain ⟨c0, c1, c2, c3, c4, c5, f0, f1, f2, f3, f4, f5⟩ := A3.six
  obtain ⟨g0, g1, g2, g3, g4, g5, k0, k1, k2, k3, k4, k5⟩ := D3.six
  have m0 := M3.cell 0
  have m1 := M3.cell 1
  have m2 := M3.cell 2
  have m3 := M3.cell 3
  have m5 := M3.cell 5
  go_upto_region 17 with fail
  generalize w8 = wq at *
  have HS := Lib.hid A3
  have HT := Lib.hid D3
  have HB := Lib.hid hb3
  clear A3 D3 hb3
  refine start_ (n := 5) (S := fun w' => w'.cell? ⟨w.heap.size, 0, none⟩ = some (.int .i64 l) ∧ w'.cell? ⟨w.heap.size, 1, none⟩ = some (.int .i64 r) ∧ w'.cell? ⟨w.heap.size, 2, none⟩ = some (.int .i64 me) ∧ w'.cell? ⟨w.heap.size, 3, none⟩ = some (.int .i64 n) ∧ w'.cell? ⟨w.heap.size, 4, none⟩ = some (.int .i64 0) ∧ w'.cell? ⟨w.heap.size, 5, none⟩ = some (.int .i64 0)) (ds := [3]) #[false, false, false, false, false] (by kernel_rfl) rfl rfl ⟨(HS.out.drew.cell 0), (HS.out.drew.cell 1), (HS.out.drew.cell 2), (HS.out.drew.cell 3), (HS.out.drew.cell 4), (HS.out.drew.cell 5)⟩ (fun hHeld => ?_)
  refine take_ (i := 0) (N := some 107) (v := ?_) (a' := ?_) #[true, false, false, false, false] rfl rfl (by kernel_rfl) (fun _ _ _ h => h) (Or.inl ⟨by rfl, ?_⟩) hHeld ?_ ?_
  rotate_left
  · rintro w' ⟨s0, s1, s2, s3, s4, s5⟩
    go_simp
    with_reducible rfl
  rotate_left
  · simp only [Act.put, List.setIfInBounds_toArray, List.set_cons_zero, List.set_cons_succ, i64_w, i32_w]
    rfl
  refine take_ (i := 1) (N := some 108) (v := ?_) (a' := ?_) #[true, true, false, false, false] rfl rfl (by kernel_rfl) (fun _ _ _ h => h) (Or.inl ⟨by rfl, ?_⟩) hHeld ?_ ?_
  rotate_left
  · rintro w' ⟨s0, s1, s2, s3, s4, s5⟩
    go_simp
    with_reducible rfl
  rotate_left
  · simp only [Act.put, List.setIfInBounds_toArray, List.set_cons_zero, List.set_cons_succ, i64_w, i32_w]
    rfl
  refine one_ (i := 2) (N := some 109) #[true, true, true, false, false] rfl rfl (by kernel_rfl) (by decide) (fun K hK => ?_)
  refine goes_ Try.func37 (by kernel_rfl) rfl #[S6 ⟨l, r, me, n, 0, 0⟩, .int .i64 7] (by rfl) rfl rfl (by simp only [List.map_toArray, List.map_cons, List.map_nil]; rfl) ?_
  with_reducible refine (msg_any ⟨l, r, me, n, 0, 0⟩ 7 _).mono ?_
  rintro e9 wz ⟨v9, he, hr, hb⟩
  subst he
  refine ⟨_, rfl, ?_⟩
  have hT2 := HT.out.drew.below hb
  have hlt := hT2.lt
  have hsz : w.heap.size + 3 ≤ wq.heap.size := HT.out.lt
  have R1 := Lib.hid ((hr.lower (base' := w.heap.size + 3) hsz))
  have R2 := Lib.hid ((R1.out.far6 (g := w.heap.size + 1 + 1) (a := .int .i64 l) (b := .int .i64 r) (c := .int .i64 me) (d := .int .i64 n) (e := .int .i64 0) (f := .int .i64 0) (by omega)).lower (base' := w.heap.size) (by omega))
  have T2 := Lib.hid (hT2.store6 (a' := .int .i64 l) (b' := .int .i64 r) (c' := .int .i64 me) (d' := .int .i64 n) (e' := .int .i64 0) (f' := .int .i64 0))
  have B2 := Lib.hid (b_store6 (g := w.heap.size + 1 + 1) (a := .int .i64 l) (b := .int .i64 r) (c := .int .i64 me) (d := .int .i64 n) (e := .int .i64 0) (f := .int .i64 0) (b_step (b_drew HB.out) hb) (by omega))
  obtain ⟨y0, y1, y2, y3, y4, y5, z0, z1, z2, z3, z4, z5⟩ := hT2.six
  clear hT2
  refine hK.out _ _ ⟨(cell_below hHeld.1 hb), (cell_below hHeld.2.1 hb), (cell_below hHeld.2.2.1 hb), (cell_below hHeld.2.2.2.1 hb), (cell_below hHeld.2.2.2.2.1 hb), (cell_below hHeld.2.2.2.2.2 hb)⟩ (fun hHeld => ?_)
  clear hK K
  refine norm_ (a' := ?_) ?_ ?_
  rotate_left
  · show Act.put _ (some 109) _ = _
    simp only [Act.put, List.setIfInBounds_toArray, List.set_cons_zero, List.set_cons_succ, i64_w, i32_w]
    rfl
  refine last_ (i := 3) (N := none) #[true, true, true, true, false] rfl rfl (by kernel_rfl) (by decide) (fun K hK => ?_)
  refine skip_ (w1 := ?_) (by rfl) rfl ?_ ?_
  rotate_left
  · go_simp
    rfl
  refine hK.out _ _ ?_
  clear hK K
  refine pure_ (i := 4) (N := some 7) (v := ?_) (a' := ?_) #[true, true, true, true, true] rfl rfl (by kernel_rfl) (fun _ _ _ h => h) (Or.inl ⟨by rfl, ?_⟩) ?_ ?_
  rotate_left
  · intro w'
    go_simp
    with_reducible rfl
  rotate_left
  · simp only [Act.put, List.setIfInBounds_toArray, List.set_cons_zero, List.set_cons_succ, i64_w, i32_w]
    rfl
  refine done_ (by kernel_rfl) ?_
  go_wp2_with fail
  exact bodyPost_ret (results_ct rfl _ _ (w.heap.size + 1 + 1) 28 (c6 ⟨l, r, me, n, 0, 0⟩) _ rfl T2.out Try.underlying28 rfl (by kernel_rfl)) rfl ⟨v9, rfl, R2.out, B2.out⟩
set_option maxHeartbeats 2000000 in
theorem rrecv_up5e {l r e n p d c mf mt me mx now : Int} {va ba : Option Addr} {vl vc bl bc : Nat} (hz : chk ⟨l, r, e, n, p, d⟩ = c) (hc : (c != 0) = false) (h1 : (mf != r) = false) (h2 : (mt != l) = false) (h3 : 0 ≤ me) (h4 : me ≤ 1073741824) (h5 : 0 ≤ n) (h6 : n ≤ 1073741824) (he : e < me) (w : World) : Calls Try.prog 18 #[S6 ⟨l, r, e, n, p, d⟩, .int .i64 now, MV ⟨5, mf, mt, n, me⟩ mx (.slice va vl vc) (.slice ba bl bc)] w (Gave ⟨l, r, me, n, 0, 0⟩ [⟨7, l, r, n, me⟩] w) := by
  have HC := Lib.hid (fun w => rchk_c hz w)
  clear hz
  go_enter Try.func18, Try.ntmps18
  go_wp2_with fail
  refine (HC.out _).mono ?_
  rintro e0 w1 ⟨rfl, h1⟩
  have A1 := (((Blk.new w (c6 ⟨l, r, e, n, p, d⟩) 28).alloc (.cells (c8 ⟨5, mf, mt, n, me⟩ mx (.slice va vl vc) (.slice ba bl bc)) 51)).alloc (.cells (c6 zS) 28)).below h1
  have M1 := ((Blk.new (w.alloc (.cells (c6 ⟨l, r, e, n, p, d⟩) 28)) (c8 ⟨5, mf, mt, n, me⟩ mx (.slice va vl vc) (.slice ba bl bc)) 51).alloc (.cells (c6 zS) 28)).below h1
  have D1 := (Blk.new ((w.alloc (.cells (c6 ⟨l, r, e, n, p, d⟩) 28)).alloc (.cells (c8 ⟨5, mf, mt, n, me⟩ mx (.slice va vl vc) (.slice ba bl bc)) 51)) (c6 zS) 28).below h1
  rw [World.size_alloc] at M1
  rw [World.size_alloc, World.size_alloc] at D1
  have hb1 := b_step (b_alloc (b_alloc (b_alloc (Below.refl w.heap.size w) (.cells (c6 ⟨l, r, e, n, p, d⟩) 28)) (.cells (c8 ⟨5, mf, mt, n, me⟩ mx (.slice va vl vc) (.slice ba bl bc)) 51)) (.cells (c6 zS) 28)) h1
  have la := A1.lt
  have ld := D1.lt
  clear h1 HC
  obtain ⟨c0, c1, c2, c3, c4, c5, f0, f1, f2, f3, f4, f5⟩ := A1.six
  obtain ⟨g0, g1, g2, g3, g4, g5, k0, k1, k2, k3, k4, k5⟩ := D1.six
  have m0 := M1.cell 0
  have m1 := M1.cell 1
  have m2 := M1.cell 2
  have m3 := M1.cell 3
  have m5 := M1.cell 5
  go_wp2_with fail
  refine (phase_any ⟨l, r, me, n, p, d⟩ 0 _).mono ?_
  rintro e7 w7 ⟨rfl, h7⟩
  have A2 := (A1.set 2 (.int .i64 me)).below h7
  have M2 := (M1.far (p := ⟨w.heap.size, 2, none⟩) (by simp) (.int .i64 me)).below h7
  have D2 := (D1.far (p := ⟨w.heap.size, 2, none⟩) (by show w.heap.size + 1 + 1 ≠ w.heap.size; omega) (.int .i64 me)).below h7
  have hb2 := b_step (b_set (g := w.heap.size) (j := 2) (v := .int .i64 me) hb1 (Nat.le_refl _)) h7
  replace A2 : Blk w7 w.heap.size #[.int .i64 l, .int .i64 r, .int .i64 me, .int .i64 n, .int .i64 p, .int .i64 d] 28 := A2
  clear A1 M1 D1 hb1 h7 c0 f0 g0 k0 c1 f1 g1 k1 c2 f2 g2 k2 c3 f3 g3 k3 c4 f4 g4 k4 c5 f5 g5 k5 m0 m1 m2 m3 m5
  obtain ⟨c0, c1, c2, c3, c4, c5, f0, f1, f2, f3, f4, f5⟩ := A2.six
  have A3 := A2.store6 (a' := .int .i64 l) (b' := .int .i64 r) (c' := .int .i64 me) (d' := .int .i64 n) (e' := .int .i64 0) (f' := .int .i64 0)
  have M3 := M2.far6 (g' := w.heap.size) (a := .int .i64 l) (b := .int .i64 r) (c := .int .i64 me) (d := .int .i64 n) (e := .int .i64 0) (f := .int .i64 0) (by omega)
  have D3 := D2.far6 (g' := w.heap.size) (a := .int .i64 l) (b := .int .i64 r) (c := .int .i64 me) (d := .int .i64 n) (e := .int .i64 0) (f := .int .i64 0) (by omega)
  have hb3 := b_store6 (g := w.heap.size) (a := .int .i64 l) (b := .int .i64 r) (c := .int .i64 me) (d := .int .i64 n) (e := .int .i64 0) (f := .int .i64 0) hb2 (Nat.le_refl _)
  have m0 := M2.cell 0
  have lm := M2.lt
  have la2 := A2.lt
  clear A2 M2 D2 hb2
  go_upto_region 12 with fail
  clear c0 f0 c1 f1 c2 f2 c3 f3 c4 f4 c5 f5 m0
  generalize ((((((w7.setCell ⟨w.heap.size, 0, none⟩ (.int .i64 l)).setCell ⟨w.heap.size, 1, none⟩ (.int .i64 r)).setCell ⟨w.heap.size, 2, none⟩ (.int .i64 me)).setCell ⟨w.heap.size, 3, none⟩ (.int .i64 n)).setCell ⟨w.heap.size, 4, none⟩ (.int .i64 0)).setCell ⟨w.heap.size, 5, none⟩ (.int .i64 0)) = w8 at *
  have la3 := A3.lt
  have ld3 := D3.lt
  obtain ⟨c0, c1, c2, c3, c4, c5, f0, f1, f2, f3, f4, f5⟩ := A3.six
  obtain ⟨g0, g1, g2, g3, g4, g5, k0, k1, k2, k3, k4, k5⟩ := D3.six
  have m0 := M3.cell 0
  have m1 := M3.cell 1
  have m2 := M3.cell 2
  have m3 := M3.cell 3
  have m5 := M3.cell 5
  go_upto_region 17 with fail
  generalize w8 = wq at *
  have HS := Lib.hid A3
  have HT := Lib.hid D3
  have HB := Lib.hid hb3
  clear A3 D3 hb3
  refine start_ (n := 5) (S := fun w' => w'.cell? ⟨w.heap.size, 0, none⟩ = some (.int .i64 l) ∧ w'.cell? ⟨w.heap.size, 1, none⟩ = some (.int .i64 r) ∧ w'.cell? ⟨w.heap.size, 2, none⟩ = some (.int .i64 me) ∧ w'.cell? ⟨w.heap.size, 3, none⟩ = some (.int .i64 n) ∧ w'.cell? ⟨w.heap.size, 4, none⟩ = some (.int .i64 0) ∧ w'.cell? ⟨w.heap.size, 5, none⟩ = some (.int .i64 0)) (ds := [3]) #[false, false, false, false, false] (by kernel_rfl) rfl rfl ⟨(HS.out.drew.cell 0), (HS.out.drew.cell 1), (HS.out.drew.cell 2), (HS.out.drew.cell 3), (HS.out.drew.cell 4), (HS.out.drew.cell 5)⟩ (fun hHeld => ?_)
  refine take_ (i := 0) (N := some 107) (v := ?_) (a' := ?_) #[true, false, false, false, false] rfl rfl (by kernel_rfl) (fun _ _ _ h => h) (Or.inl ⟨by rfl, ?_⟩) hHeld ?_ ?_
  rotate_left
  · rintro w' ⟨s0, s1, s2, s3, s4, s5⟩
    go_simp
    with_reducible rfl
  rotate_left
  · simp only [Act.put, List.setIfInBounds_toArray, List.set_cons_zero, List.set_cons_succ, i64_w, i32_w]
    rfl
  refine take_ (i := 1) (N := some 108) (v := ?_) (a' := ?_) #[true, true, false, false, false] rfl rfl (by kernel_rfl) (fun _ _ _ h => h) (Or.inl ⟨by rfl, ?_⟩) hHeld ?_ ?_
  rotate_left
  · rintro w' ⟨s0, s1, s2, s3, s4, s5⟩
    go_simp
    with_reducible rfl
  rotate_left
  · simp only [Act.put, List.setIfInBounds_toArray, List.set_cons_zero, List.set_cons_succ, i64_w, i32_w]
    rfl
  refine one_ (i := 2) (N := some 109) #[true, true, true, false, false] rfl rfl (by kernel_rfl) (by decide) (fun K hK => ?_)
  refine goes_ Try.func37 (by kernel_rfl) rfl #[S6 ⟨l, r, me, n, 0, 0⟩, .int .i64 7] (by rfl) rfl rfl (by simp only [List.map_toArray, List.map_cons, List.map_nil]; rfl) ?_
  with_reducible refine (msg_any ⟨l, r, me, n, 0, 0⟩ 7 _).mono ?_
  rintro e9 wz ⟨v9, he, hr, hb⟩
  subst he
  refine ⟨_, rfl, ?_⟩
  have hT2 := HT.out.drew.below hb
  have hlt := hT2.lt
  have hsz : w.heap.size + 3 ≤ wq.heap.size := HT.out.lt
  have R1 := Lib.hid ((hr.lower (base' := w.heap.size + 3) hsz))
  have R2 := Lib.hid ((R1.out.far6 (g := w.heap.size + 1 + 1) (a := .int .i64 l) (b := .int .i64 r) (c := .int .i64 me) (d := .int .i64 n) (e := .int .i64 0) (f := .int .i64 0) (by omega)).lower (base' := w.heap.size) (by omega))
  have T2 := Lib.hid (hT2.store6 (a' := .int .i64 l) (b' := .int .i64 r) (c' := .int .i64 me) (d' := .int .i64 n) (e' := .int .i64 0) (f' := .int .i64 0))
  have B2 := Lib.hid (b_store6 (g := w.heap.size + 1 + 1) (a := .int .i64 l) (b := .int .i64 r) (c := .int .i64 me) (d := .int .i64 n) (e := .int .i64 0) (f := .int .i64 0) (b_step (b_drew HB.out) hb) (by omega))
  obtain ⟨y0, y1, y2, y3, y4, y5, z0, z1, z2, z3, z4, z5⟩ := hT2.six
  clear hT2
  refine hK.out _ _ ⟨(cell_below hHeld.1 hb), (cell_below hHeld.2.1 hb), (cell_below hHeld.2.2.1 hb), (cell_below hHeld.2.2.2.1 hb), (cell_below hHeld.2.2.2.2.1 hb), (cell_below hHeld.2.2.2.2.2 hb)⟩ (fun hHeld => ?_)
  clear hK K
  refine norm_ (a' := ?_) ?_ ?_
  rotate_left
  · show Act.put _ (some 109) _ = _
    simp only [Act.put, List.setIfInBounds_toArray, List.set_cons_zero, List.set_cons_succ, i64_w, i32_w]
    rfl
  refine last_ (i := 3) (N := none) #[true, true, true, true, false] rfl rfl (by kernel_rfl) (by decide) (fun K hK => ?_)
  refine skip_ (w1 := ?_) (by rfl) rfl ?_ ?_
  rotate_left
  · go_simp
    rfl
  refine hK.out _ _ ?_
  clear hK K
  refine pure_ (i := 4) (N := some 7) (v := ?_) (a' := ?_) #[true, true, true, true, true] rfl rfl (by kernel_rfl) (fun _ _ _ h => h) (Or.inl ⟨by rfl, ?_⟩) ?_ ?_
  rotate_left
  · intro w'
    go_simp
    with_reducible rfl
  rotate_left
  · simp only [Act.put, List.setIfInBounds_toArray, List.set_cons_zero, List.set_cons_succ, i64_w, i32_w]
    rfl
  refine done_ (by kernel_rfl) ?_
  go_wp2_with fail
  exact bodyPost_ret (results_ct rfl _ _ (w.heap.size + 1 + 1) 28 (c6 ⟨l, r, me, n, 0, 0⟩) _ rfl T2.out Try.underlying28 rfl (by kernel_rfl)) rfl ⟨v9, rfl, R2.out, B2.out⟩
set_option maxHeartbeats 2000000 in
theorem rrecv_up5c {l r e n p d c mf mt mn me mx now : Int} {va ba : Option Addr} {vl vc bl bc : Nat} (hz : chk ⟨l, r, e, n, p, d⟩ = c) (hc : (c != 0) = false) (h1 : (mf != r) = false) (h2 : (mt != l) = false) (h3 : 0 ≤ me) (h4 : me ≤ 1073741824) (h5 : 0 ≤ mn) (h6 : mn ≤ 1073741824) (he : e < me) (hq : n < mn) (w : World) : Calls Try.prog 18 #[S6 ⟨l, r, e, n, p, d⟩, .int .i64 now, MV ⟨5, mf, mt, mn, me⟩ mx (.slice va vl vc) (.slice ba bl bc)] w (Gave ⟨l, r, me, mn, 2, 0⟩ [⟨6, l, r, mn, me⟩] w) := by
  have HC := Lib.hid (fun w => rchk_c hz w)
  clear hz
  go_enter Try.func18, Try.ntmps18
  go_wp2_with fail
  refine (HC.out _).mono ?_
  rintro e0 w1 ⟨rfl, h1⟩
  have A1 := (((Blk.new w (c6 ⟨l, r, e, n, p, d⟩) 28).alloc (.cells (c8 ⟨5, mf, mt, mn, me⟩ mx (.slice va vl vc) (.slice ba bl bc)) 51)).alloc (.cells (c6 zS) 28)).below h1
  have M1 := ((Blk.new (w.alloc (.cells (c6 ⟨l, r, e, n, p, d⟩) 28)) (c8 ⟨5, mf, mt, mn, me⟩ mx (.slice va vl vc) (.slice ba bl bc)) 51).alloc (.cells (c6 zS) 28)).below h1
  have D1 := (Blk.new ((w.alloc (.cells (c6 ⟨l, r, e, n, p, d⟩) 28)).alloc (.cells (c8 ⟨5, mf, mt, mn, me⟩ mx (.slice va vl vc) (.slice ba bl bc)) 51)) (c6 zS) 28).below h1
  rw [World.size_alloc] at M1
  rw [World.size_alloc, World.size_alloc] at D1
  have hb1 := b_step (b_alloc (b_alloc (b_alloc (Below.refl w.heap.size w) (.cells (c6 ⟨l, r, e, n, p, d⟩) 28)) (.cells (c8 ⟨5, mf, mt, mn, me⟩ mx (.slice va vl vc) (.slice ba bl bc)) 51)) (.cells (c6 zS) 28)) h1
  have la := A1.lt
  have ld := D1.lt
  clear h1 HC
  obtain ⟨c0, c1, c2, c3, c4, c5, f0, f1, f2, f3, f4, f5⟩ := A1.six
  obtain ⟨g0, g1, g2, g3, g4, g5, k0, k1, k2, k3, k4, k5⟩ := D1.six
  have m0 := M1.cell 0
  have m1 := M1.cell 1
  have m2 := M1.cell 2
  have m3 := M1.cell 3
  have m5 := M1.cell 5
  go_wp2_with fail
  refine (phase_any ⟨l, r, me, n, p, d⟩ 0 _).mono ?_
  rintro e7 w7 ⟨rfl, h7⟩
  have A2 := (A1.set 2 (.int .i64 me)).below h7
  have M2 := (M1.far (p := ⟨w.heap.size, 2, none⟩) (by simp) (.int .i64 me)).below h7
  have D2 := (D1.far (p := ⟨w.heap.size, 2, none⟩) (by show w.heap.size + 1 + 1 ≠ w.heap.size; omega) (.int .i64 me)).below h7
  have hb2 := b_step (b_set (g := w.heap.size) (j := 2) (v := .int .i64 me) hb1 (Nat.le_refl _)) h7
  replace A2 : Blk w7 w.heap.size #[.int .i64 l, .int .i64 r, .int .i64 me, .int .i64 n, .int .i64 p, .int .i64 d] 28 := A2
  clear A1 M1 D1 hb1 h7 c0 f0 g0 k0 c1 f1 g1 k1 c2 f2 g2 k2 c3 f3 g3 k3 c4 f4 g4 k4 c5 f5 g5 k5 m0 m1 m2 m3 m5
  obtain ⟨c0, c1, c2, c3, c4, c5, f0, f1, f2, f3, f4, f5⟩ := A2.six
  have A3 := A2.store6 (a' := .int .i64 l) (b' := .int .i64 r) (c' := .int .i64 me) (d' := .int .i64 n) (e' := .int .i64 0) (f' := .int .i64 0)
  have M3 := M2.far6 (g' := w.heap.size) (a := .int .i64 l) (b := .int .i64 r) (c := .int .i64 me) (d := .int .i64 n) (e := .int .i64 0) (f := .int .i64 0) (by omega)
  have D3 := D2.far6 (g' := w.heap.size) (a := .int .i64 l) (b := .int .i64 r) (c := .int .i64 me) (d := .int .i64 n) (e := .int .i64 0) (f := .int .i64 0) (by omega)
  have hb3 := b_store6 (g := w.heap.size) (a := .int .i64 l) (b := .int .i64 r) (c := .int .i64 me) (d := .int .i64 n) (e := .int .i64 0) (f := .int .i64 0) hb2 (Nat.le_refl _)
  have m0 := M2.cell 0
  have lm := M2.lt
  have la2 := A2.lt
  clear A2 M2 D2 hb2
  go_upto_region 12 with fail
  clear c0 f0 c1 f1 c2 f2 c3 f3 c4 f4 c5 f5 m0
  generalize ((((((w7.setCell ⟨w.heap.size, 0, none⟩ (.int .i64 l)).setCell ⟨w.heap.size, 1, none⟩ (.int .i64 r)).setCell ⟨w.heap.size, 2, none⟩ (.int .i64 me)).setCell ⟨w.heap.size, 3, none⟩ (.int .i64 n)).setCell ⟨w.heap.size, 4, none⟩ (.int .i64 0)).setCell ⟨w.heap.size, 5, none⟩ (.int .i64 0)) = w8 at *
  have la3 := A3.lt
  have ld3 := D3.lt
  obtain ⟨c0, c1, c2, c3, c4, c5, f0, f1, f2, f3, f4, f5⟩ := A3.six
  obtain ⟨g0, g1, g2, g3, g4, g5, k0, k1, k2, k3, k4, k5⟩ := D3.six
  have m0 := M3.cell 0
  have m1 := M3.cell 1
  have m2 := M3.cell 2
  have m3 := M3.cell 3
  have m5 := M3.cell 5
  go_wp2_with fail
  refine (phase_any ⟨l, r, me, mn, 0, 0⟩ 2 _).mono ?_
  rintro e6 w9 ⟨rfl, h9⟩
  have A4 := (A3.set 3 (.int .i64 mn)).below h9
  have D4 := (D3.far (p := ⟨w.heap.size, 3, none⟩) (by show w.heap.size + 1 + 1 ≠ w.heap.size; omega) (.int .i64 mn)).below h9
  have hb4 := b_step (b_set (g := w.heap.size) (j := 3) (v := .int .i64 mn) hb3 (Nat.le_refl _)) h9
  replace A4 : Blk w9 w.heap.size #[.int .i64 l, .int .i64 r, .int .i64 me, .int .i64 mn, .int .i64 0, .int .i64 0] 28 := A4
  have la4 := A4.lt
  clear A3 M3 D3 hb3 h9 c0 f0 g0 k0 c1 f1 g1 k1 c2 f2 g2 k2 c3 f3 g3 k3 c4 f4 g4 k4 c5 f5 g5 k5 m0 m1 m2 m3 m5
  obtain ⟨c0, c1, c2, c3, c4, c5, f0, f1, f2, f3, f4, f5⟩ := A4.six
  have A5 := A4.store6 (a' := .int .i64 l) (b' := .int .i64 r) (c' := .int .i64 me) (d' := .int .i64 mn) (e' := .int .i64 2) (f' := .int .i64 0)
  have D5 := D4.far6 (g' := w.heap.size) (a := .int .i64 l) (b := .int .i64 r) (c := .int .i64 me) (d := .int .i64 mn) (e := .int .i64 2) (f := .int .i64 0) (by omega)
  have hb5 := b_store6 (g := w.heap.size) (a := .int .i64 l) (b := .int .i64 r) (c := .int .i64 me) (d := .int .i64 mn) (e := .int .i64 2) (f := .int .i64 0) hb4 (Nat.le_refl _)
  clear A4 D4 hb4
  go_upto_region 20 with fail
  clear c0 f0 c1 f1 c2 f2 c3 f3 c4 f4 c5 f5
  generalize ((((((w9.setCell ⟨w.heap.size, 0, none⟩ (.int .i64 l)).setCell ⟨w.heap.size, 1, none⟩ (.int .i64 r)).setCell ⟨w.heap.size, 2, none⟩ (.int .i64 me)).setCell ⟨w.heap.size, 3, none⟩ (.int .i64 mn)).setCell ⟨w.heap.size, 4, none⟩ (.int .i64 2)).setCell ⟨w.heap.size, 5, none⟩ (.int .i64 0)) = wq at *
  have HS := Lib.hid A5
  have HT := Lib.hid D5
  have HB := Lib.hid hb5
  clear A5 D5 hb5
  refine start_ (n := 5) (S := fun w' => w'.cell? ⟨w.heap.size, 0, none⟩ = some (.int .i64 l) ∧ w'.cell? ⟨w.heap.size, 1, none⟩ = some (.int .i64 r) ∧ w'.cell? ⟨w.heap.size, 2, none⟩ = some (.int .i64 me) ∧ w'.cell? ⟨w.heap.size, 3, none⟩ = some (.int .i64 mn) ∧ w'.cell? ⟨w.heap.size, 4, none⟩ = some (.int .i64 2) ∧ w'.cell? ⟨w.heap.size, 5, none⟩ = some (.int .i64 0)) (ds := [3]) #[false, false, false, false, false] (by kernel_rfl) rfl rfl ⟨(HS.out.drew.cell 0), (HS.out.drew.cell 1), (HS.out.drew.cell 2), (HS.out.drew.cell 3), (HS.out.drew.cell 4), (HS.out.drew.cell 5)⟩ (fun hHeld => ?_)
  refine take_ (i := 0) (N := some 115) (v := ?_) (a' := ?_) #[true, false, false, false, false] rfl rfl (by kernel_rfl) (fun _ _ _ h => h) (Or.inl ⟨by rfl, ?_⟩) hHeld ?_ ?_
  rotate_left
  · rintro w' ⟨s0, s1, s2, s3, s4, s5⟩
    go_simp
    with_reducible rfl
  rotate_left
  · simp only [Act.put, List.setIfInBounds_toArray, List.set_cons_zero, List.set_cons_succ, i64_w, i32_w]
    rfl
  refine take_ (i := 1) (N := some 116) (v := ?_) (a' := ?_) #[true, true, false, false, false] rfl rfl (by kernel_rfl) (fun _ _ _ h => h) (Or.inl ⟨by rfl, ?_⟩) hHeld ?_ ?_
  rotate_left
  · rintro w' ⟨s0, s1, s2, s3, s4, s5⟩
    go_simp
    with_reducible rfl
  rotate_left
  · simp only [Act.put, List.setIfInBounds_toArray, List.set_cons_zero, List.set_cons_succ, i64_w, i32_w]
    rfl
  refine one_ (i := 2) (N := some 117) #[true, true, true, false, false] rfl rfl (by kernel_rfl) (by decide) (fun K hK => ?_)
  refine goes_ Try.func37 (by kernel_rfl) rfl #[S6 ⟨l, r, me, mn, 2, 0⟩, .int .i64 6] (by rfl) rfl rfl (by simp only [List.map_toArray, List.map_cons, List.map_nil]; rfl) ?_
  with_reducible refine (msg_any ⟨l, r, me, mn, 2, 0⟩ 6 _).mono ?_
  rintro e9 wz ⟨v9, he, hr, hb⟩
  subst he
  refine ⟨_, rfl, ?_⟩
  have hT2 := HT.out.drew.below hb
  have hlt := hT2.lt
  have hsz : w.heap.size + 3 ≤ wq.heap.size := HT.out.lt
  have R1 := Lib.hid ((hr.lower (base' := w.heap.size + 3) hsz))
  have R2 := Lib.hid ((R1.out.far6 (g := w.heap.size + 1 + 1) (a := .int .i64 l) (b := .int .i64 r) (c := .int .i64 me) (d := .int .i64 mn) (e := .int .i64 2) (f := .int .i64 0) (by omega)).lower (base' := w.heap.size) (by omega))
  have T2 := Lib.hid (hT2.store6 (a' := .int .i64 l) (b' := .int .i64 r) (c' := .int .i64 me) (d' := .int .i64 mn) (e' := .int .i64 2) (f' := .int .i64 0))
  have B2 := Lib.hid (b_store6 (g := w.heap.size + 1 + 1) (a := .int .i64 l) (b := .int .i64 r) (c := .int .i64 me) (d := .int .i64 mn) (e := .int .i64 2) (f := .int .i64 0) (b_step (b_drew HB.out) hb) (by omega))
  obtain ⟨y0, y1, y2, y3, y4, y5, z0, z1, z2, z3, z4, z5⟩ := hT2.six
  clear hT2
  refine hK.out _ _ ⟨(cell_below hHeld.1 hb), (cell_below hHeld.2.1 hb), (cell_below hHeld.2.2.1 hb), (cell_below hHeld.2.2.2.1 hb), (cell_below hHeld.2.2.2.2.1 hb), (cell_below hHeld.2.2.2.2.2 hb)⟩ (fun hHeld => ?_)
  clear hK K
  refine norm_ (a' := ?_) ?_ ?_
  rotate_left
  · show Act.put _ (some 117) _ = _
    simp only [Act.put, List.setIfInBounds_toArray, List.set_cons_zero, List.set_cons_succ, i64_w, i32_w]
    rfl
  refine last_ (i := 3) (N := none) #[true, true, true, true, false] rfl rfl (by kernel_rfl) (by decide) (fun K hK => ?_)
  refine skip_ (w1 := ?_) (by rfl) rfl ?_ ?_
  rotate_left
  · go_simp
    rfl
  refine hK.out _ _ ?_
  clear hK K
  refine pure_ (i := 4) (N := some 7) (v := ?_) (a' := ?_) #[true, true, true, true, true] rfl rfl (by kernel_rfl) (fun _ _ _ h => h) (Or.inl ⟨by rfl, ?_⟩) ?_ ?_
  rotate_left
  · intro w'
    go_simp
    with_reducible rfl
  rotate_left
  · simp only [Act.put, List.setIfInBounds_toArray, List.set_cons_zero, List.set_cons_succ, i64_w, i32_w]
    rfl
  refine done_ (by kernel_rfl) ?_
  go_wp2_with fail
  exact bodyPost_ret (results_ct rfl _ _ (w.heap.size + 1 + 1) 28 (c6 ⟨l, r, me, mn, 2, 0⟩) _ rfl T2.out Try.underlying28 rfl (by kernel_rfl)) rfl ⟨v9, rfl, R2.out, B2.out⟩
set_option maxHeartbeats 2000000 in
theorem rrecv_up6a {l r e n p d c mf mt mn me mx now : Int} {va ba : Option Addr} {vl vc bl bc : Nat} (hz : chk ⟨l, r, e, n, p, d⟩ = c) (hc : (c != 0) = false) (h1 : (mf != r) = false) (h2 : (mt != l) = false) (h3 : 0 ≤ me) (h4 : me ≤ 1073741824) (h5 : 0 ≤ mn) (h6 : mn ≤ 1073741824) (he : e < me) (hq : (mn != n) = true) (w : World) : Calls Try.prog 18 #[S6 ⟨l, r, e, n, p, d⟩, .int .i64 now, MV ⟨6, mf, mt, mn, me⟩ mx (.slice va vl vc) (.slice ba bl bc)] w (Gave ⟨l, r, me, n, 0, 0⟩ [] w) := by
  have HC := Lib.hid (fun w => rchk_c hz w)
  clear hz
  go_enter Try.func18, Try.ntmps18
  go_wp2_with fail
  refine (HC.out _).mono ?_
  rintro e0 w1 ⟨rfl, h1⟩
  have A1 := (((Blk.new w (c6 ⟨l, r, e, n, p, d⟩) 28).alloc (.cells (c8 ⟨6, mf, mt, mn, me⟩ mx (.slice va vl vc) (.slice ba bl bc)) 51)).alloc (.cells (c6 zS) 28)).below h1
  have M1 := ((Blk.new (w.alloc (.cells (c6 ⟨l, r, e, n, p, d⟩) 28)) (c8 ⟨6, mf, mt, mn, me⟩ mx (.slice va vl vc) (.slice ba bl bc)) 51).alloc (.cells (c6 zS) 28)).below h1
  have D1 := (Blk.new ((w.alloc (.cells (c6 ⟨l, r, e, n, p, d⟩) 28)).alloc (.cells (c8 ⟨6, mf, mt, mn, me⟩ mx (.slice va vl vc) (.slice ba bl bc)) 51)) (c6 zS) 28).below h1
  rw [World.size_alloc] at M1
  rw [World.size_alloc, World.size_alloc] at D1
  have hb1 := b_step (b_alloc (b_alloc (b_alloc (Below.refl w.heap.size w) (.cells (c6 ⟨l, r, e, n, p, d⟩) 28)) (.cells (c8 ⟨6, mf, mt, mn, me⟩ mx (.slice va vl vc) (.slice ba bl bc)) 51)) (.cells (c6 zS) 28)) h1
  have la := A1.lt
  have ld := D1.lt
  clear h1 HC
  obtain ⟨c0, c1, c2, c3, c4, c5, f0, f1, f2, f3, f4, f5⟩ := A1.six
  obtain ⟨g0, g1, g2, g3, g4, g5, k0, k1, k2, k3, k4, k5⟩ := D1.six
  have m0 := M1.cell 0
  have m1 := M1.cell 1
  have m2 := M1.cell 2
  have m3 := M1.cell 3
  have m5 := M1.cell 5
  go_wp2_with fail
  refine (phase_any ⟨l, r, me, n, p, d⟩ 0 _).mono ?_
  rintro e7 w7 ⟨rfl, h7⟩
  have A2 := (A1.set 2 (.int .i64 me)).below h7
  have M2 := (M1.far (p := ⟨w.heap.size, 2, none⟩) (by simp) (.int .i64 me)).below h7
  have D2 := (D1.far (p := ⟨w.heap.size, 2, none⟩) (by show w.heap.size + 1 + 1 ≠ w.heap.size; omega) (.int .i64 me)).below h7
  have hb2 := b_step (b_set (g := w.heap.size) (j := 2) (v := .int .i64 me) hb1 (Nat.le_refl _)) h7
  replace A2 : Blk w7 w.heap.size #[.int .i64 l, .int .i64 r, .int .i64 me, .int .i64 n, .int .i64 p, .int .i64 d] 28 := A2
  clear A1 M1 D1 hb1 h7 c0 f0 g0 k0 c1 f1 g1 k1 c2 f2 g2 k2 c3 f3 g3 k3 c4 f4 g4 k4 c5 f5 g5 k5 m0 m1 m2 m3 m5
  obtain ⟨c0, c1, c2, c3, c4, c5, f0, f1, f2, f3, f4, f5⟩ := A2.six
  have A3 := A2.store6 (a' := .int .i64 l) (b' := .int .i64 r) (c' := .int .i64 me) (d' := .int .i64 n) (e' := .int .i64 0) (f' := .int .i64 0)
  have M3 := M2.far6 (g' := w.heap.size) (a := .int .i64 l) (b := .int .i64 r) (c := .int .i64 me) (d := .int .i64 n) (e := .int .i64 0) (f := .int .i64 0) (by omega)
  have D3 := D2.far6 (g' := w.heap.size) (a := .int .i64 l) (b := .int .i64 r) (c := .int .i64 me) (d := .int .i64 n) (e := .int .i64 0) (f := .int .i64 0) (by omega)
  have hb3 := b_store6 (g := w.heap.size) (a := .int .i64 l) (b := .int .i64 r) (c := .int .i64 me) (d := .int .i64 n) (e := .int .i64 0) (f := .int .i64 0) hb2 (Nat.le_refl _)
  have m0 := M2.cell 0
  have lm := M2.lt
  have la2 := A2.lt
  clear A2 M2 D2 hb2
  go_upto_region 12 with fail
  clear c0 f0 c1 f1 c2 f2 c3 f3 c4 f4 c5 f5 m0
  generalize ((((((w7.setCell ⟨w.heap.size, 0, none⟩ (.int .i64 l)).setCell ⟨w.heap.size, 1, none⟩ (.int .i64 r)).setCell ⟨w.heap.size, 2, none⟩ (.int .i64 me)).setCell ⟨w.heap.size, 3, none⟩ (.int .i64 n)).setCell ⟨w.heap.size, 4, none⟩ (.int .i64 0)).setCell ⟨w.heap.size, 5, none⟩ (.int .i64 0)) = w8 at *
  have la3 := A3.lt
  have ld3 := D3.lt
  obtain ⟨c0, c1, c2, c3, c4, c5, f0, f1, f2, f3, f4, f5⟩ := A3.six
  obtain ⟨g0, g1, g2, g3, g4, g5, k0, k1, k2, k3, k4, k5⟩ := D3.six
  have m0 := M3.cell 0
  have m1 := M3.cell 1
  have m2 := M3.cell 2
  have m3 := M3.cell 3
  have m5 := M3.cell 5
  go_upto_region 23 with fail
  clear A3 M3
  have T2 := Lib.hid (D3.store6 (a' := .int .i64 l) (b' := .int .i64 r) (c' := .int .i64 me) (d' := .int .i64 n) (e' := .int .i64 0) (f' := .int .i64 0))
  have B2 := Lib.hid (b_store6 (g := w.heap.size + 1 + 1) (a := .int .i64 l) (b := .int .i64 r) (c := .int .i64 me) (d := .int .i64 n) (e := .int .i64 0) (f := .int .i64 0) hb3 (by omega))
  clear D3 hb3
  go_wp2_with fail
  exact bodyPost_ret (results_ct rfl _ _ (w.heap.size + 1 + 1) 28 (c6 ⟨l, r, me, n, 0, 0⟩) _ rfl T2.out Try.underlying28 rfl (by kernel_rfl)) rfl ⟨.slice none 0 0, rfl, row_nil _ _, B2.out⟩
set_option maxHeartbeats 2000000 in
theorem rrecv_up6b {l r e n p d c mf mt mn me mx now : Int} {va ba : Option Addr} {vl vc bl bc : Nat} (hz : chk ⟨l, r, e, n, p, d⟩ = c) (hc : (c != 0) = false) (h1 : (mf != r) = false) (h2 : (mt != l) = false) (h3 : 0 ≤ me) (h4 : me ≤ 1073741824) (h5 : 0 ≤ mn) (h6 : mn ≤ 1073741824) (he : e < me) (hq : (mn != n) = false) (w : World) : Calls Try.prog 18 #[S6 ⟨l, r, e, n, p, d⟩, .int .i64 now, MV ⟨6, mf, mt, mn, me⟩ mx (.slice va vl vc) (.slice ba bl bc)] w (Gave ⟨l, r, me, n, 0, 0⟩ [⟨7, l, r, n, me⟩] w) := by
  have HC := Lib.hid (fun w => rchk_c hz w)
  clear hz
  go_enter Try.func18, Try.ntmps18
  go_wp2_with fail
  refine (HC.out _).mono ?_
  rintro e0 w1 ⟨rfl, h1⟩
  have A1 := (((Blk.new w (c6 ⟨l, r, e, n, p, d⟩) 28).alloc (.cells (c8 ⟨6, mf, mt, mn, me⟩ mx (.slice va vl vc) (.slice ba bl bc)) 51)).alloc (.cells (c6 zS) 28)).below h1
  have M1 := ((Blk.new (w.alloc (.cells (c6 ⟨l, r, e, n, p, d⟩) 28)) (c8 ⟨6, mf, mt, mn, me⟩ mx (.slice va vl vc) (.slice ba bl bc)) 51).alloc (.cells (c6 zS) 28)).below h1
  have D1 := (Blk.new ((w.alloc (.cells (c6 ⟨l, r, e, n, p, d⟩) 28)).alloc (.cells (c8 ⟨6, mf, mt, mn, me⟩ mx (.slice va vl vc) (.slice ba bl bc)) 51)) (c6 zS) 28).below h1
  rw [World.size_alloc] at M1
  rw [World.size_alloc, World.size_alloc] at D1
  have hb1 := b_step (b_alloc (b_alloc (b_alloc (Below.refl w.heap.size w) (.cells (c6 ⟨l, r, e, n, p, d⟩) 28)) (.cells (c8 ⟨6, mf, mt, mn, me⟩ mx (.slice va vl vc) (.slice ba bl bc)) 51)) (.cells (c6 zS) 28)) h1
  have la := A1.lt
  have ld := D1.lt
  clear h1 HC
  obtain ⟨c0, c1, c2, c3, c4, c5, f0, f1, f2, f3, f4, f5⟩ := A1.six
  obtain ⟨g0, g1, g2, g3, g4, g5, k0, k1, k2, k3, k4, k5⟩ := D1.six
  have m0 := M1.cell 0
  have m1 := M1.cell 1
  have m2 := M1.cell 2
  have m3 := M1.cell 3
  have m5 := M1.cell 5
  go_wp2_with fail
  refine (phase_any ⟨l, r, me, n, p, d⟩ 0 _).mono ?_
  rintro e7 w7 ⟨rfl, h7⟩
  have A2 := (A1.set 2 (.int .i64 me)).below h7
  have M2 := (M1.far (p := ⟨w.heap.size, 2, none⟩) (by simp) (.int .i64 me)).below h7
  have D2 := (D1.far (p := ⟨w.heap.size, 2, none⟩) (by show w.heap.size + 1 + 1 ≠ w.heap.size; omega) (.int .i64 me)).below h7
  have hb2 := b_step (b_set (g := w.heap.size) (j := 2) (v := .int .i64 me) hb1 (Nat.le_refl _)) h7
  replace A2 : Blk w7 w.heap.size #[.int .i64 l, .int .i64 r, .int .i64 me, .int .i64 n, .int .i64 p, .int .i64 d] 28 := A2
  clear A1 M1 D1 hb1 h7 c0 f0 g0 k0 c1 f1 g1 k1 c2 f2 g2 k2 c3 f3 g3 k3 c4 f4 g4 k4 c5 f5 g5 k5 m0 m1 m2 m3 m5
  obtain ⟨c0, c1, c2, c3, c4, c5, f0, f1, f2, f3, f4, f5⟩ := A2.six
  have A3 := A2.store6 (a' := .int .i64 l) (b' := .int .i64 r) (c' := .int .i64 me) (d' := .int .i64 n) (e' := .int .i64 0) (f' := .int .i64 0)
  have M3 := M2.far6 (g' := w.heap.size) (a := .int .i64 l) (b := .int .i64 r) (c := .int .i64 me) (d := .int .i64 n) (e := .int .i64 0) (f := .int .i64 0) (by omega)
  have D3 := D2.far6 (g' := w.heap.size) (a := .int .i64 l) (b := .int .i64 r) (c := .int .i64 me) (d := .int .i64 n) (e := .int .i64 0) (f := .int .i64 0) (by omega)
  have hb3 := b_store6 (g := w.heap.size) (a := .int .i64 l) (b := .int .i64 r) (c := .int .i64 me) (d := .int .i64 n) (e := .int .i64 0) (f := .int .i64 0) hb2 (Nat.le_refl _)
  have m0 := M2.cell 0
  have lm := M2.lt
  have la2 := A2.lt
  clear A2 M2 D2 hb2
  go_upto_region 12 with fail
  clear c0 f0 c1 f1 c2 f2 c3 f3 c4 f4 c5 f5 m0
  generalize ((((((w7.setCell ⟨w.heap.size, 0, none⟩ (.int .i64 l)).setCell ⟨w.heap.size, 1, none⟩ (.int .i64 r)).setCell ⟨w.heap.size, 2, none⟩ (.int .i64 me)).setCell ⟨w.heap.size, 3, none⟩ (.int .i64 n)).setCell ⟨w.heap.size, 4, none⟩ (.int .i64 0)).setCell ⟨w.heap.size, 5, none⟩ (.int .i64 0)) = w8 at *
  have la3 := A3.lt
  have ld3 := D3.lt
  obtain ⟨c0, c1, c2, c3, c4, c5, f0, f1, f2, f3, f4, f5⟩ := A3.six
  obtain ⟨g0, g1, g2, g3, g4, g5, k0, k1, k2, k3, k4, k5⟩ := D3.six
  have m0 := M3.cell 0
  have m1 := M3.cell 1
  have m2 := M3.cell 2
  have m3 := M3.cell 3
  have m5 := M3.cell 5
  go_upto_region 25 with fail
  generalize w8 = wq at *
  have HS := Lib.hid A3
  have HT := Lib.hid D3
  have HB := Lib.hid hb3
  clear A3 D3 hb3
  refine start_ (n := 5) (S := fun w' => w'.cell? ⟨w.heap.size, 0, none⟩ = some (.int .i64 l) ∧ w'.cell? ⟨w.heap.size, 1, none⟩ = some (.int .i64 r) ∧ w'.cell? ⟨w.heap.size, 2, none⟩ = some (.int .i64 me) ∧ w'.cell? ⟨w.heap.size, 3, none⟩ = some (.int .i64 n) ∧ w'.cell? ⟨w.heap.size, 4, none⟩ = some (.int .i64 0) ∧ w'.cell? ⟨w.heap.size, 5, none⟩ = some (.int .i64 0)) (ds := [3]) #[false, false, false, false, false] (by kernel_rfl) rfl rfl ⟨(HS.out.drew.cell 0), (HS.out.drew.cell 1), (HS.out.drew.cell 2), (HS.out.drew.cell 3), (HS.out.drew.cell 4), (HS.out.drew.cell 5)⟩ (fun hHeld => ?_)
  refine take_ (i := 0) (N := some 129) (v := ?_) (a' := ?_) #[true, false, false, false, false] rfl rfl (by kernel_rfl) (fun _ _ _ h => h) (Or.inl ⟨by rfl, ?_⟩) hHeld ?_ ?_
  rotate_left
  · rintro w' ⟨s0, s1, s2, s3, s4, s5⟩
    go_simp
    with_reducible rfl
  rotate_left
  · simp only [Act.put, List.setIfInBounds_toArray, List.set_cons_zero, List.set_cons_succ, i64_w, i32_w]
    rfl
  refine take_ (i := 1) (N := some 130) (v := ?_) (a' := ?_) #[true, true, false, false, false] rfl rfl (by kernel_rfl) (fun _ _ _ h => h) (Or.inl ⟨by rfl, ?_⟩) hHeld ?_ ?_
  rotate_left
  · rintro w' ⟨s0, s1, s2, s3, s4, s5⟩
    go_simp
    with_reducible rfl
  rotate_left
  · simp only [Act.put, List.setIfInBounds_toArray, List.set_cons_zero, List.set_cons_succ, i64_w, i32_w]
    rfl
  refine one_ (i := 2) (N := some 131) #[true, true, true, false, false] rfl rfl (by kernel_rfl) (by decide) (fun K hK => ?_)
  refine goes_ Try.func37 (by kernel_rfl) rfl #[S6 ⟨l, r, me, n, 0, 0⟩, .int .i64 7] (by rfl) rfl rfl (by simp only [List.map_toArray, List.map_cons, List.map_nil]; rfl) ?_
  with_reducible refine (msg_any ⟨l, r, me, n, 0, 0⟩ 7 _).mono ?_
  rintro e9 wz ⟨v9, he, hr, hb⟩
  subst he
  refine ⟨_, rfl, ?_⟩
  have hT2 := HT.out.drew.below hb
  have hlt := hT2.lt
  have hsz : w.heap.size + 3 ≤ wq.heap.size := HT.out.lt
  have R1 := Lib.hid ((hr.lower (base' := w.heap.size + 3) hsz))
  have R2 := Lib.hid ((R1.out.far6 (g := w.heap.size + 1 + 1) (a := .int .i64 l) (b := .int .i64 r) (c := .int .i64 me) (d := .int .i64 n) (e := .int .i64 0) (f := .int .i64 0) (by omega)).lower (base' := w.heap.size) (by omega))
  have T2 := Lib.hid (hT2.store6 (a' := .int .i64 l) (b' := .int .i64 r) (c' := .int .i64 me) (d' := .int .i64 n) (e' := .int .i64 0) (f' := .int .i64 0))
  have B2 := Lib.hid (b_store6 (g := w.heap.size + 1 + 1) (a := .int .i64 l) (b := .int .i64 r) (c := .int .i64 me) (d := .int .i64 n) (e := .int .i64 0) (f := .int .i64 0) (b_step (b_drew HB.out) hb) (by omega))
  obtain ⟨y0, y1, y2, y3, y4, y5, z0, z1, z2, z3, z4, z5⟩ := hT2.six
  clear hT2
  refine hK.out _ _ ⟨(cell_below hHeld.1 hb), (cell_below hHeld.2.1 hb), (cell_below hHeld.2.2.1 hb), (cell_below hHeld.2.2.2.1 hb), (cell_below hHeld.2.2.2.2.1 hb), (cell_below hHeld.2.2.2.2.2 hb)⟩ (fun hHeld => ?_)
  clear hK K
  refine norm_ (a' := ?_) ?_ ?_
  rotate_left
  · show Act.put _ (some 131) _ = _
    simp only [Act.put, List.setIfInBounds_toArray, List.set_cons_zero, List.set_cons_succ, i64_w, i32_w]
    rfl
  refine last_ (i := 3) (N := none) #[true, true, true, true, false] rfl rfl (by kernel_rfl) (by decide) (fun K hK => ?_)
  refine skip_ (w1 := ?_) (by rfl) rfl ?_ ?_
  rotate_left
  · go_simp
    rfl
  refine hK.out _ _ ?_
  clear hK K
  refine pure_ (i := 4) (N := some 7) (v := ?_) (a' := ?_) #[true, true, true, true, true] rfl rfl (by kernel_rfl) (fun _ _ _ h => h) (Or.inl ⟨by rfl, ?_⟩) ?_ ?_
  rotate_left
  · intro w'
    go_simp
    with_reducible rfl
  rotate_left
  · simp only [Act.put, List.setIfInBounds_toArray, List.set_cons_zero, List.set_cons_succ, i64_w, i32_w]
    rfl
  refine done_ (by kernel_rfl) ?_
  go_wp2_with fail
  exact bodyPost_ret (results_ct rfl _ _ (w.heap.size + 1 + 1) 28 (c6 ⟨l, r, me, n, 0, 0⟩) _ rfl T2.out Try.underlying28 rfl (by kernel_rfl)) rfl ⟨v9, rfl, R2.out, B2.out⟩
set_option maxHeartbeats 2000000 in
theorem rrecv_up7a {l r e n p d c mf mt mn me mx now : Int} {va ba : Option Addr} {vl vc bl bc : Nat} (hz : chk ⟨l, r, e, n, p, d⟩ = c) (hc : (c != 0) = false) (h1 : (mf != r) = false) (h2 : (mt != l) = false) (h3 : 0 ≤ me) (h4 : me ≤ 1073741824) (h5 : 0 ≤ mn) (h6 : mn ≤ 1073741824) (he : e < me) (hq : mn < n) (w : World) : Calls Try.prog 18 #[S6 ⟨l, r, e, n, p, d⟩, .int .i64 now, MV ⟨7, mf, mt, mn, me⟩ mx (.slice va vl vc) (.slice ba bl bc)] w (Gave ⟨l, r, me, n, 0, 0⟩ [] w) := by
  have HC := Lib.hid (fun w => rchk_c hz w)
  clear hz
  go_enter Try.func18, Try.ntmps18
  go_wp2_with fail
  refine (HC.out _).mono ?_
  rintro e0 w1 ⟨rfl, h1⟩
  have A1 := (((Blk.new w (c6 ⟨l, r, e, n, p, d⟩) 28).alloc (.cells (c8 ⟨7, mf, mt, mn, me⟩ mx (.slice va vl vc) (.slice ba bl bc)) 51)).alloc (.cells (c6 zS) 28)).below h1
  have M1 := ((Blk.new (w.alloc (.cells (c6 ⟨l, r, e, n, p, d⟩) 28)) (c8 ⟨7, mf, mt, mn, me⟩ mx (.slice va vl vc) (.slice ba bl bc)) 51).alloc (.cells (c6 zS) 28)).below h1
  have D1 := (Blk.new ((w.alloc (.cells (c6 ⟨l, r, e, n, p, d⟩) 28)).alloc (.cells (c8 ⟨7, mf, mt, mn, me⟩ mx (.slice va vl vc) (.slice ba bl bc)) 51)) (c6 zS) 28).below h1
  rw [World.size_alloc] at M1
  rw [World.size_alloc, World.size_alloc] at D1
  have hb1 := b_step (b_alloc (b_alloc (b_alloc (Below.refl w.heap.size w) (.cells (c6 ⟨l, r, e, n, p, d⟩) 28)) (.cells (c8 ⟨7, mf, mt, mn, me⟩ mx (.slice va vl vc) (.slice ba bl bc)) 51)) (.cells (c6 zS) 28)) h1
  have la := A1.lt
  have ld := D1.lt
  clear h1 HC
  obtain ⟨c0, c1, c2, c3, c4, c5, f0, f1, f2, f3, f4, f5⟩ := A1.six
  obtain ⟨g0, g1, g2, g3, g4, g5, k0, k1, k2, k3, k4, k5⟩ := D1.six
  have m0 := M1.cell 0
  have m1 := M1.cell 1
  have m2 := M1.cell 2
  have m3 := M1.cell 3
  have m5 := M1.cell 5
  go_wp2_with fail
  refine (phase_any ⟨l, r, me, n, p, d⟩ 0 _).mono ?_
  rintro e7 w7 ⟨rfl, h7⟩
  have A2 := (A1.set 2 (.int .i64 me)).below h7
  have M2 := (M1.far (p := ⟨w.heap.size, 2, none⟩) (by simp) (.int .i64 me)).below h7
  have D2 := (D1.far (p := ⟨w.heap.size, 2, none⟩) (by show w.heap.size + 1 + 1 ≠ w.heap.size; omega) (.int .i64 me)).below h7
  have hb2 := b_step (b_set (g := w.heap.size) (j := 2) (v := .int .i64 me) hb1 (Nat.le_refl _)) h7
  replace A2 : Blk w7 w.heap.size #[.int .i64 l, .int .i64 r, .int .i64 me, .int .i64 n, .int .i64 p, .int .i64 d] 28 := A2
  clear A1 M1 D1 hb1 h7 c0 f0 g0 k0 c1 f1 g1 k1 c2 f2 g2 k2 c3 f3 g3 k3 c4 f4 g4 k4 c5 f5 g5 k5 m0 m1 m2 m3 m5
  obtain ⟨c0, c1, c2, c3, c4, c5, f0, f1, f2, f3, f4, f5⟩ := A2.six
  have A3 := A2.store6 (a' := .int .i64 l) (b' := .int .i64 r) (c' := .int .i64 me) (d' := .int .i64 n) (e' := .int .i64 0) (f' := .int .i64 0)
  have M3 := M2.far6 (g' := w.heap.size) (a := .int .i64 l) (b := .int .i64 r) (c := .int .i64 me) (d := .int .i64 n) (e := .int .i64 0) (f := .int .i64 0) (by omega)
  have D3 := D2.far6 (g' := w.heap.size) (a := .int .i64 l) (b := .int .i64 r) (c := .int .i64 me) (d := .int .i64 n) (e := .int .i64 0) (f := .int .i64 0) (by omega)
  have hb3 := b_store6 (g := w.heap.size) (a := .int .i64 l) (b := .int .i64 r) (c := .int .i64 me) (d := .int .i64 n) (e := .int .i64 0) (f := .int .i64 0) hb2 (Nat.le_refl _)
  have m0 := M2.cell 0
  have lm := M2.lt
  have la2 := A2.lt
  clear A2 M2 D2 hb2
  go_upto_region 12 with fail
  clear c0 f0 c1 f1 c2 f2 c3 f3 c4 f4 c5 f5 m0
  generalize ((((((w7.setCell ⟨w.heap.size, 0, none⟩ (.int .i64 l)).setCell ⟨w.heap.size, 1, none⟩ (.int .i64 r)).setCell ⟨w.heap.size, 2, none⟩ (.int .i64 me)).setCell ⟨w.heap.size, 3, none⟩ (.int .i64 n)).setCell ⟨w.heap.size, 4, none⟩ (.int .i64 0)).setCell ⟨w.heap.size, 5, none⟩ (.int .i64 0)) = w8 at *
  have la3 := A3.lt
  have ld3 := D3.lt
  obtain ⟨c0, c1, c2, c3, c4, c5, f0, f1, f2, f3, f4, f5⟩ := A3.six
  obtain ⟨g0, g1, g2, g3, g4, g5, k0, k1, k2, k3, k4, k5⟩ := D3.six
  have m0 := M3.cell 0
  have m1 := M3.cell 1
  have m2 := M3.cell 2
  have m3 := M3.cell 3
  have m5 := M3.cell 5
  go_upto_region 28 with fail
  clear A3 M3
  have T2 := Lib.hid (D3.store6 (a' := .int .i64 l) (b' := .int .i64 r) (c' := .int .i64 me) (d' := .int .i64 n) (e' := .int .i64 0) (f' := .int .i64 0))
  have B2 := Lib.hid (b_store6 (g := w.heap.size + 1 + 1) (a := .int .i64 l) (b := .int .i64 r) (c := .int .i64 me) (d := .int .i64 n) (e := .int .i64 0) (f := .int .i64 0) hb3 (by omega))
  clear D3 hb3
  go_wp2_with fail
  exact bodyPost_ret (results_ct rfl _ _ (w.heap.size + 1 + 1) 28 (c6 ⟨l, r, me, n, 0, 0⟩) _ rfl T2.out Try.underlying28 rfl (by kernel_rfl)) rfl ⟨.slice none 0 0, rfl, row_nil _ _, B2.out⟩
set_option maxHeartbeats 2000000 in
theorem rrecv_up7b {l r e n p d c mf mt mn me mx now : Int} {va ba : Option Addr} {vl vc bl bc : Nat} (hz : chk ⟨l, r, e, n, p, d⟩ = c) (hc : (c != 0) = false) (h1 : (mf != r) = false) (h2 : (mt != l) = false) (h3 : 0 ≤ me) (h4 : me ≤ 1073741824) (h5 : 0 ≤ mn) (h6 : mn ≤ 1073741824) (he : e < me) (hq : n ≤ mn) (w : World) : Calls Try.prog 18 #[S6 ⟨l, r, e, n, p, d⟩, .int .i64 now, MV ⟨7, mf, mt, mn, me⟩ mx (.slice va vl vc) (.slice ba bl bc)] w (Gave ⟨l, r, me, mn, 0, 0⟩ [] w) := by
  have HC := Lib.hid (fun w => rchk_c hz w)
  clear hz
  go_enter Try.func18, Try.ntmps18
  go_wp2_with fail
  refine (HC.out _).mono ?_
  rintro e0 w1 ⟨rfl, h1⟩
  have A1 := (((Blk.new w (c6 ⟨l, r, e, n, p, d⟩) 28).alloc (.cells (c8 ⟨7, mf, mt, mn, me⟩ mx (.slice va vl vc) (.slice ba bl bc)) 51)).alloc (.cells (c6 zS) 28)).below h1
  have M1 := ((Blk.new (w.alloc (.cells (c6 ⟨l, r, e, n, p, d⟩) 28)) (c8 ⟨7, mf, mt, mn, me⟩ mx (.slice va vl vc) (.slice ba bl bc)) 51).alloc (.cells (c6 zS) 28)).below h1
  have D1 := (Blk.new ((w.alloc (.cells (c6 ⟨l, r, e, n, p, d⟩) 28)).alloc (.cells (c8 ⟨7, mf, mt, mn, me⟩ mx (.slice va vl vc) (.slice ba bl bc)) 51)) (c6 zS) 28).below h1
  rw [World.size_alloc] at M1
  rw [World.size_alloc, World.size_alloc] at D1
  have hb1 := b_step (b_alloc (b_alloc (b_alloc (Below.refl w.heap.size w) (.cells (c6 ⟨l, r, e, n, p, d⟩) 28)) (.cells (c8 ⟨7, mf, mt, mn, me⟩ mx (.slice va vl vc) (.slice ba bl bc)) 51)) (.cells (c6 zS) 28)) h1
  have la := A1.lt
  have ld := D1.lt
  clear h1 HC
  obtain ⟨c0, c1, c2, c3, c4, c5, f0, f1, f2, f3, f4, f5⟩ := A1.six
  obtain ⟨g0, g1, g2, g3, g4, g5, k0, k1, k2, k3, k4, k5⟩ := D1.six
  have m0 := M1.cell 0
  have m1 := M1.cell 1
  have m2 := M1.cell 2
  have m3 := M1.cell 3
  have m5 := M1.cell 5
  go_wp2_with fail
  refine (phase_any ⟨l, r, me, n, p, d⟩ 0 _).mono ?_
  rintro e7 w7 ⟨rfl, h7⟩
  have A2 := (A1.set 2 (.int .i64 me)).below h7
  have M2 := (M1.far (p := ⟨w.heap.size, 2, none⟩) (by simp) (.int .i64 me)).below h7
  have D2 := (D1.far (p := ⟨w.heap.size, 2, none⟩) (by show w.heap.size + 1 + 1 ≠ w.heap.size; omega) (.int .i64 me)).below h7
  have hb2 := b_step (b_set (g := w.heap.size) (j := 2) (v := .int .i64 me) hb1 (Nat.le_refl _)) h7
  replace A2 : Blk w7 w.heap.size #[.int .i64 l, .int .i64 r, .int .i64 me, .int .i64 n, .int .i64 p, .int .i64 d] 28 := A2
  clear A1 M1 D1 hb1 h7 c0 f0 g0 k0 c1 f1 g1 k1 c2 f2 g2 k2 c3 f3 g3 k3 c4 f4 g4 k4 c5 f5 g5 k5 m0 m1 m2 m3 m5
  obtain ⟨c0, c1, c2, c3, c4, c5, f0, f1, f2, f3, f4, f5⟩ := A2.six
  have A3 := A2.store6 (a' := .int .i64 l) (b' := .int .i64 r) (c' := .int .i64 me) (d' := .int .i64 n) (e' := .int .i64 0) (f' := .int .i64 0)
  have M3 := M2.far6 (g' := w.heap.size) (a := .int .i64 l) (b := .int .i64 r) (c := .int .i64 me) (d := .int .i64 n) (e := .int .i64 0) (f := .int .i64 0) (by omega)
  have D3 := D2.far6 (g' := w.heap.size) (a := .int .i64 l) (b := .int .i64 r) (c := .int .i64 me) (d := .int .i64 n) (e := .int .i64 0) (f := .int .i64 0) (by omega)
  have hb3 := b_store6 (g := w.heap.size) (a := .int .i64 l) (b := .int .i64 r) (c := .int .i64 me) (d := .int .i64 n) (e := .int .i64 0) (f := .int .i64 0) hb2 (Nat.le_refl _)
  have m0 := M2.cell 0
  have lm := M2.lt
  have la2 := A2.lt
  clear A2 M2 D2 hb2
  go_upto_region 12 with fail
  clear c0 f0 c1 f1 c2 f2 c3 f3 c4 f4 c5 f5 m0
  generalize ((((((w7.setCell ⟨w.heap.size, 0, none⟩ (.int .i64 l)).setCell ⟨w.heap.size, 1, none⟩ (.int .i64 r)).setCell ⟨w.heap.size, 2, none⟩ (.int .i64 me)).setCell ⟨w.heap.size, 3, none⟩ (.int .i64 n)).setCell ⟨w.heap.size, 4, none⟩ (.int .i64 0)).setCell ⟨w.heap.size, 5, none⟩ (.int .i64 0)) = w8 at *
  have la3 := A3.lt
  have ld3 := D3.lt
  obtain ⟨c0, c1, c2, c3, c4, c5, f0, f1, f2, f3, f4, f5⟩ := A3.six
  obtain ⟨g0, g1, g2, g3, g4, g5, k0, k1, k2, k3, k4, k5⟩ := D3.six
  have m0 := M3.cell 0
  have m1 := M3.cell 1
  have m2 := M3.cell 2
  have m3 := M3.cell 3
  have m5 := M3.cell 5
  go_wp2_with fail
  refine (phase_any ⟨l, r, me, mn, 0, 0⟩ 0 _).mono ?_
  rintro e6 w9 ⟨rfl, h9⟩
  have D4 := (D3.far (p := ⟨w.heap.size, 3, none⟩) (by show w.heap.size + 1 + 1 ≠ w.heap.size; omega) (.int .i64 mn)).below h9
  have hb4 := b_step (b_set (g := w.heap.size) (j := 3) (v := .int .i64 mn) hb3 (Nat.le_refl _)) h9
  have ld4 := D4.lt
  clear A3 M3 D3 hb3 h9 c0 f0 g0 k0 c1 f1 g1 k1 c2 f2 g2 k2 c3 f3 g3 k3 c4 f4 g4 k4 c5 f5 g5 k5 m0 m1 m2 m3 m5
  obtain ⟨g0, g1, g2, g3, g4, g5, k0, k1, k2, k3, k4, k5⟩ := D4.six
  have T2 := Lib.hid (D4.store6 (a' := .int .i64 l) (b' := .int .i64 r) (c' := .int .i64 me) (d' := .int .i64 mn) (e' := .int .i64 0) (f' := .int .i64 0))
  have B2 := Lib.hid (b_store6 (g := w.heap.size + 1 + 1) (a := .int .i64 l) (b := .int .i64 r) (c := .int .i64 me) (d := .int .i64 mn) (e := .int .i64 0) (f := .int .i64 0) hb4 (by omega))
  clear D4 hb4
  go_wp2_with fail
  exact bodyPost_ret (results_ct rfl _ _ (w.heap.size + 1 + 1) 28 (c6 ⟨l, r, me, mn, 0, 0⟩) _ rfl T2.out Try.underlying28 rfl (by kernel_rfl)) rfl ⟨.slice none 0 0, rfl, row_nil _ _, B2.out⟩
theorem rrecv_any (s : Ses) (m : Msg) (x now : Int) (va ba : Option Addr) (vl vc bl bc : Nat) (w : World) :
    Calls Try.prog 18 #[S6 s, .int .i64 now, MV m x (.slice va vl vc) (.slice ba bl bc)] w (Gave (recvF s m).1 (recvF s m).2 w) := by
  obtain ⟨l, r, e, n, p, d⟩ := s
  obtain ⟨mk, mf, mt, mn, me⟩ := m
  have c0 : ((0 : Int) != 0) = false := rfl
  unfold recvF
  by_cases hF : fits ⟨l, r, e, n, p, d⟩ ⟨mk, mf, mt, mn, me⟩
  · rw [if_pos hF]
    obtain ⟨hz, hf, ht, ⟨h3, h4⟩, ⟨h5, h6⟩, hk⟩ := hF
    dsimp only at hf ht h3 h4 h5 h6 hk
    have b1 : (mf != r) = false := bne_eq_false_iff_eq.2 hf
    have b2 : (mt != l) = false := bne_eq_false_iff_eq.2 ht
    clear hf ht
    unfold takes
    dsimp only
    by_cases ho : me < e
    · rw [if_pos ho]
      rcases hk with rfl | rfl | rfl
      · rw [if_pos rfl]
        exact rrecv_old5 hz c0 b1 b2 h3 h4 h5 h6 ho w
      · rw [if_neg (by decide)]
        exact rrecv_old6 hz c0 b1 b2 h3 h4 h5 h6 ho w
      · rw [if_neg (by decide)]
        exact rrecv_old7 hz c0 b1 b2 h3 h4 h5 h6 ho w
    · rw [if_neg ho]
      by_cases he : e < me
      · rw [if_pos he]
        unfold handle
        dsimp only
        rcases hk with rfl | rfl | rfl
        · rw [if_pos rfl]
          by_cases q : n < mn
          · rw [if_pos (.inl q)]
            exact rrecv_up5c hz c0 b1 b2 h3 h4 h5 h6 he q w
          · rw [if_neg (by omega), if_pos rfl]
            by_cases q2 : mn = n
            · subst q2
              exact rrecv_up5e hz c0 b1 b2 h3 h4 h5 h6 he w
            · exact rrecv_up5b hz c0 b1 b2 h3 h4 h5 h6 he (by omega) w
        · rw [if_neg (by decide), if_pos rfl]
          by_cases q : mn ≠ n
          · rw [if_pos q]
            exact rrecv_up6a hz c0 b1 b2 h3 h4 h5 h6 he (bne_iff_ne.2 q) w
          · rw [if_neg q, if_pos rfl]
            exact rrecv_up6b hz c0 b1 b2 h3 h4 h5 h6 he (bne_eq_false_iff_eq.2 (Decidable.not_not.1 q)) w
        · rw [if_neg (by decide), if_neg (by decide)]
          by_cases q : mn < n
          · rw [if_pos q]
            exact rrecv_up7a hz c0 b1 b2 h3 h4 h5 h6 he q w
          · rw [if_neg q]
            exact rrecv_up7b hz c0 b1 b2 h3 h4 h5 h6 he (by omega) w
      · rw [if_neg he]
        have hme : me = e := by omega
        subst hme
        unfold handle
        dsimp only
        rcases hk with rfl | rfl | rfl
        · rw [if_pos rfl]
          by_cases q : n < mn
          · rw [if_pos (.inl q)]
            exact rrecv_eq5c hz c0 b1 b2 h3 h4 h5 h6 q w
          · by_cases q2 : mn = n
            · subst q2
              by_cases hp : p = 0
              · rw [if_neg (by omega), if_pos hp]
                exact rrecv_eq5e hz c0 b1 b2 h3 h4 h5 h6 (beq_iff_eq.2 hp) (bne_eq_false_iff_eq.2 hp) w
              · rw [if_pos (.inr ⟨rfl, hp⟩)]
                exact rrecv_eq5d hz c0 b1 b2 h3 h4 h5 h6 (beq_eq_false_iff_ne.2 hp) (bne_iff_ne.2 hp) w
            · rw [if_neg (by omega)]
              by_cases hp : p = 0
              · rw [if_pos hp]
                exact rrecv_eq5b hz c0 b1 b2 h3 h4 h5 h6 (by omega) (beq_iff_eq.2 hp) (bne_eq_false_iff_eq.2 hp) w
              · rw [if_neg hp]
                exact rrecv_eq5a hz c0 b1 b2 h3 h4 h5 h6 (by omega) (beq_eq_false_iff_ne.2 hp) (bne_iff_ne.2 hp) w
        · rw [if_neg (by decide), if_pos rfl]
          by_cases q : mn ≠ n
          · rw [if_pos q]
            exact rrecv_eq6a hz c0 b1 b2 h3 h4 h5 h6 (bne_iff_ne.2 q) w
          · rw [if_neg q]
            have q2 : mn = n := Decidable.not_not.1 q
            subst q2
            by_cases hp : p = 0
            · rw [if_pos hp]
              exact rrecv_eq6b hz c0 b1 b2 h3 h4 h5 h6 (bne_eq_false_iff_eq.2 rfl) (beq_iff_eq.2 hp) (bne_eq_false_iff_eq.2 hp) w
            · rw [if_neg hp]
              exact rrecv_eq6c hz c0 b1 b2 h3 h4 h5 h6 (bne_eq_false_iff_eq.2 rfl) (beq_eq_false_iff_ne.2 hp) (bne_iff_ne.2 hp) w
        · rw [if_neg (by decide), if_neg (by decide)]
          by_cases q : mn < n
          · rw [if_pos q]
            exact rrecv_eq7a hz c0 b1 b2 h3 h4 h5 h6 q w
          · rw [if_neg q]
            exact rrecv_eq7b hz c0 b1 b2 h3 h4 h5 h6 (by omega) w
  · rw [if_neg hF]
    by_cases hz : chk ⟨l, r, e, n, p, d⟩ = 0
    · by_cases hf : mf = r
      · have b1 : (mf != r) = false := bne_eq_false_iff_eq.2 hf
        by_cases ht : mt = l
        · have b2 : (mt != l) = false := bne_eq_false_iff_eq.2 ht
          by_cases h3 : me < 0
          · exact rrecv_e0 hz c0 b1 b2 h3 w
          · by_cases h4 : 1073741824 < me
            · exact rrecv_e1 hz c0 b1 b2 (by omega) h4 w
            · by_cases h5 : mn < 0
              · exact rrecv_n0 hz c0 b1 b2 (by omega) (by omega) h5 w
              · by_cases h6 : 1073741824 < mn
                · exact rrecv_n1 hz c0 b1 b2 (by omega) (by omega) (by omega) h6 w
                · have hk : ¬ (mk = 5 ∨ mk = 6 ∨ mk = 7) := fun hk => hF ⟨hz, hf, ht, ⟨by dsimp only; omega, by dsimp only; omega⟩, ⟨by dsimp only; omega, by dsimp only; omega⟩, hk⟩
                  exact rrecv_k hz c0 b1 b2 (by omega) (by omega) (by omega) (by omega) (bne_iff_ne.2 (fun q => hk (.inl q))) (bne_iff_ne.2 (fun q => hk (.inr (.inl q)))) (bne_iff_ne.2 (fun q => hk (.inr (.inr q)))) w
        · exact rrecv_t hz c0 b1 (bne_iff_ne.2 ht) w
      · exact rrecv_f hz c0 (bne_iff_ne.2 hf) w
    · exact rrecv_chk rfl (bne_iff_ne.2 hz) w
end Go.Proofs.Ytemljffppdjmgaa
