/- The reference's small functions: message, phase, late. -/
import Derived.Test.YtemljffppdjmgaaX
namespace Go.Proofs.Ytemljffppdjmgaa
open Go.RowKit Go.Proofs.YtemljffppdjmgaaW.PrintLast
set_option linter.unusedSimpArgs false
set_option linter.unusedVariables false
/-- message's row: one message in a block of its own. -/
theorem row_made (w : World) (base : Nat) (m : Msg) (hb : base ≤ w.heap.size) : Row (w.alloc (.cells #[.int .i64 m.k, .int .i64 m.f, .int .i64 m.t, .int .i64 m.n, .int .i64 0, .int .i64 m.e, .slice none 0 0, .slice none 0 0] 51)) base (.slice (some ⟨w.heap.size, 0, none⟩) 1 1) [m] := by
  refine ⟨?_, fun h => by cases h⟩
  have h := World.ownsRow_lit (base := base) (e := 51) (size := 8) w #[.int .i64 m.k, .int .i64 m.f, .int .i64 m.t, .int .i64 m.n, .int .i64 0, .int .i64 m.e, .slice none 0 0, .slice none 0 0] 1 hb (by decide) rfl
  simpa using h
set_option maxHeartbeats 1000000 in
theorem msg_any (s : Ses) (k : Int) (w : World) : Calls Try.prog 37 #[S6 s, .int .i64 k] w fun e w' => ∃ v, e = .returned v ∧ Row w' w.heap.size v [⟨k, s.l, s.r, s.n, s.e⟩] ∧ Below w.heap.size w w' := by
  obtain ⟨l, r, e, n, p, d⟩ := s
  go_enter Try.func37, Try.ntmps37
  go_wp2_with fail
  go_ret
  have h := row_made (w.alloc (.cells (c6 ⟨l, r, e, n, p, d⟩) 28)) w.heap.size ⟨k, l, r, n, e⟩ (by simp)
  rw [World.size_alloc] at h
  exact ⟨.slice (some ⟨w.heap.size + 1, 0, none⟩) 1 1, rfl, h, b_alloc (b_alloc (Below.refl _ _) _) _⟩
theorem phase_any (s : Ses) (p' : Int) (w : World) : Calls Try.prog 38 #[S6 s, .int .i64 p'] w fun e w' => e = .returned (S6 ⟨s.l, s.r, s.e, s.n, p', 0⟩) ∧ Below w.heap.size w w' := by
  obtain ⟨l, r, e, n, p, d⟩ := s
  go_enter Try.func38, Try.ntmps38
  go_wp2_with fail
  have h := Blk.new (w.alloc (.cells (c6 ⟨l, r, e, n, p', 0⟩) 28)) (c6 ⟨l, r, e, n, p', 0⟩) 28
  rw [World.size_alloc] at h
  exact bodyPost_ret (results_c rfl _ _ (w.heap.size + 1) 28 (c6 ⟨l, r, e, n, p', 0⟩) _ rfl h Try.underlying28 rfl (by kernel_rfl)) rfl ⟨rfl, b_alloc (b_alloc (Below.refl _ _) _) _⟩
theorem late_a0 {a b : Int} (h0 : a < 0) (w : World) : Calls Try.prog 41 #[.int .i64 a, .int .i64 b] w fun e w' => e = .returned (.bool true) ∧ w = w' := by
  go_enter Try.func41, Try.ntmps41
  go_wp2_with fail
  go_ret
  exact ⟨rfl, rfl⟩
theorem late_a1 {a b : Int} (h0 : 0 ≤ a) (h1 : 1073741824 < a) (w : World) : Calls Try.prog 41 #[.int .i64 a, .int .i64 b] w fun e w' => e = .returned (.bool true) ∧ w = w' := by
  go_enter Try.func41, Try.ntmps41
  go_wp2_with fail
  go_ret
  exact ⟨rfl, rfl⟩
theorem late_b0 {a b : Int} (h0 : 0 ≤ a) (h1 : a ≤ 1073741824) (h2 : b < 0) (w : World) : Calls Try.prog 41 #[.int .i64 a, .int .i64 b] w fun e w' => e = .returned (.bool true) ∧ w = w' := by
  go_enter Try.func41, Try.ntmps41
  go_wp2_with fail
  go_ret
  exact ⟨rfl, rfl⟩
theorem late_b1 {a b : Int} (h0 : 0 ≤ a) (h1 : a ≤ 1073741824) (h2 : 0 ≤ b) (h3 : 1073741824 < b) (w : World) : Calls Try.prog 41 #[.int .i64 a, .int .i64 b] w fun e w' => e = .returned (.bool true) ∧ w = w' := by
  go_enter Try.func41, Try.ntmps41
  go_wp2_with fail
  go_ret
  exact ⟨rfl, rfl⟩
theorem late_s1 {a b : Int} (h0 : 0 ≤ a) (h1 : a ≤ 1073741824) (h2 : 0 ≤ b) (h3 : b ≤ 1073741824) (h4 : 1073741824 < a + b) (w : World) : Calls Try.prog 41 #[.int .i64 a, .int .i64 b] w fun e w' => e = .returned (.bool true) ∧ w = w' := by
  go_enter Try.func41, Try.ntmps41
  go_wp2_with fail
  go_ret
  exact ⟨rfl, rfl⟩
theorem late_no {a b : Int} (h0 : 0 ≤ a) (h1 : a ≤ 1073741824) (h2 : 0 ≤ b) (h3 : b ≤ 1073741824) (h4 : a + b ≤ 1073741824) (w : World) : Calls Try.prog 41 #[.int .i64 a, .int .i64 b] w fun e w' => e = .returned (.bool false) ∧ w = w' := by
  go_enter Try.func41, Try.ntmps41
  go_wp2_with fail
  go_ret
  exact ⟨ret_bool (by simp; omega), rfl⟩
theorem late_yes {a b : Int} (h : ¬ InTime a b) (w : World) : Calls Try.prog 41 #[.int .i64 a, .int .i64 b] w fun e w' => e = .returned (.bool true) ∧ w = w' := by
  unfold InTime at h
  by_cases h0 : a < 0
  · exact late_a0 h0 w
  · by_cases h1 : 1073741824 < a
    · exact late_a1 (by omega) h1 w
    · by_cases h2 : b < 0
      · exact late_b0 (by omega) (by omega) h2 w
      · by_cases h3 : 1073741824 < b
        · exact late_b1 (by omega) (by omega) (by omega) h3 w
        · exact late_s1 (by omega) (by omega) (by omega) (by omega) (by omega) w
theorem late_not {a b : Int} (h : InTime a b) (w : World) : Calls Try.prog 41 #[.int .i64 a, .int .i64 b] w fun e w' => e = .returned (.bool false) ∧ w = w' := by
  unfold InTime at h
  exact late_no h.1 h.2.1 h.2.2.1 h.2.2.2.1 h.2.2.2.2 w
set_option maxHeartbeats 2000000 in
theorem rdial_chk {l r e n p d a b c : Int} (hz : chk ⟨l, r, e, n, p, d⟩ = c) (hc : (c != 0) = true) (w : World) : Calls Try.prog 25 #[S6 ⟨l, r, e, n, p, d⟩, .int .i64 a, .int .i64 b] w (Dialled zS [] c w) := by
  have HC := Lib.hid (fun w => rchk_c hz w)
  clear hz
  go_enter Try.func25, Try.ntmps25
  go_wp2_with fail
  refine (HC.out _).mono ?_
  rintro e0 w1 ⟨rfl, h1⟩
  have A1 := ((Blk.new w (c6 ⟨l, r, e, n, p, d⟩) 28).alloc (.cells (c6 zS) 28)).below h1
  have D1 := (Blk.new (w.alloc (.cells (c6 ⟨l, r, e, n, p, d⟩) 28)) (c6 zS) 28).below h1
  rw [World.size_alloc] at D1
  have hb1 := b_step (b_alloc (b_alloc (Below.refl w.heap.size w) (.cells (c6 ⟨l, r, e, n, p, d⟩) 28)) (.cells (c6 zS) 28)) h1
  have ld := D1.lt
  clear h1
  obtain ⟨c0, c1, c2, c3, c4, c5, f0, f1, f2, f3, f4, f5⟩ := A1.six
  obtain ⟨g0, g1, g2, g3, g4, g5, k0, k1, k2, k3, k4, k5⟩ := D1.six
  have T2 := Lib.hid (D1.store6 (a' := .int .i64 (0)) (b' := .int .i64 (0)) (c' := .int .i64 (0)) (d' := .int .i64 (0)) (e' := .int .i64 (0)) (f' := .int .i64 (0)))
  have B2 := Lib.hid (b_store6 (g := w.heap.size + 1) (a := .int .i64 (0)) (b := .int .i64 (0)) (c := .int .i64 (0)) (d := .int .i64 (0)) (e := .int .i64 (0)) (f := .int .i64 (0)) hb1 (by omega))
  clear A1 D1 hb1
  go_wp2_with fail
  exact bodyPost_ret (results_ctt rfl _ _ (w.heap.size + 1) 28 (c6 ⟨0, 0, 0, 0, 0, 0⟩) _ rfl T2.out Try.underlying28 rfl (by kernel_rfl)) rfl ⟨.slice none 0 0, rfl, row_nil _ _, B2.out⟩
set_option maxHeartbeats 2000000 in
theorem rdial_busy {l r e n p d a b c : Int} (hz : chk ⟨l, r, e, n, p, d⟩ = c) (hc : (c != 0) = false) (hp : (p != 0) = true) (w : World) : Calls Try.prog 25 #[S6 ⟨l, r, e, n, p, d⟩, .int .i64 a, .int .i64 b] w (Dialled zS [] 26 w) := by
  have HC := Lib.hid (fun w => rchk_c hz w)
  clear hz
  go_enter Try.func25, Try.ntmps25
  go_wp2_with fail
  refine (HC.out _).mono ?_
  rintro e0 w1 ⟨rfl, h1⟩
  have A1 := ((Blk.new w (c6 ⟨l, r, e, n, p, d⟩) 28).alloc (.cells (c6 zS) 28)).below h1
  have D1 := (Blk.new (w.alloc (.cells (c6 ⟨l, r, e, n, p, d⟩) 28)) (c6 zS) 28).below h1
  rw [World.size_alloc] at D1
  have hb1 := b_step (b_alloc (b_alloc (Below.refl w.heap.size w) (.cells (c6 ⟨l, r, e, n, p, d⟩) 28)) (.cells (c6 zS) 28)) h1
  have ld := D1.lt
  clear h1
  obtain ⟨c0, c1, c2, c3, c4, c5, f0, f1, f2, f3, f4, f5⟩ := A1.six
  obtain ⟨g0, g1, g2, g3, g4, g5, k0, k1, k2, k3, k4, k5⟩ := D1.six
  have T2 := Lib.hid (D1.store6 (a' := .int .i64 (0)) (b' := .int .i64 (0)) (c' := .int .i64 (0)) (d' := .int .i64 (0)) (e' := .int .i64 (0)) (f' := .int .i64 (0)))
  have B2 := Lib.hid (b_store6 (g := w.heap.size + 1) (a := .int .i64 (0)) (b := .int .i64 (0)) (c := .int .i64 (0)) (d := .int .i64 (0)) (e := .int .i64 (0)) (f := .int .i64 (0)) hb1 (by omega))
  clear A1 D1 hb1
  go_wp2_with fail
  exact bodyPost_ret (results_ctt rfl _ _ (w.heap.size + 1) 28 (c6 ⟨0, 0, 0, 0, 0, 0⟩) _ rfl T2.out Try.underlying28 rfl (by kernel_rfl)) rfl ⟨.slice none 0 0, rfl, row_nil _ _, B2.out⟩
set_option maxHeartbeats 2000000 in
theorem rdial_late {l r e n p d a b c : Int} (hz : chk ⟨l, r, e, n, p, d⟩ = c) (hc : (c != 0) = false) (hp : (p != 0) = false) (ht : ¬ InTime a b) (w : World) : Calls Try.prog 25 #[S6 ⟨l, r, e, n, p, d⟩, .int .i64 a, .int .i64 b] w (Dialled zS [] 24 w) := by
  have HC := Lib.hid (fun w => rchk_c hz w)
  clear hz
  have HL := Lib.hid (late_yes ht)
  clear ht
  go_enter Try.func25, Try.ntmps25
  go_wp2_with fail
  refine (HC.out _).mono ?_
  rintro e0 w1 ⟨rfl, h1⟩
  have A1 := ((Blk.new w (c6 ⟨l, r, e, n, p, d⟩) 28).alloc (.cells (c6 zS) 28)).below h1
  have D1 := (Blk.new (w.alloc (.cells (c6 ⟨l, r, e, n, p, d⟩) 28)) (c6 zS) 28).below h1
  rw [World.size_alloc] at D1
  have hb1 := b_step (b_alloc (b_alloc (Below.refl w.heap.size w) (.cells (c6 ⟨l, r, e, n, p, d⟩) 28)) (.cells (c6 zS) 28)) h1
  have ld := D1.lt
  clear h1
  obtain ⟨c0, c1, c2, c3, c4, c5, f0, f1, f2, f3, f4, f5⟩ := A1.six
  obtain ⟨g0, g1, g2, g3, g4, g5, k0, k1, k2, k3, k4, k5⟩ := D1.six
  go_wp2_with fail
  refine (HL.out _).mono ?_
  rintro e8 w8 ⟨rfl, rfl⟩
  have T2 := Lib.hid (D1.store6 (a' := .int .i64 (0)) (b' := .int .i64 (0)) (c' := .int .i64 (0)) (d' := .int .i64 (0)) (e' := .int .i64 (0)) (f' := .int .i64 (0)))
  have B2 := Lib.hid (b_store6 (g := w.heap.size + 1) (a := .int .i64 (0)) (b := .int .i64 (0)) (c := .int .i64 (0)) (d := .int .i64 (0)) (e := .int .i64 (0)) (f := .int .i64 (0)) hb1 (by omega))
  clear A1 D1 hb1
  go_wp2_with fail
  exact bodyPost_ret (results_ctt rfl _ _ (w.heap.size + 1) 28 (c6 ⟨0, 0, 0, 0, 0, 0⟩) _ rfl T2.out Try.underlying28 rfl (by kernel_rfl)) rfl ⟨.slice none 0 0, rfl, row_nil _ _, B2.out⟩
set_option maxHeartbeats 2000000 in
theorem rdial_full {l r e n p d a b c : Int} (hz : chk ⟨l, r, e, n, p, d⟩ = c) (hc : (c != 0) = false) (hp : (p != 0) = false) (ht : InTime a b) (hn : (n == 1073741824) = true) (w : World) : Calls Try.prog 25 #[S6 ⟨l, r, e, n, p, d⟩, .int .i64 a, .int .i64 b] w (Dialled zS [] 11 w) := by
  have HC := Lib.hid (fun w => rchk_c hz w)
  clear hz
  have HL := Lib.hid (late_not ht)
  clear ht
  go_enter Try.func25, Try.ntmps25
  go_wp2_with fail
  refine (HC.out _).mono ?_
  rintro e0 w1 ⟨rfl, h1⟩
  have A1 := ((Blk.new w (c6 ⟨l, r, e, n, p, d⟩) 28).alloc (.cells (c6 zS) 28)).below h1
  have D1 := (Blk.new (w.alloc (.cells (c6 ⟨l, r, e, n, p, d⟩) 28)) (c6 zS) 28).below h1
  rw [World.size_alloc] at D1
  have hb1 := b_step (b_alloc (b_alloc (Below.refl w.heap.size w) (.cells (c6 ⟨l, r, e, n, p, d⟩) 28)) (.cells (c6 zS) 28)) h1
  have ld := D1.lt
  clear h1
  obtain ⟨c0, c1, c2, c3, c4, c5, f0, f1, f2, f3, f4, f5⟩ := A1.six
  obtain ⟨g0, g1, g2, g3, g4, g5, k0, k1, k2, k3, k4, k5⟩ := D1.six
  go_wp2_with fail
  refine (HL.out _).mono ?_
  rintro e8 w8 ⟨rfl, rfl⟩
  have T2 := Lib.hid (D1.store6 (a' := .int .i64 (0)) (b' := .int .i64 (0)) (c' := .int .i64 (0)) (d' := .int .i64 (0)) (e' := .int .i64 (0)) (f' := .int .i64 (0)))
  have B2 := Lib.hid (b_store6 (g := w.heap.size + 1) (a := .int .i64 (0)) (b := .int .i64 (0)) (c := .int .i64 (0)) (d := .int .i64 (0)) (e := .int .i64 (0)) (f := .int .i64 (0)) hb1 (by omega))
  clear A1 D1 hb1
  go_wp2_with fail
  exact bodyPost_ret (results_ctt rfl _ _ (w.heap.size + 1) 28 (c6 ⟨0, 0, 0, 0, 0, 0⟩) _ rfl T2.out Try.underlying28 rfl (by kernel_rfl)) rfl ⟨.slice none 0 0, rfl, row_nil _ _, B2.out⟩
set_option maxHeartbeats 2000000 in
theorem rdial_ok {l r e n p d a b c : Int} (hz : chk ⟨l, r, e, n, p, d⟩ = c) (hc : (c != 0) = false) (hp : (p != 0) = false) (ht : InTime a b) (hn : (n == 1073741824) = false) (hn0 : 0 ≤ n) (hn1 : n ≤ 1073741824) (w : World) : Calls Try.prog 25 #[S6 ⟨l, r, e, n, p, d⟩, .int .i64 a, .int .i64 b] w (Dialled ⟨l, r, e, n + 1, 1, a + b⟩ [⟨5, l, r, n + 1, e⟩] 0 w) := by
  have HC := Lib.hid (fun w => rchk_c hz w)
  clear hz
  have HL := Lib.hid (late_not ht)
  obtain ⟨t0, t1, t2, t3, t4⟩ := ht
  go_enter Try.func25, Try.ntmps25
  go_wp2_with fail
  refine (HC.out _).mono ?_
  rintro e0 w1 ⟨rfl, h1⟩
  have A1 := ((Blk.new w (c6 ⟨l, r, e, n, p, d⟩) 28).alloc (.cells (c6 zS) 28)).below h1
  have D1 := (Blk.new (w.alloc (.cells (c6 ⟨l, r, e, n, p, d⟩) 28)) (c6 zS) 28).below h1
  rw [World.size_alloc] at D1
  have hb1 := b_step (b_alloc (b_alloc (Below.refl w.heap.size w) (.cells (c6 ⟨l, r, e, n, p, d⟩) 28)) (.cells (c6 zS) 28)) h1
  have ld := D1.lt
  clear h1
  obtain ⟨c0, c1, c2, c3, c4, c5, f0, f1, f2, f3, f4, f5⟩ := A1.six
  obtain ⟨g0, g1, g2, g3, g4, g5, k0, k1, k2, k3, k4, k5⟩ := D1.six
  go_wp2_with fail
  refine (HL.out _).mono ?_
  rintro e8 w8 ⟨rfl, rfl⟩
  have HS := (((A1.set 3 (.int .i64 (n + 1))).set 4 (.int .i64 1)).set 5 (.int .i64 (a + b)))
  have HT := (((D1.far (p := ⟨w.heap.size, 3, none⟩) (by simp) (.int .i64 (n + 1))).far (p := ⟨w.heap.size, 4, none⟩) (by simp) (.int .i64 1)).far (p := ⟨w.heap.size, 5, none⟩) (by simp) (.int .i64 (a + b)))
  have HB := b_set (g := w.heap.size) (j := 5) (v := .int .i64 (a + b)) (b_set (g := w.heap.size) (j := 4) (v := .int .i64 1) (b_set (g := w.heap.size) (j := 3) (v := .int .i64 (n + 1)) hb1 (Nat.le_refl _)) (Nat.le_refl _)) (Nat.le_refl _)
  clear A1 D1 hb1
  go_upto_region 11 with fail
  generalize (((w1.setCell ⟨w.heap.size, 3, none⟩ (.int .i64 (n + 1))).setCell ⟨w.heap.size, 4, none⟩ (.int .i64 1)).setCell ⟨w.heap.size, 5, none⟩ (.int .i64 (a + b))) = wq at *
  have HS : Hid (Blk wq w.heap.size (c6 ⟨l, r, e, n + 1, 1, a + b⟩) 28) := HS
  have HT := Lib.hid HT
  have HB := Lib.hid HB
  refine start_ (n := 6) (S := fun w' => w'.cell? ⟨w.heap.size, 0, none⟩ = some (.int .i64 (l)) ∧ w'.cell? ⟨w.heap.size, 1, none⟩ = some (.int .i64 (r)) ∧ w'.cell? ⟨w.heap.size, 2, none⟩ = some (.int .i64 (e)) ∧ w'.cell? ⟨w.heap.size, 3, none⟩ = some (.int .i64 (n + 1)) ∧ w'.cell? ⟨w.heap.size, 4, none⟩ = some (.int .i64 (1)) ∧ w'.cell? ⟨w.heap.size, 5, none⟩ = some (.int .i64 (a + b))) (ds := [3]) #[false, false, false, false, false, false] (by kernel_rfl) rfl rfl ⟨(HS.out.drew.cell 0), (HS.out.drew.cell 1), (HS.out.drew.cell 2), (HS.out.drew.cell 3), (HS.out.drew.cell 4), (HS.out.drew.cell 5)⟩ (fun hHeld => ?_)
  refine take_ (i := 0) (N := some 37) (v := ?_) (a' := ?_) #[true, false, false, false, false, false] rfl rfl (by kernel_rfl) (fun _ _ _ h => h) (Or.inl ⟨by rfl, ?_⟩) hHeld ?_ ?_
  rotate_left
  · rintro w' ⟨s0, s1, s2, s3, s4, s5⟩
    go_simp
    with_reducible rfl
  rotate_left
  · simp only [Act.put, List.setIfInBounds_toArray, List.set_cons_zero, List.set_cons_succ, i64_w, i32_w]
    rfl
  refine take_ (i := 1) (N := some 38) (v := ?_) (a' := ?_) #[true, true, false, false, false, false] rfl rfl (by kernel_rfl) (fun _ _ _ h => h) (Or.inl ⟨by rfl, ?_⟩) hHeld ?_ ?_
  rotate_left
  · rintro w' ⟨s0, s1, s2, s3, s4, s5⟩
    go_simp
    with_reducible rfl
  rotate_left
  · simp only [Act.put, List.setIfInBounds_toArray, List.set_cons_zero, List.set_cons_succ, i64_w, i32_w]
    rfl
  refine one_ (i := 2) (N := some 39) #[true, true, true, false, false, false] rfl rfl (by kernel_rfl) (by decide) (fun K hK => ?_)
  refine goes_ Try.func37 (by kernel_rfl) rfl #[S6 ⟨l, r, e, n + 1, 1, a + b⟩, .int .i64 5] (by rfl) rfl rfl (by simp only [List.map_toArray, List.map_cons, List.map_nil]; rfl) ?_
  with_reducible refine (msg_any ⟨l, r, e, n + 1, 1, a + b⟩ 5 _).mono ?_
  rintro e9 wz ⟨v9, he, hr, hb⟩
  subst he
  refine ⟨_, rfl, ?_⟩
  have hT2 := HT.out.drew.below hb
  have hlt := hT2.lt
  have hsz : w.heap.size + 2 ≤ wq.heap.size := HT.out.lt
  have R1 := Lib.hid ((hr.lower (base' := w.heap.size + 2) hsz))
  have R2 := Lib.hid ((R1.out.far6 (g := w.heap.size + 1) (a := .int .i64 (l)) (b := .int .i64 (r)) (c := .int .i64 (e)) (d := .int .i64 (n + 1)) (e := .int .i64 (1)) (f := .int .i64 (a + b)) (by omega)).lower (base' := w.heap.size) (by omega))
  have T2 := Lib.hid (hT2.store6 (a' := .int .i64 (l)) (b' := .int .i64 (r)) (c' := .int .i64 (e)) (d' := .int .i64 (n + 1)) (e' := .int .i64 (1)) (f' := .int .i64 (a + b)))
  have B2 := Lib.hid (b_store6 (g := w.heap.size + 1) (a := .int .i64 (l)) (b := .int .i64 (r)) (c := .int .i64 (e)) (d := .int .i64 (n + 1)) (e := .int .i64 (1)) (f := .int .i64 (a + b)) (b_step (b_drew HB.out) hb) (by omega))
  obtain ⟨y0, y1, y2, y3, y4, y5, z0, z1, z2, z3, z4, z5⟩ := hT2.six
  clear hT2
  refine hK.out _ _ ⟨(cell_below hHeld.1 hb), (cell_below hHeld.2.1 hb), (cell_below hHeld.2.2.1 hb), (cell_below hHeld.2.2.2.1 hb), (cell_below hHeld.2.2.2.2.1 hb), (cell_below hHeld.2.2.2.2.2 hb)⟩ (fun hHeld => ?_)
  clear hK K
  refine norm_ (a' := ?_) ?_ ?_
  rotate_left
  · show Act.put _ (some 39) _ = _
    simp only [Act.put, List.setIfInBounds_toArray, List.set_cons_zero, List.set_cons_succ, i64_w, i32_w]
    rfl
  refine last_ (i := 3) (N := none) #[true, true, true, true, false, false] rfl rfl (by kernel_rfl) (by decide) (fun K hK => ?_)
  refine skip_ (w1 := ?_) (by rfl) rfl ?_ ?_
  rotate_left
  · go_simp
    rfl
  refine hK.out _ _ ?_
  clear hK K
  refine pure_ (i := 4) (N := some 7) (v := ?_) (a' := ?_) #[true, true, true, true, true, false] rfl rfl (by kernel_rfl) (fun _ _ _ h => h) (Or.inl ⟨by rfl, ?_⟩) ?_ ?_
  rotate_left
  · intro w'
    go_simp
    with_reducible rfl
  rotate_left
  · simp only [Act.put, List.setIfInBounds_toArray, List.set_cons_zero, List.set_cons_succ, i64_w, i32_w]
    rfl
  refine pure_ (i := 5) (N := some 8) (v := ?_) (a' := ?_) #[true, true, true, true, true, true] rfl rfl (by kernel_rfl) (fun _ _ _ h => h) (Or.inl ⟨by rfl, ?_⟩) ?_ ?_
  rotate_left
  · intro w'
    go_simp
    with_reducible rfl
  rotate_left
  · simp only [Act.put, List.setIfInBounds_toArray, List.set_cons_zero, List.set_cons_succ, i64_w, i32_w]
    rfl
  refine done_ (by kernel_rfl) ?_
  go_wp2_with fail
  exact bodyPost_ret (results_ctt rfl _ _ (w.heap.size + 1) 28 (c6 ⟨l, r, e, n + 1, 1, a + b⟩) _ rfl T2.out Try.underlying28 rfl (by kernel_rfl)) rfl ⟨v9, rfl, R2.out, B2.out⟩
set_option maxHeartbeats 2000000 in
theorem rexp_chk {l r e n p d a b c : Int} (hz : chk ⟨l, r, e, n, p, d⟩ = c) (hc : (c != 0) = true) (w : World) : Calls Try.prog 27 #[S6 ⟨l, r, e, n, p, d⟩, .int .i64 a, .int .i64 b] w (Gave ⟨l, r, e, n, p, d⟩ [] w) := by
  have HC := Lib.hid (fun w => rchk_c hz w)
  clear hz
  go_enter Try.func27, Try.ntmps27
  go_wp2_with fail
  refine (HC.out _).mono ?_
  rintro e0 w1 ⟨rfl, h1⟩
  have A1 := ((Blk.new w (c6 ⟨l, r, e, n, p, d⟩) 28).alloc (.cells (c6 zS) 28)).below h1
  have D1 := (Blk.new (w.alloc (.cells (c6 ⟨l, r, e, n, p, d⟩) 28)) (c6 zS) 28).below h1
  rw [World.size_alloc] at D1
  have hb1 := b_step (b_alloc (b_alloc (Below.refl w.heap.size w) (.cells (c6 ⟨l, r, e, n, p, d⟩) 28)) (.cells (c6 zS) 28)) h1
  have ld := D1.lt
  clear h1
  obtain ⟨c0, c1, c2, c3, c4, c5, f0, f1, f2, f3, f4, f5⟩ := A1.six
  obtain ⟨g0, g1, g2, g3, g4, g5, k0, k1, k2, k3, k4, k5⟩ := D1.six
  have T2 := Lib.hid (D1.store6 (a' := .int .i64 (l)) (b' := .int .i64 (r)) (c' := .int .i64 (e)) (d' := .int .i64 (n)) (e' := .int .i64 (p)) (f' := .int .i64 (d)))
  have B2 := Lib.hid (b_store6 (g := w.heap.size + 1) (a := .int .i64 (l)) (b := .int .i64 (r)) (c := .int .i64 (e)) (d := .int .i64 (n)) (e := .int .i64 (p)) (f := .int .i64 (d)) hb1 (by omega))
  clear A1 D1 hb1
  go_wp2_with fail
  exact bodyPost_ret (results_ct rfl _ _ (w.heap.size + 1) 28 (c6 ⟨l, r, e, n, p, d⟩) _ rfl T2.out Try.underlying28 rfl (by kernel_rfl)) rfl ⟨.slice none 0 0, rfl, row_nil _ _, B2.out⟩
set_option maxHeartbeats 2000000 in
theorem rexp_p {l r e n p d a b c : Int} (hz : chk ⟨l, r, e, n, p, d⟩ = c) (hc : (c != 0) = false) (hp : (p != 1) = true) (w : World) : Calls Try.prog 27 #[S6 ⟨l, r, e, n, p, d⟩, .int .i64 a, .int .i64 b] w (Gave ⟨l, r, e, n, p, d⟩ [] w) := by
  have HC := Lib.hid (fun w => rchk_c hz w)
  clear hz
  go_enter Try.func27, Try.ntmps27
  go_wp2_with fail
  refine (HC.out _).mono ?_
  rintro e0 w1 ⟨rfl, h1⟩
  have A1 := ((Blk.new w (c6 ⟨l, r, e, n, p, d⟩) 28).alloc (.cells (c6 zS) 28)).below h1
  have D1 := (Blk.new (w.alloc (.cells (c6 ⟨l, r, e, n, p, d⟩) 28)) (c6 zS) 28).below h1
  rw [World.size_alloc] at D1
  have hb1 := b_step (b_alloc (b_alloc (Below.refl w.heap.size w) (.cells (c6 ⟨l, r, e, n, p, d⟩) 28)) (.cells (c6 zS) 28)) h1
  have ld := D1.lt
  clear h1
  obtain ⟨c0, c1, c2, c3, c4, c5, f0, f1, f2, f3, f4, f5⟩ := A1.six
  obtain ⟨g0, g1, g2, g3, g4, g5, k0, k1, k2, k3, k4, k5⟩ := D1.six
  have T2 := Lib.hid (D1.store6 (a' := .int .i64 (l)) (b' := .int .i64 (r)) (c' := .int .i64 (e)) (d' := .int .i64 (n)) (e' := .int .i64 (p)) (f' := .int .i64 (d)))
  have B2 := Lib.hid (b_store6 (g := w.heap.size + 1) (a := .int .i64 (l)) (b := .int .i64 (r)) (c := .int .i64 (e)) (d := .int .i64 (n)) (e := .int .i64 (p)) (f := .int .i64 (d)) hb1 (by omega))
  clear A1 D1 hb1
  go_wp2_with fail
  exact bodyPost_ret (results_ct rfl _ _ (w.heap.size + 1) 28 (c6 ⟨l, r, e, n, p, d⟩) _ rfl T2.out Try.underlying28 rfl (by kernel_rfl)) rfl ⟨.slice none 0 0, rfl, row_nil _ _, B2.out⟩
set_option maxHeartbeats 2000000 in
theorem rexp_d {l r e n p d a b c : Int} (hz : chk ⟨l, r, e, n, p, d⟩ = c) (hc : (c != 0) = false) (hp : (p != 1) = false) (hd : a < d) (w : World) : Calls Try.prog 27 #[S6 ⟨l, r, e, n, p, d⟩, .int .i64 a, .int .i64 b] w (Gave ⟨l, r, e, n, p, d⟩ [] w) := by
  have HC := Lib.hid (fun w => rchk_c hz w)
  clear hz
  go_enter Try.func27, Try.ntmps27
  go_wp2_with fail
  refine (HC.out _).mono ?_
  rintro e0 w1 ⟨rfl, h1⟩
  have A1 := ((Blk.new w (c6 ⟨l, r, e, n, p, d⟩) 28).alloc (.cells (c6 zS) 28)).below h1
  have D1 := (Blk.new (w.alloc (.cells (c6 ⟨l, r, e, n, p, d⟩) 28)) (c6 zS) 28).below h1
  rw [World.size_alloc] at D1
  have hb1 := b_step (b_alloc (b_alloc (Below.refl w.heap.size w) (.cells (c6 ⟨l, r, e, n, p, d⟩) 28)) (.cells (c6 zS) 28)) h1
  have ld := D1.lt
  clear h1
  obtain ⟨c0, c1, c2, c3, c4, c5, f0, f1, f2, f3, f4, f5⟩ := A1.six
  obtain ⟨g0, g1, g2, g3, g4, g5, k0, k1, k2, k3, k4, k5⟩ := D1.six
  have T2 := Lib.hid (D1.store6 (a' := .int .i64 (l)) (b' := .int .i64 (r)) (c' := .int .i64 (e)) (d' := .int .i64 (n)) (e' := .int .i64 (p)) (f' := .int .i64 (d)))
  have B2 := Lib.hid (b_store6 (g := w.heap.size + 1) (a := .int .i64 (l)) (b := .int .i64 (r)) (c := .int .i64 (e)) (d := .int .i64 (n)) (e := .int .i64 (p)) (f := .int .i64 (d)) hb1 (by omega))
  clear A1 D1 hb1
  go_wp2_with fail
  exact bodyPost_ret (results_ct rfl _ _ (w.heap.size + 1) 28 (c6 ⟨l, r, e, n, p, d⟩) _ rfl T2.out Try.underlying28 rfl (by kernel_rfl)) rfl ⟨.slice none 0 0, rfl, row_nil _ _, B2.out⟩
set_option maxHeartbeats 2000000 in
theorem rexp_late {l r e n p d a b c : Int} (hz : chk ⟨l, r, e, n, p, d⟩ = c) (hc : (c != 0) = false) (hp : (p != 1) = false) (hd : d ≤ a) (ht : ¬ InTime a b) (w : World) : Calls Try.prog 27 #[S6 ⟨l, r, e, n, p, d⟩, .int .i64 a, .int .i64 b] w (Gave ⟨l, r, e, n, 0, 0⟩ [] w) := by
  have HC := Lib.hid (fun w => rchk_c hz w)
  clear hz
  have HL := Lib.hid (late_yes ht)
  clear ht
  go_enter Try.func27, Try.ntmps27
  go_wp2_with fail
  refine (HC.out _).mono ?_
  rintro e0 w1 ⟨rfl, h1⟩
  have A1 := ((Blk.new w (c6 ⟨l, r, e, n, p, d⟩) 28).alloc (.cells (c6 zS) 28)).below h1
  have D1 := (Blk.new (w.alloc (.cells (c6 ⟨l, r, e, n, p, d⟩) 28)) (c6 zS) 28).below h1
  rw [World.size_alloc] at D1
  have hb1 := b_step (b_alloc (b_alloc (Below.refl w.heap.size w) (.cells (c6 ⟨l, r, e, n, p, d⟩) 28)) (.cells (c6 zS) 28)) h1
  have ld := D1.lt
  clear h1
  obtain ⟨c0, c1, c2, c3, c4, c5, f0, f1, f2, f3, f4, f5⟩ := A1.six
  obtain ⟨g0, g1, g2, g3, g4, g5, k0, k1, k2, k3, k4, k5⟩ := D1.six
  go_wp2_with fail
  refine (HL.out _).mono ?_
  rintro e8 w8 ⟨rfl, rfl⟩
  go_wp2_with fail
  refine (phase_any ⟨l, r, e, n, p, d⟩ 0 _).mono ?_
  rintro e7 w7 ⟨rfl, h7⟩
  have D1 := D1.below h7
  have hb1 := b_step hb1 h7
  have ld := D1.lt
  clear A1 h7 c0 f0 g0 k0 c1 f1 g1 k1 c2 f2 g2 k2 c3 f3 g3 k3 c4 f4 g4 k4 c5 f5 g5 k5
  obtain ⟨g0, g1, g2, g3, g4, g5, k0, k1, k2, k3, k4, k5⟩ := D1.six
  have T2 := Lib.hid (D1.store6 (a' := .int .i64 (l)) (b' := .int .i64 (r)) (c' := .int .i64 (e)) (d' := .int .i64 (n)) (e' := .int .i64 (0)) (f' := .int .i64 (0)))
  have B2 := Lib.hid (b_store6 (g := w.heap.size + 1) (a := .int .i64 (l)) (b := .int .i64 (r)) (c := .int .i64 (e)) (d := .int .i64 (n)) (e := .int .i64 (0)) (f := .int .i64 (0)) hb1 (by omega))
  clear D1 hb1
  go_wp2_with fail
  exact bodyPost_ret (results_ct rfl _ _ (w.heap.size + 1) 28 (c6 ⟨l, r, e, n, 0, 0⟩) _ rfl T2.out Try.underlying28 rfl (by kernel_rfl)) rfl ⟨.slice none 0 0, rfl, row_nil _ _, B2.out⟩
set_option maxHeartbeats 2000000 in
theorem rexp_ok {l r e n p d a b c : Int} (hz : chk ⟨l, r, e, n, p, d⟩ = c) (hc : (c != 0) = false) (hp : (p != 1) = false) (hd : d ≤ a) (ht : InTime a b) (w : World) : Calls Try.prog 27 #[S6 ⟨l, r, e, n, p, d⟩, .int .i64 a, .int .i64 b] w (Gave ⟨l, r, e, n, p, a + b⟩ [⟨5, l, r, n, e⟩] w) := by
  have HC := Lib.hid (fun w => rchk_c hz w)
  clear hz
  have HL := Lib.hid (late_not ht)
  obtain ⟨t0, t1, t2, t3, t4⟩ := ht
  go_enter Try.func27, Try.ntmps27
  go_wp2_with fail
  refine (HC.out _).mono ?_
  rintro e0 w1 ⟨rfl, h1⟩
  have A1 := ((Blk.new w (c6 ⟨l, r, e, n, p, d⟩) 28).alloc (.cells (c6 zS) 28)).below h1
  have D1 := (Blk.new (w.alloc (.cells (c6 ⟨l, r, e, n, p, d⟩) 28)) (c6 zS) 28).below h1
  rw [World.size_alloc] at D1
  have hb1 := b_step (b_alloc (b_alloc (Below.refl w.heap.size w) (.cells (c6 ⟨l, r, e, n, p, d⟩) 28)) (.cells (c6 zS) 28)) h1
  have ld := D1.lt
  clear h1
  obtain ⟨c0, c1, c2, c3, c4, c5, f0, f1, f2, f3, f4, f5⟩ := A1.six
  obtain ⟨g0, g1, g2, g3, g4, g5, k0, k1, k2, k3, k4, k5⟩ := D1.six
  go_wp2_with fail
  refine (HL.out _).mono ?_
  rintro e8 w8 ⟨rfl, rfl⟩
  have HS := (A1.set 5 (.int .i64 (a + b)))
  have HT := (D1.far (p := ⟨w.heap.size, 5, none⟩) (by simp) (.int .i64 (a + b)))
  have HB := b_set (g := w.heap.size) (j := 5) (v := .int .i64 (a + b)) hb1 (Nat.le_refl _)
  clear A1 D1 hb1
  go_upto_region 6 with fail
  generalize (w1.setCell ⟨w.heap.size, 5, none⟩ (.int .i64 (a + b))) = wq at *
  have HS : Hid (Blk wq w.heap.size (c6 ⟨l, r, e, n, p, a + b⟩) 28) := HS
  have HT := Lib.hid HT
  have HB := Lib.hid HB
  refine start_ (n := 5) (S := fun w' => w'.cell? ⟨w.heap.size, 0, none⟩ = some (.int .i64 (l)) ∧ w'.cell? ⟨w.heap.size, 1, none⟩ = some (.int .i64 (r)) ∧ w'.cell? ⟨w.heap.size, 2, none⟩ = some (.int .i64 (e)) ∧ w'.cell? ⟨w.heap.size, 3, none⟩ = some (.int .i64 (n)) ∧ w'.cell? ⟨w.heap.size, 4, none⟩ = some (.int .i64 (p)) ∧ w'.cell? ⟨w.heap.size, 5, none⟩ = some (.int .i64 (a + b))) (ds := [3]) #[false, false, false, false, false] (by kernel_rfl) rfl rfl ⟨(HS.out.drew.cell 0), (HS.out.drew.cell 1), (HS.out.drew.cell 2), (HS.out.drew.cell 3), (HS.out.drew.cell 4), (HS.out.drew.cell 5)⟩ (fun hHeld => ?_)
  refine take_ (i := 0) (N := some 32) (v := ?_) (a' := ?_) #[true, false, false, false, false] rfl rfl (by kernel_rfl) (fun _ _ _ h => h) (Or.inl ⟨by rfl, ?_⟩) hHeld ?_ ?_
  rotate_left
  · rintro w' ⟨s0, s1, s2, s3, s4, s5⟩
    go_simp
    with_reducible rfl
  rotate_left
  · simp only [Act.put, List.setIfInBounds_toArray, List.set_cons_zero, List.set_cons_succ, i64_w, i32_w]
    rfl
  refine take_ (i := 1) (N := some 33) (v := ?_) (a' := ?_) #[true, true, false, false, false] rfl rfl (by kernel_rfl) (fun _ _ _ h => h) (Or.inl ⟨by rfl, ?_⟩) hHeld ?_ ?_
  rotate_left
  · rintro w' ⟨s0, s1, s2, s3, s4, s5⟩
    go_simp
    with_reducible rfl
  rotate_left
  · simp only [Act.put, List.setIfInBounds_toArray, List.set_cons_zero, List.set_cons_succ, i64_w, i32_w]
    rfl
  refine one_ (i := 2) (N := some 34) #[true, true, true, false, false] rfl rfl (by kernel_rfl) (by decide) (fun K hK => ?_)
  refine goes_ Try.func37 (by kernel_rfl) rfl #[S6 ⟨l, r, e, n, p, a + b⟩, .int .i64 5] (by rfl) rfl rfl (by simp only [List.map_toArray, List.map_cons, List.map_nil]; rfl) ?_
  with_reducible refine (msg_any ⟨l, r, e, n, p, a + b⟩ 5 _).mono ?_
  rintro e9 wz ⟨v9, he, hr, hb⟩
  subst he
  refine ⟨_, rfl, ?_⟩
  have hT2 := HT.out.drew.below hb
  have hlt := hT2.lt
  have hsz : w.heap.size + 2 ≤ wq.heap.size := HT.out.lt
  have R1 := Lib.hid ((hr.lower (base' := w.heap.size + 2) hsz))
  have R2 := Lib.hid ((R1.out.far6 (g := w.heap.size + 1) (a := .int .i64 (l)) (b := .int .i64 (r)) (c := .int .i64 (e)) (d := .int .i64 (n)) (e := .int .i64 (p)) (f := .int .i64 (a + b)) (by omega)).lower (base' := w.heap.size) (by omega))
  have T2 := Lib.hid (hT2.store6 (a' := .int .i64 (l)) (b' := .int .i64 (r)) (c' := .int .i64 (e)) (d' := .int .i64 (n)) (e' := .int .i64 (p)) (f' := .int .i64 (a + b)))
  have B2 := Lib.hid (b_store6 (g := w.heap.size + 1) (a := .int .i64 (l)) (b := .int .i64 (r)) (c := .int .i64 (e)) (d := .int .i64 (n)) (e := .int .i64 (p)) (f := .int .i64 (a + b)) (b_step (b_drew HB.out) hb) (by omega))
  obtain ⟨y0, y1, y2, y3, y4, y5, z0, z1, z2, z3, z4, z5⟩ := hT2.six
  clear hT2
  refine hK.out _ _ ⟨(cell_below hHeld.1 hb), (cell_below hHeld.2.1 hb), (cell_below hHeld.2.2.1 hb), (cell_below hHeld.2.2.2.1 hb), (cell_below hHeld.2.2.2.2.1 hb), (cell_below hHeld.2.2.2.2.2 hb)⟩ (fun hHeld => ?_)
  clear hK K
  refine norm_ (a' := ?_) ?_ ?_
  rotate_left
  · show Act.put _ (some 34) _ = _
    simp only [Act.put, List.setIfInBounds_toArray, List.set_cons_zero, List.set_cons_succ, i64_w, i32_w]
    rfl
  refine last_ (i := 3) (N := none) #[true, true, true, true, false] rfl rfl (by kernel_rfl) (by decide) (fun K hK => ?_)
  refine skip_ (w1 := ?_) (by rfl) rfl ?_ ?_
  rotate_left
  · go_simp
    rfl
  refine hK.out _ _ ?_
  clear hK K
  refine pure_ (i := 4) (N := some 7) (v := ?_) (a' := ?_) #[true, true, true, true, true] rfl rfl (by kernel_rfl) (fun _ _ _ h => h) (Or.inl ⟨by rfl, ?_⟩) ?_ ?_
  rotate_left
  · intro w'
    go_simp
    with_reducible rfl
  rotate_left
  · simp only [Act.put, List.setIfInBounds_toArray, List.set_cons_zero, List.set_cons_succ, i64_w, i32_w]
    rfl
  refine done_ (by kernel_rfl) ?_
  go_wp2_with fail
  exact bodyPost_ret (results_ct rfl _ _ (w.heap.size + 1) 28 (c6 ⟨l, r, e, n, p, a + b⟩) _ rfl T2.out Try.underlying28 rfl (by kernel_rfl)) rfl ⟨v9, rfl, R2.out, B2.out⟩
set_option maxHeartbeats 2000000 in
theorem rclo_chk {l r e n p d c : Int} (hz : chk ⟨l, r, e, n, p, d⟩ = c) (hc : (c != 0) = true) (w : World) : Calls Try.prog 28 #[S6 ⟨l, r, e, n, p, d⟩] w (Gave ⟨l, r, e, n, p, d⟩ [] w) := by
  have HC := Lib.hid (fun w => rchk_c hz w)
  clear hz
  go_enter Try.func28, Try.ntmps28
  go_wp2_with fail
  refine (HC.out _).mono ?_
  rintro e0 w1 ⟨rfl, h1⟩
  have A1 := ((Blk.new w (c6 ⟨l, r, e, n, p, d⟩) 28).alloc (.cells (c6 zS) 28)).below h1
  have D1 := (Blk.new (w.alloc (.cells (c6 ⟨l, r, e, n, p, d⟩) 28)) (c6 zS) 28).below h1
  rw [World.size_alloc] at D1
  have hb1 := b_step (b_alloc (b_alloc (Below.refl w.heap.size w) (.cells (c6 ⟨l, r, e, n, p, d⟩) 28)) (.cells (c6 zS) 28)) h1
  have ld := D1.lt
  clear h1
  obtain ⟨c0, c1, c2, c3, c4, c5, f0, f1, f2, f3, f4, f5⟩ := A1.six
  obtain ⟨g0, g1, g2, g3, g4, g5, k0, k1, k2, k3, k4, k5⟩ := D1.six
  have T2 := Lib.hid (D1.store6 (a' := .int .i64 (l)) (b' := .int .i64 (r)) (c' := .int .i64 (e)) (d' := .int .i64 (n)) (e' := .int .i64 (p)) (f' := .int .i64 (d)))
  have B2 := Lib.hid (b_store6 (g := w.heap.size + 1) (a := .int .i64 (l)) (b := .int .i64 (r)) (c := .int .i64 (e)) (d := .int .i64 (n)) (e := .int .i64 (p)) (f := .int .i64 (d)) hb1 (by omega))
  clear A1 D1 hb1
  go_wp2_with fail
  exact bodyPost_ret (results_ct rfl _ _ (w.heap.size + 1) 28 (c6 ⟨l, r, e, n, p, d⟩) _ rfl T2.out Try.underlying28 rfl (by kernel_rfl)) rfl ⟨.slice none 0 0, rfl, row_nil _ _, B2.out⟩
set_option maxHeartbeats 2000000 in
theorem rclo_p {l r e n p d c : Int} (hz : chk ⟨l, r, e, n, p, d⟩ = c) (hc : (c != 0) = false) (hp : (p == 0) = true) (w : World) : Calls Try.prog 28 #[S6 ⟨l, r, e, n, p, d⟩] w (Gave ⟨l, r, e, n, p, d⟩ [] w) := by
  have HC := Lib.hid (fun w => rchk_c hz w)
  clear hz
  go_enter Try.func28, Try.ntmps28
  go_wp2_with fail
  refine (HC.out _).mono ?_
  rintro e0 w1 ⟨rfl, h1⟩
  have A1 := ((Blk.new w (c6 ⟨l, r, e, n, p, d⟩) 28).alloc (.cells (c6 zS) 28)).below h1
  have D1 := (Blk.new (w.alloc (.cells (c6 ⟨l, r, e, n, p, d⟩) 28)) (c6 zS) 28).below h1
  rw [World.size_alloc] at D1
  have hb1 := b_step (b_alloc (b_alloc (Below.refl w.heap.size w) (.cells (c6 ⟨l, r, e, n, p, d⟩) 28)) (.cells (c6 zS) 28)) h1
  have ld := D1.lt
  clear h1
  obtain ⟨c0, c1, c2, c3, c4, c5, f0, f1, f2, f3, f4, f5⟩ := A1.six
  obtain ⟨g0, g1, g2, g3, g4, g5, k0, k1, k2, k3, k4, k5⟩ := D1.six
  have T2 := Lib.hid (D1.store6 (a' := .int .i64 (l)) (b' := .int .i64 (r)) (c' := .int .i64 (e)) (d' := .int .i64 (n)) (e' := .int .i64 (p)) (f' := .int .i64 (d)))
  have B2 := Lib.hid (b_store6 (g := w.heap.size + 1) (a := .int .i64 (l)) (b := .int .i64 (r)) (c := .int .i64 (e)) (d := .int .i64 (n)) (e := .int .i64 (p)) (f := .int .i64 (d)) hb1 (by omega))
  clear A1 D1 hb1
  go_wp2_with fail
  exact bodyPost_ret (results_ct rfl _ _ (w.heap.size + 1) 28 (c6 ⟨l, r, e, n, p, d⟩) _ rfl T2.out Try.underlying28 rfl (by kernel_rfl)) rfl ⟨.slice none 0 0, rfl, row_nil _ _, B2.out⟩
set_option maxHeartbeats 2000000 in
theorem rclo_ok {l r e n p d c : Int} (hz : chk ⟨l, r, e, n, p, d⟩ = c) (hc : (c != 0) = false) (hp : (p == 0) = false) (w : World) : Calls Try.prog 28 #[S6 ⟨l, r, e, n, p, d⟩] w (Gave ⟨l, r, e, n, 0, 0⟩ [⟨7, l, r, n, e⟩] w) := by
  have HC := Lib.hid (fun w => rchk_c hz w)
  clear hz
  go_enter Try.func28, Try.ntmps28
  go_wp2_with fail
  refine (HC.out _).mono ?_
  rintro e0 w1 ⟨rfl, h1⟩
  have A1 := ((Blk.new w (c6 ⟨l, r, e, n, p, d⟩) 28).alloc (.cells (c6 zS) 28)).below h1
  have D1 := (Blk.new (w.alloc (.cells (c6 ⟨l, r, e, n, p, d⟩) 28)) (c6 zS) 28).below h1
  rw [World.size_alloc] at D1
  have hb1 := b_step (b_alloc (b_alloc (Below.refl w.heap.size w) (.cells (c6 ⟨l, r, e, n, p, d⟩) 28)) (.cells (c6 zS) 28)) h1
  have ld := D1.lt
  clear h1
  obtain ⟨c0, c1, c2, c3, c4, c5, f0, f1, f2, f3, f4, f5⟩ := A1.six
  obtain ⟨g0, g1, g2, g3, g4, g5, k0, k1, k2, k3, k4, k5⟩ := D1.six
  go_wp2_with fail
  refine (phase_any ⟨l, r, e, n, p, d⟩ 0 _).mono ?_
  rintro e7 w7 ⟨rfl, h7⟩
  have A2 := A1.below h7
  have D2 := D1.below h7
  have hb2 := b_step hb1 h7
  have ld2 := D2.lt
  have la2 := A2.lt
  clear A1 D1 hb1 h7 c0 f0 g0 k0 c1 f1 g1 k1 c2 f2 g2 k2 c3 f3 g3 k3 c4 f4 g4 k4 c5 f5 g5 k5
  obtain ⟨c0, c1, c2, c3, c4, c5, f0, f1, f2, f3, f4, f5⟩ := A2.six
  have HS := A2.store6 (a' := .int .i64 l) (b' := .int .i64 r) (c' := .int .i64 e) (d' := .int .i64 n) (e' := .int .i64 0) (f' := .int .i64 0)
  have HT := D2.far6 (g' := w.heap.size) (a := .int .i64 l) (b := .int .i64 r) (c := .int .i64 e) (d := .int .i64 n) (e := .int .i64 0) (f := .int .i64 0) (by omega)
  have HB := b_store6 (g := w.heap.size) (a := .int .i64 l) (b := .int .i64 r) (c := .int .i64 e) (d := .int .i64 n) (e := .int .i64 0) (f := .int .i64 0) hb2 (Nat.le_refl _)
  clear A2 D2 hb2
  go_upto_region 4 with fail
  generalize ((((((w7.setCell ⟨w.heap.size, 0, none⟩ (.int .i64 l)).setCell ⟨w.heap.size, 1, none⟩ (.int .i64 r)).setCell ⟨w.heap.size, 2, none⟩ (.int .i64 e)).setCell ⟨w.heap.size, 3, none⟩ (.int .i64 n)).setCell ⟨w.heap.size, 4, none⟩ (.int .i64 0)).setCell ⟨w.heap.size, 5, none⟩ (.int .i64 0)) = wq at *
  have HS : Hid (Blk wq w.heap.size (c6 ⟨l, r, e, n, 0, 0⟩) 28) := HS
  have HT := Lib.hid HT
  have HB := Lib.hid HB
  refine start_ (n := 5) (S := fun w' => w'.cell? ⟨w.heap.size, 0, none⟩ = some (.int .i64 (l)) ∧ w'.cell? ⟨w.heap.size, 1, none⟩ = some (.int .i64 (r)) ∧ w'.cell? ⟨w.heap.size, 2, none⟩ = some (.int .i64 (e)) ∧ w'.cell? ⟨w.heap.size, 3, none⟩ = some (.int .i64 (n)) ∧ w'.cell? ⟨w.heap.size, 4, none⟩ = some (.int .i64 (0)) ∧ w'.cell? ⟨w.heap.size, 5, none⟩ = some (.int .i64 (0))) (ds := [3]) #[false, false, false, false, false] (by kernel_rfl) rfl rfl ⟨(HS.out.drew.cell 0), (HS.out.drew.cell 1), (HS.out.drew.cell 2), (HS.out.drew.cell 3), (HS.out.drew.cell 4), (HS.out.drew.cell 5)⟩ (fun hHeld => ?_)
  refine take_ (i := 0) (N := some 15) (v := ?_) (a' := ?_) #[true, false, false, false, false] rfl rfl (by kernel_rfl) (fun _ _ _ h => h) (Or.inl ⟨by rfl, ?_⟩) hHeld ?_ ?_
  rotate_left
  · rintro w' ⟨s0, s1, s2, s3, s4, s5⟩
    go_simp
    with_reducible rfl
  rotate_left
  · simp only [Act.put, List.setIfInBounds_toArray, List.set_cons_zero, List.set_cons_succ, i64_w, i32_w]
    rfl
  refine take_ (i := 1) (N := some 16) (v := ?_) (a' := ?_) #[true, true, false, false, false] rfl rfl (by kernel_rfl) (fun _ _ _ h => h) (Or.inl ⟨by rfl, ?_⟩) hHeld ?_ ?_
  rotate_left
  · rintro w' ⟨s0, s1, s2, s3, s4, s5⟩
    go_simp
    with_reducible rfl
  rotate_left
  · simp only [Act.put, List.setIfInBounds_toArray, List.set_cons_zero, List.set_cons_succ, i64_w, i32_w]
    rfl
  refine one_ (i := 2) (N := some 17) #[true, true, true, false, false] rfl rfl (by kernel_rfl) (by decide) (fun K hK => ?_)
  refine goes_ Try.func37 (by kernel_rfl) rfl #[S6 ⟨l, r, e, n, 0, 0⟩, .int .i64 7] (by rfl) rfl rfl (by simp only [List.map_toArray, List.map_cons, List.map_nil]; rfl) ?_
  with_reducible refine (msg_any ⟨l, r, e, n, 0, 0⟩ 7 _).mono ?_
  rintro e9 wz ⟨v9, he, hr, hb⟩
  subst he
  refine ⟨_, rfl, ?_⟩
  have hT2 := HT.out.drew.below hb
  have hlt := hT2.lt
  have hsz : w.heap.size + 2 ≤ wq.heap.size := HT.out.lt
  have R1 := Lib.hid ((hr.lower (base' := w.heap.size + 2) hsz))
  have R2 := Lib.hid ((R1.out.far6 (g := w.heap.size + 1) (a := .int .i64 (l)) (b := .int .i64 (r)) (c := .int .i64 (e)) (d := .int .i64 (n)) (e := .int .i64 (0)) (f := .int .i64 (0)) (by omega)).lower (base' := w.heap.size) (by omega))
  have T2 := Lib.hid (hT2.store6 (a' := .int .i64 (l)) (b' := .int .i64 (r)) (c' := .int .i64 (e)) (d' := .int .i64 (n)) (e' := .int .i64 (0)) (f' := .int .i64 (0)))
  have B2 := Lib.hid (b_store6 (g := w.heap.size + 1) (a := .int .i64 (l)) (b := .int .i64 (r)) (c := .int .i64 (e)) (d := .int .i64 (n)) (e := .int .i64 (0)) (f := .int .i64 (0)) (b_step (b_drew HB.out) hb) (by omega))
  obtain ⟨y0, y1, y2, y3, y4, y5, z0, z1, z2, z3, z4, z5⟩ := hT2.six
  clear hT2
  refine hK.out _ _ ⟨(cell_below hHeld.1 hb), (cell_below hHeld.2.1 hb), (cell_below hHeld.2.2.1 hb), (cell_below hHeld.2.2.2.1 hb), (cell_below hHeld.2.2.2.2.1 hb), (cell_below hHeld.2.2.2.2.2 hb)⟩ (fun hHeld => ?_)
  clear hK K
  refine norm_ (a' := ?_) ?_ ?_
  rotate_left
  · show Act.put _ (some 17) _ = _
    simp only [Act.put, List.setIfInBounds_toArray, List.set_cons_zero, List.set_cons_succ, i64_w, i32_w]
    rfl
  refine last_ (i := 3) (N := none) #[true, true, true, true, false] rfl rfl (by kernel_rfl) (by decide) (fun K hK => ?_)
  refine skip_ (w1 := ?_) (by rfl) rfl ?_ ?_
  rotate_left
  · go_simp
    rfl
  refine hK.out _ _ ?_
  clear hK K
  refine pure_ (i := 4) (N := some 3) (v := ?_) (a' := ?_) #[true, true, true, true, true] rfl rfl (by kernel_rfl) (fun _ _ _ h => h) (Or.inl ⟨by rfl, ?_⟩) ?_ ?_
  rotate_left
  · intro w'
    go_simp
    with_reducible rfl
  rotate_left
  · simp only [Act.put, List.setIfInBounds_toArray, List.set_cons_zero, List.set_cons_succ, i64_w, i32_w]
    rfl
  refine done_ (by kernel_rfl) ?_
  go_wp2_with fail
  exact bodyPost_ret (results_ct rfl _ _ (w.heap.size + 1) 28 (c6 ⟨l, r, e, n, 0, 0⟩) _ rfl T2.out Try.underlying28 rfl (by kernel_rfl)) rfl ⟨v9, rfl, R2.out, B2.out⟩
theorem rdial_any (s : Ses) (a b : Int) (w : World) : Calls Try.prog 25 #[S6 s, .int .i64 a, .int .i64 b] w (Dialled (dialF s a b).1 (dialF s a b).2.1 (dialF s a b).2.2 w) := by
  obtain ⟨l, r, e, n, p, d⟩ := s
  unfold dialF
  by_cases h : chk ⟨l, r, e, n, p, d⟩ ≠ 0
  · rw [if_pos h]
    exact rdial_chk rfl (bne_iff_ne.2 h) w
  · rw [if_neg h]
    have hc := Decidable.not_not.1 h
    have hk := chk_zero.1 hc
    have h0 : (chk ⟨l, r, e, n, p, d⟩ != 0) = false := bne_eq_false_iff_eq.2 hc
    dsimp only
    by_cases hp : p ≠ 0
    · rw [if_pos hp]
      exact rdial_busy rfl h0 (bne_iff_ne.2 hp) w
    · rw [if_neg hp]
      have hp' : (p != 0) = false := bne_eq_false_iff_eq.2 (Decidable.not_not.1 hp)
      by_cases ht : ¬ InTime a b
      · rw [if_pos ht]
        exact rdial_late rfl h0 hp' ht w
      · rw [if_neg ht]
        have ht' := Decidable.not_not.1 ht
        by_cases hn : n = 1073741824
        · rw [if_pos hn]
          exact rdial_full rfl h0 hp' ht' (beq_iff_eq.2 hn) w
        · rw [if_neg hn]
          exact rdial_ok rfl h0 hp' ht' (beq_eq_false_iff_ne.2 hn) hk.n0 hk.n1 w
theorem rexp_any (s : Ses) (a b : Int) (w : World) : Calls Try.prog 27 #[S6 s, .int .i64 a, .int .i64 b] w (Gave (expireF s a b).1 (expireF s a b).2 w) := by
  obtain ⟨l, r, e, n, p, d⟩ := s
  unfold expireF
  dsimp only
  by_cases h : chk ⟨l, r, e, n, p, d⟩ = 0
  · have h0 : (chk ⟨l, r, e, n, p, d⟩ != 0) = false := bne_eq_false_iff_eq.2 h
    by_cases hp : p = 1
    · have hp' : (p != 1) = false := bne_eq_false_iff_eq.2 hp
      by_cases hd : a < d
      · rw [if_pos (.inr (.inr hd))]
        exact rexp_d rfl h0 hp' hd w
      · rw [if_neg (by omega)]
        by_cases ht : InTime a b
        · rw [if_pos ht]
          exact rexp_ok rfl h0 hp' (by omega) ht w
        · rw [if_neg ht]
          exact rexp_late rfl h0 hp' (by omega) ht w
    · rw [if_pos (.inr (.inl hp))]
      exact rexp_p rfl h0 (bne_iff_ne.2 hp) w
  · rw [if_pos (.inl h)]
    exact rexp_chk (a := a) (b := b) rfl (bne_iff_ne.2 h) w
theorem rclo_any (s : Ses) (w : World) : Calls Try.prog 28 #[S6 s] w (Gave (closeF s).1 (closeF s).2 w) := by
  obtain ⟨l, r, e, n, p, d⟩ := s
  unfold closeF
  dsimp only
  by_cases h : chk ⟨l, r, e, n, p, d⟩ = 0
  · have h0 : (chk ⟨l, r, e, n, p, d⟩ != 0) = false := bne_eq_false_iff_eq.2 h
    by_cases hp : p = 0
    · rw [if_pos (.inr hp)]
      exact rclo_p rfl h0 (beq_iff_eq.2 hp) w
    · rw [if_neg (by simp [h, hp])]
      exact rclo_ok rfl h0 (beq_eq_false_iff_ne.2 hp) w
  · rw [if_pos (.inl h)]
    exact rclo_chk rfl (bne_iff_ne.2 h) w
end Go.Proofs.Ytemljffppdjmgaa
