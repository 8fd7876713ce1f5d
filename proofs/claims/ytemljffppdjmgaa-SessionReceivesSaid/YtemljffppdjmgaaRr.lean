/- The reference's Receive returns what the session's own does. -/
import Derived.Test.YtemljffppdjmgaaF
namespace Go.Proofs.Ytemljffppdjmgaa
open Go.RowKit Go.Proofs.YtemljffppdjmgaaW.PrintLast
set_option linter.unusedVariables false
set_option linter.unusedSimpArgs false
set_option maxHeartbeats 2000000 in
theorem rrecv_chk {l r e n p d c mk mf mt mn me mx now : Int} {va ba : Option Addr} {vl vc bl bc : Nat} (hz : chk ⟨l, r, e, n, p, d⟩ = c) (hc : (c != 0) = true) (w : World) : Calls Try.prog 18 #[S6 ⟨l, r, e, n, p, d⟩, .int .i64 now, MV ⟨mk, mf, mt, mn, me⟩ mx (.slice va vl vc) (.slice ba bl bc)] w (Gave ⟨l, r, e, n, p, d⟩ [] w) := by
  have HC := Lib.hid (fun w => rchk_c hz w)
  clear hz
  go_enter Try.func18, Try.ntmps18
  go_wp2_with fail
  refine (HC.out _).mono ?_
  rintro e0 w1 ⟨rfl, h1⟩
  have A1 := (((Blk.new w (c6 ⟨l, r, e, n, p, d⟩) 28).alloc (.cells (c8 ⟨mk, mf, mt, mn, me⟩ mx (.slice va vl vc) (.slice ba bl bc)) 51)).alloc (.cells (c6 zS) 28)).below h1
  have M1 := ((Blk.new (w.alloc (.cells (c6 ⟨l, r, e, n, p, d⟩) 28)) (c8 ⟨mk, mf, mt, mn, me⟩ mx (.slice va vl vc) (.slice ba bl bc)) 51).alloc (.cells (c6 zS) 28)).below h1
  have D1 := (Blk.new ((w.alloc (.cells (c6 ⟨l, r, e, n, p, d⟩) 28)).alloc (.cells (c8 ⟨mk, mf, mt, mn, me⟩ mx (.slice va vl vc) (.slice ba bl bc)) 51)) (c6 zS) 28).below h1
  rw [World.size_alloc] at M1
  rw [World.size_alloc, World.size_alloc] at D1
  have hb1 := b_step (b_alloc (b_alloc (b_alloc (Below.refl w.heap.size w) (.cells (c6 ⟨l, r, e, n, p, d⟩) 28)) (.cells (c8 ⟨mk, mf, mt, mn, me⟩ mx (.slice va vl vc) (.slice ba bl bc)) 51)) (.cells (c6 zS) 28)) h1
  have la := A1.lt
  have ld := D1.lt
  clear h1 HC
  obtain ⟨c0, c1, c2, c3, c4, c5, f0, f1, f2, f3, f4, f5⟩ := A1.six
  obtain ⟨g0, g1, g2, g3, g4, g5, k0, k1, k2, k3, k4, k5⟩ := D1.six
  have m0 := M1.cell 0
  have m1 := M1.cell 1
  have m2 := M1.cell 2
  have m3 := M1.cell 3
  have m5 := M1.cell 5
  clear A1 M1
  have T2 := Lib.hid (D1.store6 (a' := .int .i64 l) (b' := .int .i64 r) (c' := .int .i64 e) (d' := .int .i64 n) (e' := .int .i64 p) (f' := .int .i64 d))
  have B2 := Lib.hid (b_store6 (g := w.heap.size + 1 + 1) (a := .int .i64 l) (b := .int .i64 r) (c := .int .i64 e) (d := .int .i64 n) (e := .int .i64 p) (f := .int .i64 d) hb1 (by omega))
  clear D1 hb1
  go_wp2_with fail
  exact bodyPost_ret (results_ct rfl _ _ (w.heap.size + 1 + 1) 28 (c6 ⟨l, r, e, n, p, d⟩) _ rfl T2.out Try.underlying28 rfl (by kernel_rfl)) rfl ⟨.slice none 0 0, rfl, row_nil _ _, B2.out⟩
set_option maxHeartbeats 2000000 in
theorem rrecv_f {l r e n p d c mk mf mt mn me mx now : Int} {va ba : Option Addr} {vl vc bl bc : Nat} (hz : chk ⟨l, r, e, n, p, d⟩ = c) (hc : (c != 0) = false) (h1 : (mf != r) = true) (w : World) : Calls Try.prog 18 #[S6 ⟨l, r, e, n, p, d⟩, .int .i64 now, MV ⟨mk, mf, mt, mn, me⟩ mx (.slice va vl vc) (.slice ba bl bc)] w (Gave ⟨l, r, e, n, p, d⟩ [] w) := by
  have HC := Lib.hid (fun w => rchk_c hz w)
  clear hz
  go_enter Try.func18, Try.ntmps18
  go_wp2_with fail
  refine (HC.out _).mono ?_
  rintro e0 w1 ⟨rfl, h1⟩
  have A1 := (((Blk.new w (c6 ⟨l, r, e, n, p, d⟩) 28).alloc (.cells (c8 ⟨mk, mf, mt, mn, me⟩ mx (.slice va vl vc) (.slice ba bl bc)) 51)).alloc (.cells (c6 zS) 28)).below h1
  have M1 := ((Blk.new (w.alloc (.cells (c6 ⟨l, r, e, n, p, d⟩) 28)) (c8 ⟨mk, mf, mt, mn, me⟩ mx (.slice va vl vc) (.slice ba bl bc)) 51).alloc (.cells (c6 zS) 28)).below h1
  have D1 := (Blk.new ((w.alloc (.cells (c6 ⟨l, r, e, n, p, d⟩) 28)).alloc (.cells (c8 ⟨mk, mf, mt, mn, me⟩ mx (.slice va vl vc) (.slice ba bl bc)) 51)) (c6 zS) 28).below h1
  rw [World.size_alloc] at M1
  rw [World.size_alloc, World.size_alloc] at D1
  have hb1 := b_step (b_alloc (b_alloc (b_alloc (Below.refl w.heap.size w) (.cells (c6 ⟨l, r, e, n, p, d⟩) 28)) (.cells (c8 ⟨mk, mf, mt, mn, me⟩ mx (.slice va vl vc) (.slice ba bl bc)) 51)) (.cells (c6 zS) 28)) h1
  have la := A1.lt
  have ld := D1.lt
  clear h1 HC
  obtain ⟨c0, c1, c2, c3, c4, c5, f0, f1, f2, f3, f4, f5⟩ := A1.six
  obtain ⟨g0, g1, g2, g3, g4, g5, k0, k1, k2, k3, k4, k5⟩ := D1.six
  have m0 := M1.cell 0
  have m1 := M1.cell 1
  have m2 := M1.cell 2
  have m3 := M1.cell 3
  have m5 := M1.cell 5
  clear A1 M1
  have T2 := Lib.hid (D1.store6 (a' := .int .i64 l) (b' := .int .i64 r) (c' := .int .i64 e) (d' := .int .i64 n) (e' := .int .i64 p) (f' := .int .i64 d))
  have B2 := Lib.hid (b_store6 (g := w.heap.size + 1 + 1) (a := .int .i64 l) (b := .int .i64 r) (c := .int .i64 e) (d := .int .i64 n) (e := .int .i64 p) (f := .int .i64 d) hb1 (by omega))
  clear D1 hb1
  go_wp2_with fail
  exact bodyPost_ret (results_ct rfl _ _ (w.heap.size + 1 + 1) 28 (c6 ⟨l, r, e, n, p, d⟩) _ rfl T2.out Try.underlying28 rfl (by kernel_rfl)) rfl ⟨.slice none 0 0, rfl, row_nil _ _, B2.out⟩
set_option maxHeartbeats 2000000 in
theorem rrecv_t {l r e n p d c mk mf mt mn me mx now : Int} {va ba : Option Addr} {vl vc bl bc : Nat} (hz : chk ⟨l, r, e, n, p, d⟩ = c) (hc : (c != 0) = false) (h1 : (mf != r) = false) (h2 : (mt != l) = true) (w : World) : Calls Try.prog 18 #[S6 ⟨l, r, e, n, p, d⟩, .int .i64 now, MV ⟨mk, mf, mt, mn, me⟩ mx (.slice va vl vc) (.slice ba bl bc)] w (Gave ⟨l, r, e, n, p, d⟩ [] w) := by
  have HC := Lib.hid (fun w => rchk_c hz w)
  clear hz
  go_enter Try.func18, Try.ntmps18
  go_wp2_with fail
  refine (HC.out _).mono ?_
  rintro e0 w1 ⟨rfl, h1⟩
  have A1 := (((Blk.new w (c6 ⟨l, r, e, n, p, d⟩) 28).alloc (.cells (c8 ⟨mk, mf, mt, mn, me⟩ mx (.slice va vl vc) (.slice ba bl bc)) 51)).alloc (.cells (c6 zS) 28)).below h1
  have M1 := ((Blk.new (w.alloc (.cells (c6 ⟨l, r, e, n, p, d⟩) 28)) (c8 ⟨mk, mf, mt, mn, me⟩ mx (.slice va vl vc) (.slice ba bl bc)) 51).alloc (.cells (c6 zS) 28)).below h1
  have D1 := (Blk.new ((w.alloc (.cells (c6 ⟨l, r, e, n, p, d⟩) 28)).alloc (.cells (c8 ⟨mk, mf, mt, mn, me⟩ mx (.slice va vl vc) (.slice ba bl bc)) 51)) (c6 zS) 28).below h1
  rw [World.size_alloc] at M1
  rw [World.size_alloc, World.size_alloc] at D1
  have hb1 := b_step (b_alloc (b_alloc (b_alloc (Below.refl w.heap.size w) (.cells (c6 ⟨l, r, e, n, p, d⟩) 28)) (.cells (c8 ⟨mk, mf, mt, mn, me⟩ mx (.slice va vl vc) (.slice ba bl bc)) 51)) (.cells (c6 zS) 28)) h1
  have la := A1.lt
  have ld := D1.lt
  clear h1 HC
  obtain ⟨c0, c1, c2, c3, c4, c5, f0, f1, f2, f3, f4, f5⟩ := A1.six
  obtain ⟨g0, g1, g2, g3, g4, g5, k0, k1, k2, k3, k4, k5⟩ := D1.six
  have m0 := M1.cell 0
  have m1 := M1.cell 1
  have m2 := M1.cell 2
  have m3 := M1.cell 3
  have m5 := M1.cell 5
  clear A1 M1
  have T2 := Lib.hid (D1.store6 (a' := .int .i64 l) (b' := .int .i64 r) (c' := .int .i64 e) (d' := .int .i64 n) (e' := .int .i64 p) (f' := .int .i64 d))
  have B2 := Lib.hid (b_store6 (g := w.heap.size + 1 + 1) (a := .int .i64 l) (b := .int .i64 r) (c := .int .i64 e) (d := .int .i64 n) (e := .int .i64 p) (f := .int .i64 d) hb1 (by omega))
  clear D1 hb1
  go_wp2_with fail
  exact bodyPost_ret (results_ct rfl _ _ (w.heap.size + 1 + 1) 28 (c6 ⟨l, r, e, n, p, d⟩) _ rfl T2.out Try.underlying28 rfl (by kernel_rfl)) rfl ⟨.slice none 0 0, rfl, row_nil _ _, B2.out⟩
set_option maxHeartbeats 2000000 in
theorem rrecv_e0 {l r e n p d c mk mf mt mn me mx now : Int} {va ba : Option Addr} {vl vc bl bc : Nat} (hz : chk ⟨l, r, e, n, p, d⟩ = c) (hc : (c != 0) = false) (h1 : (mf != r) = false) (h2 : (mt != l) = false) (h3 : me < 0) (w : World) : Calls Try.prog 18 #[S6 ⟨l, r, e, n, p, d⟩, .int .i64 now, MV ⟨mk, mf, mt, mn, me⟩ mx (.slice va vl vc) (.slice ba bl bc)] w (Gave ⟨l, r, e, n, p, d⟩ [] w) := by
  have HC := Lib.hid (fun w => rchk_c hz w)
  clear hz
  go_enter Try.func18, Try.ntmps18
  go_wp2_with fail
  refine (HC.out _).mono ?_
  rintro e0 w1 ⟨rfl, h1⟩
  have A1 := (((Blk.new w (c6 ⟨l, r, e, n, p, d⟩) 28).alloc (.cells (c8 ⟨mk, mf, mt, mn, me⟩ mx (.slice va vl vc) (.slice ba bl bc)) 51)).alloc (.cells (c6 zS) 28)).below h1
  have M1 := ((Blk.new (w.alloc (.cells (c6 ⟨l, r, e, n, p, d⟩) 28)) (c8 ⟨mk, mf, mt, mn, me⟩ mx (.slice va vl vc) (.slice ba bl bc)) 51).alloc (.cells (c6 zS) 28)).below h1
  have D1 := (Blk.new ((w.alloc (.cells (c6 ⟨l, r, e, n, p, d⟩) 28)).alloc (.cells (c8 ⟨mk, mf, mt, mn, me⟩ mx (.slice va vl vc) (.slice ba bl bc)) 51)) (c6 zS) 28).below h1
  rw [World.size_alloc] at M1
  rw [World.size_alloc, World.size_alloc] at D1
  have hb1 := b_step (b_alloc (b_alloc (b_alloc (Below.refl w.heap.size w) (.cells (c6 ⟨l, r, e, n, p, d⟩) 28)) (.cells (c8 ⟨mk, mf, mt, mn, me⟩ mx (.slice va vl vc) (.slice ba bl bc)) 51)) (.cells (c6 zS) 28)) h1
  have la := A1.lt
  have ld := D1.lt
  clear h1 HC
  obtain ⟨c0, c1, c2, c3, c4, c5, f0, f1, f2, f3, f4, f5⟩ := A1.six
  obtain ⟨g0, g1, g2, g3, g4, g5, k0, k1, k2, k3, k4, k5⟩ := D1.six
  have m0 := M1.cell 0
  have m1 := M1.cell 1
  have m2 := M1.cell 2
  have m3 := M1.cell 3
  have m5 := M1.cell 5
  clear A1 M1
  have T2 := Lib.hid (D1.store6 (a' := .int .i64 l) (b' := .int .i64 r) (c' := .int .i64 e) (d' := .int .i64 n) (e' := .int .i64 p) (f' := .int .i64 d))
  have B2 := Lib.hid (b_store6 (g := w.heap.size + 1 + 1) (a := .int .i64 l) (b := .int .i64 r) (c := .int .i64 e) (d := .int .i64 n) (e := .int .i64 p) (f := .int .i64 d) hb1 (by omega))
  clear D1 hb1
  go_wp2_with fail
  exact bodyPost_ret (results_ct rfl _ _ (w.heap.size + 1 + 1) 28 (c6 ⟨l, r, e, n, p, d⟩) _ rfl T2.out Try.underlying28 rfl (by kernel_rfl)) rfl ⟨.slice none 0 0, rfl, row_nil _ _, B2.out⟩
set_option maxHeartbeats 2000000 in
theorem rrecv_e1 {l r e n p d c mk mf mt mn me mx now : Int} {va ba : Option Addr} {vl vc bl bc : Nat} (hz : chk ⟨l, r, e, n, p, d⟩ = c) (hc : (c != 0) = false) (h1 : (mf != r) = false) (h2 : (mt != l) = false) (h3 : 0 ≤ me) (h4 : 1073741824 < me) (w : World) : Calls Try.prog 18 #[S6 ⟨l, r, e, n, p, d⟩, .int .i64 now, MV ⟨mk, mf, mt, mn, me⟩ mx (.slice va vl vc) (.slice ba bl bc)] w (Gave ⟨l, r, e, n, p, d⟩ [] w) := by
  have HC := Lib.hid (fun w => rchk_c hz w)
  clear hz
  go_enter Try.func18, Try.ntmps18
  go_wp2_with fail
  refine (HC.out _).mono ?_
  rintro e0 w1 ⟨rfl, h1⟩
  have A1 := (((Blk.new w (c6 ⟨l, r, e, n, p, d⟩) 28).alloc (.cells (c8 ⟨mk, mf, mt, mn, me⟩ mx (.slice va vl vc) (.slice ba bl bc)) 51)).alloc (.cells (c6 zS) 28)).below h1
  have M1 := ((Blk.new (w.alloc (.cells (c6 ⟨l, r, e, n, p, d⟩) 28)) (c8 ⟨mk, mf, mt, mn, me⟩ mx (.slice va vl vc) (.slice ba bl bc)) 51).alloc (.cells (c6 zS) 28)).below h1
  have D1 := (Blk.new ((w.alloc (.cells (c6 ⟨l, r, e, n, p, d⟩) 28)).alloc (.cells (c8 ⟨mk, mf, mt, mn, me⟩ mx (.slice va vl vc) (.slice ba bl bc)) 51)) (c6 zS) 28).below h1
  rw [World.size_alloc] at M1
  rw [World.size_alloc, World.size_alloc] at D1
  have hb1 := b_step (b_alloc (b_alloc (b_alloc (Below.refl w.heap.size w) (.cells (c6 ⟨l, r, e, n, p, d⟩) 28)) (.cells (c8 ⟨mk, mf, mt, mn, me⟩ mx (.slice va vl vc) (.slice ba bl bc)) 51)) (.cells (c6 zS) 28)) h1
  have la := A1.lt
  have ld := D1.lt
  clear h1 HC
  obtain ⟨c0, c1, c2, c3, c4, c5, f0, f1, f2, f3, f4, f5⟩ := A1.six
  obtain ⟨g0, g1, g2, g3, g4, g5, k0, k1, k2, k3, k4, k5⟩ := D1.six
  have m0 := M1.cell 0
  have m1 := M1.cell 1
  have m2 := M1.cell 2
  have m3 := M1.cell 3
  have m5 := M1.cell 5
  clear A1 M1
  have T2 := Lib.hid (D1.store6 (a' := .int .i64 l) (b' := .int .i64 r) (c' := .int .i64 e) (d' := .int .i64 n) (e' := .int .i64 p) (f' := .int .i64 d))
  have B2 := Lib.hid (b_store6 (g := w.heap.size + 1 + 1) (a := .int .i64 l) (b := .int .i64 r) (c := .int .i64 e) (d := .int .i64 n) (e := .int .i64 p) (f := .int .i64 d) hb1 (by omega))
  clear D1 hb1
  go_wp2_with fail
  exact bodyPost_ret (results_ct rfl _ _ (w.heap.size + 1 + 1) 28 (c6 ⟨l, r, e, n, p, d⟩) _ rfl T2.out Try.underlying28 rfl (by kernel_rfl)) rfl ⟨.slice none 0 0, rfl, row_nil _ _, B2.out⟩
set_option maxHeartbeats 2000000 in
theorem rrecv_n0 {l r e n p d c mk mf mt mn me mx now : Int} {va ba : Option Addr} {vl vc bl bc : Nat} (hz : chk ⟨l, r, e, n, p, d⟩ = c) (hc : (c != 0) = false) (h1 : (mf != r) = false) (h2 : (mt != l) = false) (h3 : 0 ≤ me) (h4 : me ≤ 1073741824) (h5 : mn < 0) (w : World) : Calls Try.prog 18 #[S6 ⟨l, r, e, n, p, d⟩, .int .i64 now, MV ⟨mk, mf, mt, mn, me⟩ mx (.slice va vl vc) (.slice ba bl bc)] w (Gave ⟨l, r, e, n, p, d⟩ [] w) := by
  have HC := Lib.hid (fun w => rchk_c hz w)
  clear hz
  go_enter Try.func18, Try.ntmps18
  go_wp2_with fail
  refine (HC.out _).mono ?_
  rintro e0 w1 ⟨rfl, h1⟩
  have A1 := (((Blk.new w (c6 ⟨l, r, e, n, p, d⟩) 28).alloc (.cells (c8 ⟨mk, mf, mt, mn, me⟩ mx (.slice va vl vc) (.slice ba bl bc)) 51)).alloc (.cells (c6 zS) 28)).below h1
  have M1 := ((Blk.new (w.alloc (.cells (c6 ⟨l, r, e, n, p, d⟩) 28)) (c8 ⟨mk, mf, mt, mn, me⟩ mx (.slice va vl vc) (.slice ba bl bc)) 51).alloc (.cells (c6 zS) 28)).below h1
  have D1 := (Blk.new ((w.alloc (.cells (c6 ⟨l, r, e, n, p, d⟩) 28)).alloc (.cells (c8 ⟨mk, mf, mt, mn, me⟩ mx (.slice va vl vc) (.slice ba bl bc)) 51)) (c6 zS) 28).below h1
  rw [World.size_alloc] at M1
  rw [World.size_alloc, World.size_alloc] at D1
  have hb1 := b_step (b_alloc (b_alloc (b_alloc (Below.refl w.heap.size w) (.cells (c6 ⟨l, r, e, n, p, d⟩) 28)) (.cells (c8 ⟨mk, mf, mt, mn, me⟩ mx (.slice va vl vc) (.slice ba bl bc)) 51)) (.cells (c6 zS) 28)) h1
  have la := A1.lt
  have ld := D1.lt
  clear h1 HC
  obtain ⟨c0, c1, c2, c3, c4, c5, f0, f1, f2, f3, f4, f5⟩ := A1.six
  obtain ⟨g0, g1, g2, g3, g4, g5, k0, k1, k2, k3, k4, k5⟩ := D1.six
  have m0 := M1.cell 0
  have m1 := M1.cell 1
  have m2 := M1.cell 2
  have m3 := M1.cell 3
  have m5 := M1.cell 5
  clear A1 M1
  have T2 := Lib.hid (D1.store6 (a' := .int .i64 l) (b' := .int .i64 r) (c' := .int .i64 e) (d' := .int .i64 n) (e' := .int .i64 p) (f' := .int .i64 d))
  have B2 := Lib.hid (b_store6 (g := w.heap.size + 1 + 1) (a := .int .i64 l) (b := .int .i64 r) (c := .int .i64 e) (d := .int .i64 n) (e := .int .i64 p) (f := .int .i64 d) hb1 (by omega))
  clear D1 hb1
  go_wp2_with fail
  exact bodyPost_ret (results_ct rfl _ _ (w.heap.size + 1 + 1) 28 (c6 ⟨l, r, e, n, p, d⟩) _ rfl T2.out Try.underlying28 rfl (by kernel_rfl)) rfl ⟨.slice none 0 0, rfl, row_nil _ _, B2.out⟩
set_option maxHeartbeats 2000000 in
theorem rrecv_n1 {l r e n p d c mk mf mt mn me mx now : Int} {va ba : Option Addr} {vl vc bl bc : Nat} (hz : chk ⟨l, r, e, n, p, d⟩ = c) (hc : (c != 0) = false) (h1 : (mf != r) = false) (h2 : (mt != l) = false) (h3 : 0 ≤ me) (h4 : me ≤ 1073741824) (h5 : 0 ≤ mn) (h6 : 1073741824 < mn) (w : World) : Calls Try.prog 18 #[S6 ⟨l, r, e, n, p, d⟩, .int .i64 now, MV ⟨mk, mf, mt, mn, me⟩ mx (.slice va vl vc) (.slice ba bl bc)] w (Gave ⟨l, r, e, n, p, d⟩ [] w) := by
  have HC := Lib.hid (fun w => rchk_c hz w)
  clear hz
  go_enter Try.func18, Try.ntmps18
  go_wp2_with fail
  refine (HC.out _).mono ?_
  rintro e0 w1 ⟨rfl, h1⟩
  have A1 := (((Blk.new w (c6 ⟨l, r, e, n, p, d⟩) 28).alloc (.cells (c8 ⟨mk, mf, mt, mn, me⟩ mx (.slice va vl vc) (.slice ba bl bc)) 51)).alloc (.cells (c6 zS) 28)).below h1
  have M1 := ((Blk.new (w.alloc (.cells (c6 ⟨l, r, e, n, p, d⟩) 28)) (c8 ⟨mk, mf, mt, mn, me⟩ mx (.slice va vl vc) (.slice ba bl bc)) 51).alloc (.cells (c6 zS) 28)).below h1
  have D1 := (Blk.new ((w.alloc (.cells (c6 ⟨l, r, e, n, p, d⟩) 28)).alloc (.cells (c8 ⟨mk, mf, mt, mn, me⟩ mx (.slice va vl vc) (.slice ba bl bc)) 51)) (c6 zS) 28).below h1
  rw [World.size_alloc] at M1
  rw [World.size_alloc, World.size_alloc] at D1
  have hb1 := b_step (b_alloc (b_alloc (b_alloc (Below.refl w.heap.size w) (.cells (c6 ⟨l, r, e, n, p, d⟩) 28)) (.cells (c8 ⟨mk, mf, mt, mn, me⟩ mx (.slice va vl vc) (.slice ba bl bc)) 51)) (.cells (c6 zS) 28)) h1
  have la := A1.lt
  have ld := D1.lt
  clear h1 HC
  obtain ⟨c0, c1, c2, c3, c4, c5, f0, f1, f2, f3, f4, f5⟩ := A1.six
  obtain ⟨g0, g1, g2, g3, g4, g5, k0, k1, k2, k3, k4, k5⟩ := D1.six
  have m0 := M1.cell 0
  have m1 := M1.cell 1
  have m2 := M1.cell 2
  have m3 := M1.cell 3
  have m5 := M1.cell 5
  clear A1 M1
  have T2 := Lib.hid (D1.store6 (a' := .int .i64 l) (b' := .int .i64 r) (c' := .int .i64 e) (d' := .int .i64 n) (e' := .int .i64 p) (f' := .int .i64 d))
  have B2 := Lib.hid (b_store6 (g := w.heap.size + 1 + 1) (a := .int .i64 l) (b := .int .i64 r) (c := .int .i64 e) (d := .int .i64 n) (e := .int .i64 p) (f := .int .i64 d) hb1 (by omega))
  clear D1 hb1
  go_wp2_with fail
  exact bodyPost_ret (results_ct rfl _ _ (w.heap.size + 1 + 1) 28 (c6 ⟨l, r, e, n, p, d⟩) _ rfl T2.out Try.underlying28 rfl (by kernel_rfl)) rfl ⟨.slice none 0 0, rfl, row_nil _ _, B2.out⟩
set_option maxHeartbeats 2000000 in
theorem rrecv_k {l r e n p d c mk mf mt mn me mx now : Int} {va ba : Option Addr} {vl vc bl bc : Nat} (hz : chk ⟨l, r, e, n, p, d⟩ = c) (hc : (c != 0) = false) (h1 : (mf != r) = false) (h2 : (mt != l) = false) (h3 : 0 ≤ me) (h4 : me ≤ 1073741824) (h5 : 0 ≤ mn) (h6 : mn ≤ 1073741824) (q5 : (mk != 5) = true) (q6 : (mk != 6) = true) (q7 : (mk != 7) = true) (w : World) : Calls Try.prog 18 #[S6 ⟨l, r, e, n, p, d⟩, .int .i64 now, MV ⟨mk, mf, mt, mn, me⟩ mx (.slice va vl vc) (.slice ba bl bc)] w (Gave ⟨l, r, e, n, p, d⟩ [] w) := by
  have HC := Lib.hid (fun w => rchk_c hz w)
  clear hz
  go_enter Try.func18, Try.ntmps18
  go_wp2_with fail
  refine (HC.out _).mono ?_
  rintro e0 w1 ⟨rfl, h1⟩
  have A1 := (((Blk.new w (c6 ⟨l, r, e, n, p, d⟩) 28).alloc (.cells (c8 ⟨mk, mf, mt, mn, me⟩ mx (.slice va vl vc) (.slice ba bl bc)) 51)).alloc (.cells (c6 zS) 28)).below h1
  have M1 := ((Blk.new (w.alloc (.cells (c6 ⟨l, r, e, n, p, d⟩) 28)) (c8 ⟨mk, mf, mt, mn, me⟩ mx (.slice va vl vc) (.slice ba bl bc)) 51).alloc (.cells (c6 zS) 28)).below h1
  have D1 := (Blk.new ((w.alloc (.cells (c6 ⟨l, r, e, n, p, d⟩) 28)).alloc (.cells (c8 ⟨mk, mf, mt, mn, me⟩ mx (.slice va vl vc) (.slice ba bl bc)) 51)) (c6 zS) 28).below h1
  rw [World.size_alloc] at M1
  rw [World.size_alloc, World.size_alloc] at D1
  have hb1 := b_step (b_alloc (b_alloc (b_alloc (Below.refl w.heap.size w) (.cells (c6 ⟨l, r, e, n, p, d⟩) 28)) (.cells (c8 ⟨mk, mf, mt, mn, me⟩ mx (.slice va vl vc) (.slice ba bl bc)) 51)) (.cells (c6 zS) 28)) h1
  have la := A1.lt
  have ld := D1.lt
  clear h1 HC
  obtain ⟨c0, c1, c2, c3, c4, c5, f0, f1, f2, f3, f4, f5⟩ := A1.six
  obtain ⟨g0, g1, g2, g3, g4, g5, k0, k1, k2, k3, k4, k5⟩ := D1.six
  have m0 := M1.cell 0
  have m1 := M1.cell 1
  have m2 := M1.cell 2
  have m3 := M1.cell 3
  have m5 := M1.cell 5
  go_upto_region 4 with fail
  clear A1 M1
  have T2 := Lib.hid (D1.store6 (a' := .int .i64 l) (b' := .int .i64 r) (c' := .int .i64 e) (d' := .int .i64 n) (e' := .int .i64 p) (f' := .int .i64 d))
  have B2 := Lib.hid (b_store6 (g := w.heap.size + 1 + 1) (a := .int .i64 l) (b := .int .i64 r) (c := .int .i64 e) (d := .int .i64 n) (e := .int .i64 p) (f := .int .i64 d) hb1 (by omega))
  clear D1 hb1
  go_wp2_with fail
  exact bodyPost_ret (results_ct rfl _ _ (w.heap.size + 1 + 1) 28 (c6 ⟨l, r, e, n, p, d⟩) _ rfl T2.out Try.underlying28 rfl (by kernel_rfl)) rfl ⟨.slice none 0 0, rfl, row_nil _ _, B2.out⟩
set_option maxHeartbeats 2000000 in
theorem rrecv_old5 {l r e n p d c mf mt mn me mx now : Int} {va ba : Option Addr} {vl vc bl bc : Nat} (hz : chk ⟨l, r, e, n, p, d⟩ = c) (hc : (c != 0) = false) (h1 : (mf != r) = false) (h2 : (mt != l) = false) (h3 : 0 ≤ me) (h4 : me ≤ 1073741824) (h5 : 0 ≤ mn) (h6 : mn ≤ 1073741824) (ho : me < e) (w : World) : Calls Try.prog 18 #[S6 ⟨l, r, e, n, p, d⟩, .int .i64 now, MV ⟨5, mf, mt, mn, me⟩ mx (.slice va vl vc) (.slice ba bl bc)] w (Gave ⟨l, r, e, n, p, d⟩ [⟨7, l, r, n, e⟩] w) := by
  have HC := Lib.hid (fun w => rchk_c hz w)
  clear hz
  go_enter Try.func18, Try.ntmps18
  go_wp2_with fail
  refine (HC.out _).mono ?_
  rintro e0 w1 ⟨rfl, h1⟩
  have A1 := (((Blk.new w (c6 ⟨l, r, e, n, p, d⟩) 28).alloc (.cells (c8 ⟨5, mf, mt, mn, me⟩ mx (.slice va vl vc) (.slice ba bl bc)) 51)).alloc (.cells (c6 zS) 28)).below h1
  have M1 := ((Blk.new (w.alloc (.cells (c6 ⟨l, r, e, n, p, d⟩) 28)) (c8 ⟨5, mf, mt, mn, me⟩ mx (.slice va vl vc) (.slice ba bl bc)) 51).alloc (.cells (c6 zS) 28)).below h1
  have D1 := (Blk.new ((w.alloc (.cells (c6 ⟨l, r, e, n, p, d⟩) 28)).alloc (.cells (c8 ⟨5, mf, mt, mn, me⟩ mx (.slice va vl vc) (.slice ba bl bc)) 51)) (c6 zS) 28).below h1
  rw [World.size_alloc] at M1
  rw [World.size_alloc, World.size_alloc] at D1
  have hb1 := b_step (b_alloc (b_alloc (b_alloc (Below.refl w.heap.size w) (.cells (c6 ⟨l, r, e, n, p, d⟩) 28)) (.cells (c8 ⟨5, mf, mt, mn, me⟩ mx (.slice va vl vc) (.slice ba bl bc)) 51)) (.cells (c6 zS) 28)) h1
  have la := A1.lt
  have ld := D1.lt
  clear h1 HC
  obtain ⟨c0, c1, c2, c3, c4, c5, f0, f1, f2, f3, f4, f5⟩ := A1.six
  obtain ⟨g0, g1, g2, g3, g4, g5, k0, k1, k2, k3, k4, k5⟩ := D1.six
  have m0 := M1.cell 0
  have m1 := M1.cell 1
  have m2 := M1.cell 2
  have m3 := M1.cell 3
  have m5 := M1.cell 5
  go_upto_region 7 with fail
  generalize w1 = wq at *
  have HS := Lib.hid A1
  have HT := Lib.hid D1
  have HB := Lib.hid hb1
  clear A1 D1 hb1
  refine start_ (n := 5) (S := fun w' => w'.cell? ⟨w.heap.size, 0, none⟩ = some (.int .i64 l) ∧ w'.cell? ⟨w.heap.size, 1, none⟩ = some (.int .i64 r) ∧ w'.cell? ⟨w.heap.size, 2, none⟩ = some (.int .i64 e) ∧ w'.cell? ⟨w.heap.size, 3, none⟩ = some (.int .i64 n) ∧ w'.cell? ⟨w.heap.size, 4, none⟩ = some (.int .i64 p) ∧ w'.cell? ⟨w.heap.size, 5, none⟩ = some (.int .i64 d)) (ds := [3]) #[false, false, false, false, false] (by kernel_rfl) rfl rfl ⟨(HS.out.drew.cell 0), (HS.out.drew.cell 1), (HS.out.drew.cell 2), (HS.out.drew.cell 3), (HS.out.drew.cell 4), (HS.out.drew.cell 5)⟩ (fun hHeld => ?_)
  refine take_ (i := 0) (N := some 68) (v := ?_) (a' := ?_) #[true, false, false, false, false] rfl rfl (by kernel_rfl) (fun _ _ _ h => h) (Or.inl ⟨by rfl, ?_⟩) hHeld ?_ ?_
  rotate_left
  · rintro w' ⟨s0, s1, s2, s3, s4, s5⟩
    go_simp
    with_reducible rfl
  rotate_left
  · simp only [Act.put, List.setIfInBounds_toArray, List.set_cons_zero, List.set_cons_succ, i64_w, i32_w]
    rfl
  refine take_ (i := 1) (N := some 69) (v := ?_) (a' := ?_) #[true, true, false, false, false] rfl rfl (by kernel_rfl) (fun _ _ _ h => h) (Or.inl ⟨by rfl, ?_⟩) hHeld ?_ ?_
  rotate_left
  · rintro w' ⟨s0, s1, s2, s3, s4, s5⟩
    go_simp
    with_reducible rfl
  rotate_left
  · simp only [Act.put, List.setIfInBounds_toArray, List.set_cons_zero, List.set_cons_succ, i64_w, i32_w]
    rfl
  refine one_ (i := 2) (N := some 70) #[true, true, true, false, false] rfl rfl (by kernel_rfl) (by decide) (fun K hK => ?_)
  refine goes_ Try.func37 (by kernel_rfl) rfl #[S6 ⟨l, r, e, n, p, d⟩, .int .i64 7] (by rfl) rfl rfl (by simp only [List.map_toArray, List.map_cons, List.map_nil]; rfl) ?_
  with_reducible refine (msg_any ⟨l, r, e, n, p, d⟩ 7 _).mono ?_
  rintro e9 wz ⟨v9, he, hr, hb⟩
  subst he
  refine ⟨_, rfl, ?_⟩
  have hT2 := HT.out.drew.below hb
  have hlt := hT2.lt
  have hsz : w.heap.size + 3 ≤ wq.heap.size := HT.out.lt
  have R1 := Lib.hid ((hr.lower (base' := w.heap.size + 3) hsz))
  have R2 := Lib.hid ((R1.out.far6 (g := w.heap.size + 1 + 1) (a := .int .i64 l) (b := .int .i64 r) (c := .int .i64 e) (d := .int .i64 n) (e := .int .i64 p) (f := .int .i64 d) (by omega)).lower (base' := w.heap.size) (by omega))
  have T2 := Lib.hid (hT2.store6 (a' := .int .i64 l) (b' := .int .i64 r) (c' := .int .i64 e) (d' := .int .i64 n) (e' := .int .i64 p) (f' := .int .i64 d))
  have B2 := Lib.hid (b_store6 (g := w.heap.size + 1 + 1) (a := .int .i64 l) (b := .int .i64 r) (c := .int .i64 e) (d := .int .i64 n) (e := .int .i64 p) (f := .int .i64 d) (b_step (b_drew HB.out) hb) (by omega))
  obtain ⟨y0, y1, y2, y3, y4, y5, z0, z1, z2, z3, z4, z5⟩ := hT2.six
  clear hT2
  refine hK.out _ _ ⟨(cell_below hHeld.1 hb), (cell_below hHeld.2.1 hb), (cell_below hHeld.2.2.1 hb), (cell_below hHeld.2.2.2.1 hb), (cell_below hHeld.2.2.2.2.1 hb), (cell_below hHeld.2.2.2.2.2 hb)⟩ (fun hHeld => ?_)
  clear hK K
  refine norm_ (a' := ?_) ?_ ?_
  rotate_left
  · show Act.put _ (some 70) _ = _
    simp only [Act.put, List.setIfInBounds_toArray, List.set_cons_zero, List.set_cons_succ, i64_w, i32_w]
    rfl
  refine last_ (i := 3) (N := none) #[true, true, true, true, false] rfl rfl (by kernel_rfl) (by decide) (fun K hK => ?_)
  refine skip_ (w1 := ?_) (by rfl) rfl ?_ ?_
  rotate_left
  · go_simp
    rfl
  refine hK.out _ _ ?_
  clear hK K
  refine pure_ (i := 4) (N := some 7) (v := ?_) (a' := ?_) #[true, true, true, true, true] rfl rfl (by kernel_rfl) (fun _ _ _ h => h) (Or.inl ⟨by rfl, ?_⟩) ?_ ?_
  rotate_left
  · intro w'
    go_simp
    with_reducible rfl
  rotate_left
  · simp only [Act.put, List.setIfInBounds_toArray, List.set_cons_zero, List.set_cons_succ, i64_w, i32_w]
    rfl
  refine done_ (by kernel_rfl) ?_
  go_wp2_with fail
  exact bodyPost_ret (results_ct rfl _ _ (w.heap.size + 1 + 1) 28 (c6 ⟨l, r, e, n, p, d⟩) _ rfl T2.out Try.underlying28 rfl (by kernel_rfl)) rfl ⟨v9, rfl, R2.out, B2.out⟩
set_option maxHeartbeats 2000000 in
theorem rrecv_old6 {l r e n p d c mf mt mn me mx now : Int} {va ba : Option Addr} {vl vc bl bc : Nat} (hz : chk ⟨l, r, e, n, p, d⟩ = c) (hc : (c != 0) = false) (h1 : (mf != r) = false) (h2 : (mt != l) = false) (h3 : 0 ≤ me) (h4 : me ≤ 1073741824) (h5 : 0 ≤ mn) (h6 : mn ≤ 1073741824) (ho : me < e) (w : World) : Calls Try.prog 18 #[S6 ⟨l, r, e, n, p, d⟩, .int .i64 now, MV ⟨6, mf, mt, mn, me⟩ mx (.slice va vl vc) (.slice ba bl bc)] w (Gave ⟨l, r, e, n, p, d⟩ [] w) := by
  have HC := Lib.hid (fun w => rchk_c hz w)
  clear hz
  go_enter Try.func18, Try.ntmps18
  go_wp2_with fail
  refine (HC.out _).mono ?_
  rintro e0 w1 ⟨rfl, h1⟩
  have A1 := (((Blk.new w (c6 ⟨l, r, e, n, p, d⟩) 28).alloc (.cells (c8 ⟨6, mf, mt, mn, me⟩ mx (.slice va vl vc) (.slice ba bl bc)) 51)).alloc (.cells (c6 zS) 28)).below h1
  have M1 := ((Blk.new (w.alloc (.cells (c6 ⟨l, r, e, n, p, d⟩) 28)) (c8 ⟨6, mf, mt, mn, me⟩ mx (.slice va vl vc) (.slice ba bl bc)) 51).alloc (.cells (c6 zS) 28)).below h1
  have D1 := (Blk.new ((w.alloc (.cells (c6 ⟨l, r, e, n, p, d⟩) 28)).alloc (.cells (c8 ⟨6, mf, mt, mn, me⟩ mx (.slice va vl vc) (.slice ba bl bc)) 51)) (c6 zS) 28).below h1
  rw [World.size_alloc] at M1
  rw [World.size_alloc, World.size_alloc] at D1
  have hb1 := b_step (b_alloc (b_alloc (b_alloc (Below.refl w.heap.size w) (.cells (c6 ⟨l, r, e, n, p, d⟩) 28)) (.cells (c8 ⟨6, mf, mt, mn, me⟩ mx (.slice va vl vc) (.slice ba bl bc)) 51)) (.cells (c6 zS) 28)) h1
  have la := A1.lt
  have ld := D1.lt
  clear h1 HC
  obtain ⟨c0, c1, c2, c3, c4, c5, f0, f1, f2, f3, f4, f5⟩ := A1.six
  obtain ⟨g0, g1, g2, g3, g4, g5, k0, k1, k2, k3, k4, k5⟩ := D1.six
  have m0 := M1.cell 0
  have m1 := M1.cell 1
  have m2 := M1.cell 2
  have m3 := M1.cell 3
  have m5 := M1.cell 5
  go_upto_region 8 with fail
  clear A1 M1
  have T2 := Lib.hid (D1.store6 (a' := .int .i64 l) (b' := .int .i64 r) (c' := .int .i64 e) (d' := .int .i64 n) (e' := .int .i64 p) (f' := .int .i64 d))
  have B2 := Lib.hid (b_store6 (g := w.heap.size + 1 + 1) (a := .int .i64 l) (b := .int .i64 r) (c := .int .i64 e) (d := .int .i64 n) (e := .int .i64 p) (f := .int .i64 d) hb1 (by omega))
  clear D1 hb1
  go_wp2_with fail
  exact bodyPost_ret (results_ct rfl _ _ (w.heap.size + 1 + 1) 28 (c6 ⟨l, r, e, n, p, d⟩) _ rfl T2.out Try.underlying28 rfl (by kernel_rfl)) rfl ⟨.slice none 0 0, rfl, row_nil _ _, B2.out⟩
set_option maxHeartbeats 2000000 in
theorem rrecv_old7 {l r e n p d c mf mt mn me mx now : Int} {va ba : Option Addr} {vl vc bl bc : Nat} (hz : chk ⟨l, r, e, n, p, d⟩ = c) (hc : (c != 0) = false) (h1 : (mf != r) = false) (h2 : (mt != l) = false) (h3 : 0 ≤ me) (h4 : me ≤ 1073741824) (h5 : 0 ≤ mn) (h6 : mn ≤ 1073741824) (ho : me < e) (w : World) : Calls Try.prog 18 #[S6 ⟨l, r, e, n, p, d⟩, .int .i64 now, MV ⟨7, mf, mt, mn, me⟩ mx (.slice va vl vc) (.slice ba bl bc)] w (Gave ⟨l, r, e, n, p, d⟩ [] w) := by
  have HC := Lib.hid (fun w => rchk_c hz w)
  clear hz
  go_enter Try.func18, Try.ntmps18
  go_wp2_with fail
  refine (HC.out _).mono ?_
  rintro e0 w1 ⟨rfl, h1⟩
  have A1 := (((Blk.new w (c6 ⟨l, r, e, n, p, d⟩) 28).alloc (.cells (c8 ⟨7, mf, mt, mn, me⟩ mx (.slice va vl vc) (.slice ba bl bc)) 51)).alloc (.cells (c6 zS) 28)).below h1
  have M1 := ((Blk.new (w.alloc (.cells (c6 ⟨l, r, e, n, p, d⟩) 28)) (c8 ⟨7, mf, mt, mn, me⟩ mx (.slice va vl vc) (.slice ba bl bc)) 51).alloc (.cells (c6 zS) 28)).below h1
  have D1 := (Blk.new ((w.alloc (.cells (c6 ⟨l, r, e, n, p, d⟩) 28)).alloc (.cells (c8 ⟨7, mf, mt, mn, me⟩ mx (.slice va vl vc) (.slice ba bl bc)) 51)) (c6 zS) 28).below h1
  rw [World.size_alloc] at M1
  rw [World.size_alloc, World.size_alloc] at D1
  have hb1 := b_step (b_alloc (b_alloc (b_alloc (Below.refl w.heap.size w) (.cells (c6 ⟨l, r, e, n, p, d⟩) 28)) (.cells (c8 ⟨7, mf, mt, mn, me⟩ mx (.slice va vl vc) (.slice ba bl bc)) 51)) (.cells (c6 zS) 28)) h1
  have la := A1.lt
  have ld := D1.lt
  clear h1 HC
  obtain ⟨c0, c1, c2, c3, c4, c5, f0, f1, f2, f3, f4, f5⟩ := A1.six
  obtain ⟨g0, g1, g2, g3, g4, g5, k0, k1, k2, k3, k4, k5⟩ := D1.six
  have m0 := M1.cell 0
  have m1 := M1.cell 1
  have m2 := M1.cell 2
  have m3 := M1.cell 3
  have m5 := M1.cell 5
  go_upto_region 8 with fail
  clear A1 M1
  have T2 := Lib.hid (D1.store6 (a' := .int .i64 l) (b' := .int .i64 r) (c' := .int .i64 e) (d' := .int .i64 n) (e' := .int .i64 p) (f' := .int .i64 d))
  have B2 := Lib.hid (b_store6 (g := w.heap.size + 1 + 1) (a := .int .i64 l) (b := .int .i64 r) (c := .int .i64 e) (d := .int .i64 n) (e := .int .i64 p) (f := .int .i64 d) hb1 (by omega))
  clear D1 hb1
  go_wp2_with fail
  exact bodyPost_ret (results_ct rfl _ _ (w.heap.size + 1 + 1) 28 (c6 ⟨l, r, e, n, p, d⟩) _ rfl T2.out Try.underlying28 rfl (by kernel_rfl)) rfl ⟨.slice none 0 0, rfl, row_nil _ _, B2.out⟩
set_option maxHeartbeats 2000000 in
theorem rrecv_eq5a {l r e n p d c mf mt mn mx now : Int} {va ba : Option Addr} {vl vc bl bc : Nat} (hz : chk ⟨l, r, e, n, p, d⟩ = c) (hc : (c != 0) = false) (h1 : (mf != r) = false) (h2 : (mt != l) = false) (h3 : 0 ≤ e) (h4 : e ≤ 1073741824) (h5 : 0 ≤ mn) (h6 : mn ≤ 1073741824) (hq : mn < n) (hp : (p == 0) = false) (hp' : (p != 0) = true) (w : World) : Calls Try.prog 18 #[S6 ⟨l, r, e, n, p, d⟩, .int .i64 now, MV ⟨5, mf, mt, mn, e⟩ mx (.slice va vl vc) (.slice ba bl bc)] w (Gave ⟨l, r, e, n, p, d⟩ [] w) := by
  have HC := Lib.hid (fun w => rchk_c hz w)
  clear hz
  go_enter Try.func18, Try.ntmps18
  go_wp2_with fail
  refine (HC.out _).mono ?_
  rintro e0 w1 ⟨rfl, h1⟩
  have A1 := (((Blk.new w (c6 ⟨l, r, e, n, p, d⟩) 28).alloc (.cells (c8 ⟨5, mf, mt, mn, e⟩ mx (.slice va vl vc) (.slice ba bl bc)) 51)).alloc (.cells (c6 zS) 28)).below h1
  have M1 := ((Blk.new (w.alloc (.cells (c6 ⟨l, r, e, n, p, d⟩) 28)) (c8 ⟨5, mf, mt, mn, e⟩ mx (.slice va vl vc) (.slice ba bl bc)) 51).alloc (.cells (c6 zS) 28)).below h1
  have D1 := (Blk.new ((w.alloc (.cells (c6 ⟨l, r, e, n, p, d⟩) 28)).alloc (.cells (c8 ⟨5, mf, mt, mn, e⟩ mx (.slice va vl vc) (.slice ba bl bc)) 51)) (c6 zS) 28).below h1
  rw [World.size_alloc] at M1
  rw [World.size_alloc, World.size_alloc] at D1
  have hb1 := b_step (b_alloc (b_alloc (b_alloc (Below.refl w.heap.size w) (.cells (c6 ⟨l, r, e, n, p, d⟩) 28)) (.cells (c8 ⟨5, mf, mt, mn, e⟩ mx (.slice va vl vc) (.slice ba bl bc)) 51)) (.cells (c6 zS) 28)) h1
  have la := A1.lt
  have ld := D1.lt
  clear h1 HC
  obtain ⟨c0, c1, c2, c3, c4, c5, f0, f1, f2, f3, f4, f5⟩ := A1.six
  obtain ⟨g0, g1, g2, g3, g4, g5, k0, k1, k2, k3, k4, k5⟩ := D1.six
  have m0 := M1.cell 0
  have m1 := M1.cell 1
  have m2 := M1.cell 2
  have m3 := M1.cell 3
  have m5 := M1.cell 5
  have A3 := A1
  have M3 := M1
  have D3 := D1
  have hb3 := hb1
  clear A1 M1 D1 hb1
  go_upto_region 15 with fail
  clear A3 M3
  have T2 := Lib.hid (D3.store6 (a' := .int .i64 l) (b' := .int .i64 r) (c' := .int .i64 e) (d' := .int .i64 n) (e' := .int .i64 p) (f' := .int .i64 d))
  have B2 := Lib.hid (b_store6 (g := w.heap.size + 1 + 1) (a := .int .i64 l) (b := .int .i64 r) (c := .int .i64 e) (d := .int .i64 n) (e := .int .i64 p) (f := .int .i64 d) hb3 (by omega))
  clear D3 hb3
  go_wp2_with fail
  exact bodyPost_ret (results_ct rfl _ _ (w.heap.size + 1 + 1) 28 (c6 ⟨l, r, e, n, p, d⟩) _ rfl T2.out Try.underlying28 rfl (by kernel_rfl)) rfl ⟨.slice none 0 0, rfl, row_nil _ _, B2.out⟩
set_option maxHeartbeats 2000000 in
theorem rrecv_eq5b {l r e n p d c mf mt mn mx now : Int} {va ba : Option Addr} {vl vc bl bc : Nat} (hz : chk ⟨l, r, e, n, p, d⟩ = c) (hc : (c != 0) = false) (h1 : (mf != r) = false) (h2 : (mt != l) = false) (h3 : 0 ≤ e) (h4 : e ≤ 1073741824) (h5 : 0 ≤ mn) (h6 : mn ≤ 1073741824) (hq : mn < n) (hp : (p == 0) = true) (hp' : (p != 0) = false) (w : World) : Calls Try.prog 18 #[S6 ⟨l, r, e, n, p, d⟩, .int .i64 now, MV ⟨5, mf, mt, mn, e⟩ mx (.slice va vl vc) (.slice ba bl bc)] w (Gave ⟨l, r, e, n, p, d⟩ [⟨7, l, r, n, e⟩] w) := by
  have HC := Lib.hid (fun w => rchk_c hz w)
  clear hz
  go_enter Try.func18, Try.ntmps18
  go_wp2_with fail
  refine (HC.out _).mono ?_
  rintro e0 w1 ⟨rfl, h1⟩
  have A1 := (((Blk.new w (c6 ⟨l, r, e, n, p, d⟩) 28).alloc (.cells (c8 ⟨5, mf, mt, mn, e⟩ mx (.slice va vl vc) (.slice ba bl bc)) 51)).alloc (.cells (c6 zS) 28)).below h1
  have M1 := ((Blk.new (w.alloc (.cells (c6 ⟨l, r, e, n, p, d⟩) 28)) (c8 ⟨5, mf, mt, mn, e⟩ mx (.slice va vl vc) (.slice ba bl bc)) 51).alloc (.cells (c6 zS) 28)).below h1
  have D1 := (Blk.new ((w.alloc (.cells (c6 ⟨l, r, e, n, p, d⟩) 28)).alloc (.cells (c8 ⟨5, mf, mt, mn, e⟩ mx (.slice va vl vc) (.slice ba bl bc)) 51)) (c6 zS) 28).below h1
  rw [World.size_alloc] at M1
  rw [World.size_alloc, World.size_alloc] at D1
  have hb1 := b_step (b_alloc (b_alloc (b_alloc (Below.refl w.heap.size w) (.cells (c6 ⟨l, r, e, n, p, d⟩) 28)) (.cells (c8 ⟨5, mf, mt, mn, e⟩ mx (.slice va vl vc) (.slice ba bl bc)) 51)) (.cells (c6 zS) 28)) h1
  have la := A1.lt
  have ld := D1.lt
  clear h1 HC
  obtain ⟨c0, c1, c2, c3, c4, c5, f0, f1, f2, f3, f4, f5⟩ := A1.six
  obtain ⟨g0, g1, g2, g3, g4, g5, k0, k1, k2, k3, k4, k5⟩ := D1.six
  have m0 := M1.cell 0
  have m1 := M1.cell 1
  have m2 := M1.cell 2
  have m3 := M1.cell 3
  have m5 := M1.cell 5
  have A3 := A1
  have M3 := M1
  have D3 := D1
  have hb3 := hb1
  clear A1 M1 D1 hb1
  go_upto_region 17 with fail
  generalize w1 = wq at *
  have HS := Lib.hid A3
  have HT := Lib.hid D3
  have HB := Lib.hid hb3
  clear A3 D3 hb3
  refine start_ (n := 5) (S := fun w' => w'.cell? ⟨w.heap.size, 0, none⟩ = some (.int .i64 l) ∧ w'.cell? ⟨w.heap.size, 1, none⟩ = some (.int .i64 r) ∧ w'.cell? ⟨w.heap.size, 2, none⟩ = some (.int .i64 e) ∧ w'.cell? ⟨w.heap.size, 3, none⟩ = some (.int .i64 n) ∧ w'.cell? ⟨w.heap.size, 4, none⟩ = some (.int .i64 p) ∧ w'.cell? ⟨w.heap.size, 5, none⟩ = some (.int .i64 d)) (ds := [3]) #[false, false, false, false, false] (by kernel_rfl) rfl rfl ⟨(HS.out.drew.cell 0), (HS.out.drew.cell 1), (HS.out.drew.cell 2), (HS.out.drew.cell 3), (HS.out.drew.cell 4), (HS.out.drew.cell 5)⟩ (fun hHeld => ?_)
  refine take_ (i := 0) (N := some 107) (v := ?_) (a' := ?_) #[true, false, false, false, false] rfl rfl (by kernel_rfl) (fun _ _ _ h => h) (Or.inl ⟨by rfl, ?_⟩) hHeld ?_ ?_
  rotate_left
  · rintro w' ⟨s0, s1, s2, s3, s4, s5⟩
    go_simp
    with_reducible rfl
  rotate_left
  · simp only [Act.put, List.setIfInBounds_toArray, List.set_cons_zero, List.set_cons_succ, i64_w, i32_w]
    rfl
  refine take_ (i := 1) (N := some 108) (v := ?_) (a' := ?_) #[true, true, false, false, false] rfl rfl (by kernel_rfl) (fun _ _ _ h => h) (Or.inl ⟨by rfl, ?_⟩) hHeld ?_ ?_
  rotate_left
  · rintro w' ⟨s0, s1, s2, s3, s4, s5⟩
    go_simp
    with_reducible rfl
  rotate_left
  · simp only [Act.put, List.setIfInBounds_toArray, List.set_cons_zero, List.set_cons_succ, i64_w, i32_w]
    rfl
  refine one_ (i := 2) (N := some 109) #[true, true, true, false, false] rfl rfl (by kernel_rfl) (by decide) (fun K hK => ?_)
  refine goes_ Try.func37 (by kernel_rfl) rfl #[S6 ⟨l, r, e, n, p, d⟩, .int .i64 7] (by rfl) rfl rfl (by simp only [List.map_toArray, List.map_cons, List.map_nil]; rfl) ?_
  with_reducible refine (msg_any ⟨l, r, e, n, p, d⟩ 7 _).mono ?_
  rintro e9 wz ⟨v9, he, hr, hb⟩
  subst he
  refine ⟨_, rfl, ?_⟩
  have hT2 := HT.out.drew.below hb
  have hlt := hT2.lt
  have hsz : w.heap.size + 3 ≤ wq.heap.size := HT.out.lt
  have R1 := Lib.hid ((hr.lower (base' := w.heap.size + 3) hsz))
  have R2 := Lib.hid ((R1.out.far6 (g := w.heap.size + 1 + 1) (a := .int .i64 l) (b := .int .i64 r) (c := .int .i64 e) (d := .int .i64 n) (e := .int .i64 p) (f := .int .i64 d) (by omega)).lower (base' := w.heap.size) (by omega))
  have T2 := Lib.hid (hT2.store6 (a' := .int .i64 l) (b' := .int .i64 r) (c' := .int .i64 e) (d' := .int .i64 n) (e' := .int .i64 p) (f' := .int .i64 d))
  have B2 := Lib.hid (b_store6 (g := w.heap.size + 1 + 1) (a := .int .i64 l) (b := .int .i64 r) (c := .int .i64 e) (d := .int .i64 n) (e := .int .i64 p) (f := .int .i64 d) (b_step (b_drew HB.out) hb) (by omega))
  obtain ⟨y0, y1, y2, y3, y4, y5, z0, z1, z2, z3, z4, z5⟩ := hT2.six
  clear hT2
  refine hK.out _ _ ⟨(cell_below hHeld.1 hb), (cell_below hHeld.2.1 hb), (cell_below hHeld.2.2.1 hb), (cell_below hHeld.2.2.2.1 hb), (cell_below hHeld.2.2.2.2.1 hb), (cell_below hHeld.2.2.2.2.2 hb)⟩ (fun hHeld => ?_)
  clear hK K
  refine norm_ (a' := ?_) ?_ ?_
  rotate_left
  · show Act.put _ (some 109) _ = _
    simp only [Act.put, List.setIfInBounds_toArray, List.set_cons_zero, List.set_cons_succ, i64_w, i32_w]
    rfl
  refine last_ (i := 3) (N := none) #[true, true, true, true, false] rfl rfl (by kernel_rfl) (by decide) (fun K hK => ?_)
  refine skip_ (w1 := ?_) (by rfl) rfl ?_ ?_
  rotate_left
  · go_simp
    rfl
  refine hK.out _ _ ?_
  clear hK K
  refine pure_ (i := 4) (N := some 7) (v := ?_) (a' := ?_) #[true, true, true, true, true] rfl rfl (by kernel_rfl) (fun _ _ _ h => h) (Or.inl ⟨by rfl, ?_⟩) ?_ ?_
  rotate_left
  · intro w'
    go_simp
    with_reducible rfl
  rotate_left
  · simp only [Act.put, List.setIfInBounds_toArray, List.set_cons_zero, List.set_cons_succ, i64_w, i32_w]
    rfl
  refine done_ (by kernel_rfl) ?_
  go_wp2_with fail
  exact bodyPost_ret (results_ct rfl _ _ (w.heap.size + 1 + 1) 28 (c6 ⟨l, r, e, n, p, d⟩) _ rfl T2.out Try.underlying28 rfl (by kernel_rfl)) rfl ⟨v9, rfl, R2.out, B2.out⟩
set_option maxHeartbeats 2000000 in
theorem rrecv_eq5e {l r e n p d c mf mt mx now : Int} {va ba : Option Addr} {vl vc bl bc : Nat} (hz : chk ⟨l, r, e, n, p, d⟩ = c) (hc : (c != 0) = false) (h1 : (mf != r) = false) (h2 : (mt != l) = false) (h3 : 0 ≤ e) (h4 : e ≤ 1073741824) (h5 : 0 ≤ n) (h6 : n ≤ 1073741824) (hp : (p == 0) = true) (hp' : (p != 0) = false) (w : World) : Calls Try.prog 18 #[S6 ⟨l, r, e, n, p, d⟩, .int .i64 now, MV ⟨5, mf, mt, n, e⟩ mx (.slice va vl vc) (.slice ba bl bc)] w (Gave ⟨l, r, e, n, p, d⟩ [⟨7, l, r, n, e⟩] w) := by
  have HC := Lib.hid (fun w => rchk_c hz w)
  clear hz
  go_enter Try.func18, Try.ntmps18
  go_wp2_with fail
  refine (HC.out _).mono ?_
  rintro e0 w1 ⟨rfl, h1⟩
  have A1 := (((Blk.new w (c6 ⟨l, r, e, n, p, d⟩) 28).alloc (.cells (c8 ⟨5, mf, mt, n, e⟩ mx (.slice va vl vc) (.slice ba bl bc)) 51)).alloc (.cells (c6 zS) 28)).below h1
  have M1 := ((Blk.new (w.alloc (.cells (c6 ⟨l, r, e, n, p, d⟩) 28)) (c8 ⟨5, mf, mt, n, e⟩ mx (.slice va vl vc) (.slice ba bl bc)) 51).alloc (.cells (c6 zS) 28)).below h1
  have D1 := (Blk.new ((w.alloc (.cells (c6 ⟨l, r, e, n, p, d⟩) 28)).alloc (.cells (c8 ⟨5, mf, mt, n, e⟩ mx (.slice va vl vc) (.slice ba bl bc)) 51)) (c6 zS) 28).below h1
  rw [World.size_alloc] at M1
  rw [World.size_alloc, World.size_alloc] at D1
  have hb1 := b_step (b_alloc (b_alloc (b_alloc (Below.refl w.heap.size w) (.cells (c6 ⟨l, r, e, n, p, d⟩) 28)) (.cells (c8 ⟨5, mf, mt, n, e⟩ mx (.slice va vl vc) (.slice ba bl bc)) 51)) (.cells (c6 zS) 28)) h1
  have la := A1.lt
  have ld := D1.lt
  clear h1 HC
  obtain ⟨c0, c1, c2, c3, c4, c5, f0, f1, f2, f3, f4, f5⟩ := A1.six
  obtain ⟨g0, g1, g2, g3, g4, g5, k0, k1, k2, k3, k4, k5⟩ := D1.six
  have m0 := M1.cell 0
  have m1 := M1.cell 1
  have m2 := M1.cell 2
  have m3 := M1.cell 3
  have m5 := M1.cell 5
  have A3 := A1
  have M3 := M1
  have D3 := D1
  have hb3 := hb1
  clear A1 M1 D1 hb1
  go_upto_region 17 with fail
  generalize w1 = wq at *
  have HS := Lib.hid A3
  have HT := Lib.hid D3
  have HB := Lib.hid hb3
  clear A3 D3 hb3
  refine start_ (n := 5) (S := fun w' => w'.cell? ⟨w.heap.size, 0, none⟩ = some (.int .i64 l) ∧ w'.cell? ⟨w.heap.size, 1, none⟩ = some (.int .i64 r) ∧ w'.cell? ⟨w.heap.size, 2, none⟩ = some (.int .i64 e) ∧ w'.cell? ⟨w.heap.size, 3, none⟩ = some (.int .i64 n) ∧ w'.cell? ⟨w.heap.size, 4, none⟩ = some (.int .i64 p) ∧ w'.cell? ⟨w.heap.size, 5, none⟩ = some (.int .i64 d)) (ds := [3]) #[false, false, false, false, false] (by kernel_rfl) rfl rfl ⟨(HS.out.drew.cell 0), (HS.out.drew.cell 1), (HS.out.drew.cell 2), (HS.out.drew.cell 3), (HS.out.drew.cell 4), (HS.out.drew.cell 5)⟩ (fun hHeld => ?_)
  refine take_ (i := 0) (N := some 107) (v := ?_) (a' := ?_) #[true, false, false, false, false] rfl rfl (by kernel_rfl) (fun _ _ _ h => h) (Or.inl ⟨by rfl, ?_⟩) hHeld ?_ ?_
  rotate_left
  · rintro w' ⟨s0, s1, s2, s3, s4, s5⟩
    go_simp
    with_reducible rfl
  rotate_left
  · simp only [Act.put, List.setIfInBounds_toArray, List.set_cons_zero, List.set_cons_succ, i64_w, i32_w]
    rfl
  refine take_ (i := 1) (N := some 108) (v := ?_) (a' := ?_) #[true, true, false, false, false] rfl rfl (by kernel_rfl) (fun _ _ _ h => h) (Or.inl ⟨by rfl, ?_⟩) hHeld ?_ ?_
  rotate_left
  · rintro w' ⟨s0, s1, s2, s3, s4, s5⟩
    go_simp
    with_reducible rfl
  rotate_left
  · simp only [Act.put, List.setIfInBounds_toArray, List.set_cons_zero, List.set_cons_succ, i64_w, i32_w]
    rfl
  refine one_ (i := 2) (N := some 109) #[true, true, true, false, false] rfl rfl (by kernel_rfl) (by decide) (fun K hK => ?_)
  refine goes_ Try.func37 (by kernel_rfl) rfl #[S6 ⟨l, r, e, n, p, d⟩, .int .i64 7] (by rfl) rfl rfl (by simp only [List.map_toArray, List.map_cons, List.map_nil]; rfl) ?_
  with_reducible refine (msg_any ⟨l, r, e, n, p, d⟩ 7 _).mono ?_
  rintro e9 wz ⟨v9, he, hr, hb⟩
  subst he
  refine ⟨_, rfl, ?_⟩
  have hT2 := HT.out.drew.below hb
  have hlt := hT2.lt
  have hsz : w.heap.size + 3 ≤ wq.heap.size := HT.out.lt
  have R1 := Lib.hid ((hr.lower (base' := w.heap.size + 3) hsz))
  have R2 := Lib.hid ((R1.out.far6 (g := w.heap.size + 1 + 1) (a := .int .i64 l) (b := .int .i64 r) (c := .int .i64 e) (d := .int .i64 n) (e := .int .i64 p) (f := .int .i64 d) (by omega)).lower (base' := w.heap.size) (by omega))
  have T2 := Lib.hid (hT2.store6 (a' := .int .i64 l) (b' := .int .i64 r) (c' := .int .i64 e) (d' := .int .i64 n) (e' := .int .i64 p) (f' := .int .i64 d))
  have B2 := Lib.hid (b_store6 (g := w.heap.size + 1 + 1) (a := .int .i64 l) (b := .int .i64 r) (c := .int .i64 e) (d := .int .i64 n) (e := .int .i64 p) (f := .int .i64 d) (b_step (b_drew HB.out) hb) (by omega))
  obtain ⟨y0, y1, y2, y3, y4, y5, z0, z1, z2, z3, z4, z5⟩ := hT2.six
  clear hT2
  refine hK.out _ _ ⟨(cell_below hHeld.1 hb), (cell_below hHeld.2.1 hb), (cell_below hHeld.2.2.1 hb), (cell_below hHeld.2.2.2.1 hb), (cell_below hHeld.2.2.2.2.1 hb), (cell_below hHeld.2.2.2.2.2 hb)⟩ (fun hHeld => ?_)
  clear hK K
  refine norm_ (a' := ?_) ?_ ?_
  rotate_left
  · show Act.put _ (some 109) _ = _
    simp only [Act.put, List.setIfInBounds_toArray, List.set_cons_zero, List.set_cons_succ, i64_w, i32_w]
    rfl
  refine last_ (i := 3) (N := none) #[true, true, true, true, false] rfl rfl (by kernel_rfl) (by decide) (fun K hK => ?_)
  refine skip_ (w1 := ?_) (by rfl) rfl ?_ ?_
  rotate_left
  · go_simp
    rfl
  refine hK.out _ _ ?_
  clear hK K
  refine pure_ (i := 4) (N := some 7) (v := ?_) (a' := ?_) #[true, true, true, true, true] rfl rfl (by kernel_rfl) (fun _ _ _ h => h) (Or.inl ⟨by rfl, ?_⟩) ?_ ?_
  rotate_left
  · intro w'
    go_simp
    with_reducible rfl
  rotate_left
  · simp only [Act.put, List.setIfInBounds_toArray, List.set_cons_zero, List.set_cons_succ, i64_w, i32_w]
    rfl
  refine done_ (by kernel_rfl) ?_
  go_wp2_with fail
  exact bodyPost_ret (results_ct rfl _ _ (w.heap.size + 1 + 1) 28 (c6 ⟨l, r, e, n, p, d⟩) _ rfl T2.out Try.underlying28 rfl (by kernel_rfl)) rfl ⟨v9, rfl, R2.out, B2.out⟩
set_option maxHeartbeats 2000000 in
theorem rrecv_eq5c {l r e n p d c mf mt mn mx now : Int} {va ba : Option Addr} {vl vc bl bc : Nat} (hz : chk ⟨l, r, e, n, p, d⟩ = c) (hc : (c != 0) = false) (h1 : (mf != r) = false) (h2 : (mt != l) = false) (h3 : 0 ≤ e) (h4 : e ≤ 1073741824) (h5 : 0 ≤ mn) (h6 : mn ≤ 1073741824) (hq : n < mn) (w : World) : Calls Try.prog 18 #[S6 ⟨l, r, e, n, p, d⟩, .int .i64 now, MV ⟨5, mf, mt, mn, e⟩ mx (.slice va vl vc) (.slice ba bl bc)] w (Gave ⟨l, r, e, mn, 2, 0⟩ [⟨6, l, r, mn, e⟩] w) := by
  have HC := Lib.hid (fun w => rchk_c hz w)
  clear hz
  go_enter Try.func18, Try.ntmps18
  go_wp2_with fail
  refine (HC.out _).mono ?_
  rintro e0 w1 ⟨rfl, h1⟩
  have A1 := (((Blk.new w (c6 ⟨l, r, e, n, p, d⟩) 28).alloc (.cells (c8 ⟨5, mf, mt, mn, e⟩ mx (.slice va vl vc) (.slice ba bl bc)) 51)).alloc (.cells (c6 zS) 28)).below h1
  have M1 := ((Blk.new (w.alloc (.cells (c6 ⟨l, r, e, n, p, d⟩) 28)) (c8 ⟨5, mf, mt, mn, e⟩ mx (.slice va vl vc) (.slice ba bl bc)) 51).alloc (.cells (c6 zS) 28)).below h1
  have D1 := (Blk.new ((w.alloc (.cells (c6 ⟨l, r, e, n, p, d⟩) 28)).alloc (.cells (c8 ⟨5, mf, mt, mn, e⟩ mx (.slice va vl vc) (.slice ba bl bc)) 51)) (c6 zS) 28).below h1
  rw [World.size_alloc] at M1
  rw [World.size_alloc, World.size_alloc] at D1
  have hb1 := b_step (b_alloc (b_alloc (b_alloc (Below.refl w.heap.size w) (.cells (c6 ⟨l, r, e, n, p, d⟩) 28)) (.cells (c8 ⟨5, mf, mt, mn, e⟩ mx (.slice va vl vc) (.slice ba bl bc)) 51)) (.cells (c6 zS) 28)) h1
  have la := A1.lt
  have ld := D1.lt
  clear h1 HC
  obtain ⟨c0, c1, c2, c3, c4, c5, f0, f1, f2, f3, f4, f5⟩ := A1.six
  obtain ⟨g0, g1, g2, g3, g4, g5, k0, k1, k2, k3, k4, k5⟩ := D1.six
  have m0 := M1.cell 0
  have m1 := M1.cell 1
  have m2 := M1.cell 2
  have m3 := M1.cell 3
  have m5 := M1.cell 5
  have A3 := A1
  have M3 := M1
  have D3 := D1
  have hb3 := hb1
  clear A1 M1 D1 hb1
  go_wp2_with fail
  refine (phase_any ⟨l, r, e, mn, p, d⟩ 2 _).mono ?_
  rintro e6 w9 ⟨rfl, h9⟩
  have A4 := (A3.set 3 (.int .i64 mn)).below h9
  have D4 := (D3.far (p := ⟨w.heap.size, 3, none⟩) (by show w.heap.size + 1 + 1 ≠ w.heap.size; omega) (.int .i64 mn)).below h9
  have hb4 := b_step (b_set (g := w.heap.size) (j := 3) (v := .int .i64 mn) hb3 (Nat.le_refl _)) h9
  replace A4 : Blk w9 w.heap.size #[.int .i64 l, .int .i64 r, .int .i64 e, .int .i64 mn, .int .i64 p, .int .i64 d] 28 := A4
  have la4 := A4.lt
  clear A3 M3 D3 hb3 h9 c0 f0 g0 k0 c1 f1 g1 k1 c2 f2 g2 k2 c3 f3 g3 k3 c4 f4 g4 k4 c5 f5 g5 k5 m0 m1 m2 m3 m5
  obtain ⟨c0, c1, c2, c3, c4, c5, f0, f1, f2, f3, f4, f5⟩ := A4.six
  have A5 := A4.store6 (a' := .int .i64 l) (b' := .int .i64 r) (c' := .int .i64 e) (d' := .int .i64 mn) (e' := .int .i64 2) (f' := .int .i64 0)
  have D5 := D4.far6 (g' := w.heap.size) (a := .int .i64 l) (b := .int .i64 r) (c := .int .i64 e) (d := .int .i64 mn) (e := .int .i64 2) (f := .int .i64 0) (by omega)
  have hb5 := b_store6 (g := w.heap.size) (a := .int .i64 l) (b := .int .i64 r) (c := .int .i64 e) (d := .int .i64 mn) (e := .int .i64 2) (f := .int .i64 0) hb4 (Nat.le_refl _)
  clear A4 D4 hb4
  go_upto_region 20 with fail
  clear c0 f0 c1 f1 c2 f2 c3 f3 c4 f4 c5 f5
  generalize ((((((w9.setCell ⟨w.heap.size, 0, none⟩ (.int .i64 l)).setCell ⟨w.heap.size, 1, none⟩ (.int .i64 r)).setCell ⟨w.heap.size, 2, none⟩ (.int .i64 e)).setCell ⟨w.heap.size, 3, none⟩ (.int .i64 mn)).setCell ⟨w.heap.size, 4, none⟩ (.int .i64 2)).setCell ⟨w.heap.size, 5, none⟩ (.int .i64 0)) = wq at *
  have HS := Lib.hid A5
  have HT := Lib.hid D5
  have HB := Lib.hid hb5
  clear A5 D5 hb5
  refine start_ (n := 5) (S := fun w' => w'.cell? ⟨w.heap.size, 0, none⟩ = some (.int .i64 l) ∧ w'.cell? ⟨w.heap.size, 1, none⟩ = some (.int .i64 r) ∧ w'.cell? ⟨w.heap.size, 2, none⟩ = some (.int .i64 e) ∧ w'.cell? ⟨w.heap.size, 3, none⟩ = some (.int .i64 mn) ∧ w'.cell? ⟨w.heap.size, 4, none⟩ = some (.int .i64 2) ∧ w'.cell? ⟨w.heap.size, 5, none⟩ = some (.int .i64 0)) (ds := [3]) #[false, false, false, false, false] (by kernel_rfl) rfl rfl ⟨(HS.out.drew.cell 0), (HS.out.drew.cell 1), (HS.out.drew.cell 2), (HS.out.drew.cell 3), (HS.out.drew.cell 4), (HS.out.drew.cell 5)⟩ (fun hHeld => ?_)
  refine take_ (i := 0) (N := some 115) (v := ?_) (a' := ?_) #[true, false, false, false, false] rfl rfl (by kernel_rfl) (fun _ _ _ h => h) (Or.inl ⟨by rfl, ?_⟩) hHeld ?_ ?_
  rotate_left
  · rintro w' ⟨s0, s1, s2, s3, s4, s5⟩
    go_simp
    with_reducible rfl
  rotate_left
  · simp only [Act.put, List.setIfInBounds_toArray, List.set_cons_zero, List.set_cons_succ, i64_w, i32_w]
    rfl
  refine take_ (i := 1) (N := some 116) (v := ?_) (a' := ?_) #[true, true, false, false, false] rfl rfl (by kernel_rfl) (fun _ _ _ h => h) (Or.inl ⟨by rfl, ?_⟩) hHeld ?_ ?_
  rotate_left
  · rintro w' ⟨s0, s1, s2, s3, s4, s5⟩
    go_simp
    with_reducible rfl
  rotate_left
  · simp only [Act.put, List.setIfInBounds_toArray, List.set_cons_zero, List.set_cons_succ, i64_w, i32_w]
    rfl
  refine one_ (i := 2) (N := some 117) #[true, true, true, false, false] rfl rfl (by kernel_rfl) (by decide) (fun K hK => ?_)
  refine goes_ Try.func37 (by kernel_rfl) rfl #[S6 ⟨l, r, e, mn, 2, 0⟩, .int .i64 6] (by rfl) rfl rfl (by simp only [List.map_toArray, List.map_cons, List.map_nil]; rfl) ?_
  with_reducible refine (msg_any ⟨l, r, e, mn, 2, 0⟩ 6 _).mono ?_
  rintro e9 wz ⟨v9, he, hr, hb⟩
  subst he
  refine ⟨_, rfl, ?_⟩
  have hT2 := HT.out.drew.below hb
  have hlt := hT2.lt
  have hsz : w.heap.size + 3 ≤ wq.heap.size := HT.out.lt
  have R1 := Lib.hid ((hr.lower (base' := w.heap.size + 3) hsz))
  have R2 := Lib.hid ((R1.out.far6 (g := w.heap.size + 1 + 1) (a := .int .i64 l) (b := .int .i64 r) (c := .int .i64 e) (d := .int .i64 mn) (e := .int .i64 2) (f := .int .i64 0) (by omega)).lower (base' := w.heap.size) (by omega))
  have T2 := Lib.hid (hT2.store6 (a' := .int .i64 l) (b' := .int .i64 r) (c' := .int .i64 e) (d' := .int .i64 mn) (e' := .int .i64 2) (f' := .int .i64 0))
  have B2 := Lib.hid (b_store6 (g := w.heap.size + 1 + 1) (a := .int .i64 l) (b := .int .i64 r) (c := .int .i64 e) (d := .int .i64 mn) (e := .int .i64 2) (f := .int .i64 0) (b_step (b_drew HB.out) hb) (by omega))
  obtain ⟨y0, y1, y2, y3, y4, y5, z0, z1, z2, z3, z4, z5⟩ := hT2.six
  clear hT2
  refine hK.out _ _ ⟨(cell_below hHeld.1 hb), (cell_below hHeld.2.1 hb), (cell_below hHeld.2.2.1 hb), (cell_below hHeld.2.2.2.1 hb), (cell_below hHeld.2.2.2.2.1 hb), (cell_below hHeld.2.2.2.2.2 hb)⟩ (fun hHeld => ?_)
  clear hK K
  refine norm_ (a' := ?_) ?_ ?_
  rotate_left
  · show Act.put _ (some 117) _ = _
    simp only [Act.put, List.setIfInBounds_toArray, List.set_cons_zero, List.set_cons_succ, i64_w, i32_w]
    rfl
  refine last_ (i := 3) (N := none) #[true, true, true, true, false] rfl rfl (by kernel_rfl) (by decide) (fun K hK => ?_)
  refine skip_ (w1 := ?_) (by rfl) rfl ?_ ?_
  rotate_left
  · go_simp
    rfl
  refine hK.out _ _ ?_
  clear hK K
  refine pure_ (i := 4) (N := some 7) (v := ?_) (a' := ?_) #[true, true, true, true, true] rfl rfl (by kernel_rfl) (fun _ _ _ h => h) (Or.inl ⟨by rfl, ?_⟩) ?_ ?_
  rotate_left
  · intro w'
    go_simp
    with_reducible rfl
  rotate_left
  · simp only [Act.put, List.setIfInBounds_toArray, List.set_cons_zero, List.set_cons_succ, i64_w, i32_w]
    rfl
  refine done_ (by kernel_rfl) ?_
  go_wp2_with fail
  exact bodyPost_ret (results_ct rfl _ _ (w.heap.size + 1 + 1) 28 (c6 ⟨l, r, e, mn, 2, 0⟩) _ rfl T2.out Try.underlying28 rfl (by kernel_rfl)) rfl ⟨v9, rfl, R2.out, B2.out⟩
set_option maxHeartbeats 2000000 in
theorem rrecv_eq5d {l r e n p d c mf mt mx now : Int} {va ba : Option Addr} {vl vc bl bc : Nat} (hz : chk ⟨l, r, e, n, p, d⟩ = c) (hc : (c != 0) = false) (h1 : (mf != r) = false) (h2 : (mt != l) = false) (h3 : 0 ≤ e) (h4 : e ≤ 1073741824) (h5 : 0 ≤ n) (h6 : n ≤ 1073741824) (hp : (p == 0) = false) (hp' : (p != 0) = true) (w : World) : Calls Try.prog 18 #[S6 ⟨l, r, e, n, p, d⟩, .int .i64 now, MV ⟨5, mf, mt, n, e⟩ mx (.slice va vl vc) (.slice ba bl bc)] w (Gave ⟨l, r, e, n, 2, 0⟩ [⟨6, l, r, n, e⟩] w) := by
  have HC := Lib.hid (fun w => rchk_c hz w)
  clear hz
  go_enter Try.func18, Try.ntmps18
  go_wp2_with fail
  refine (HC.out _).mono ?_
  rintro e0 w1 ⟨rfl, h1⟩
  have A1 := (((Blk.new w (c6 ⟨l, r, e, n, p, d⟩) 28).alloc (.cells (c8 ⟨5, mf, mt, n, e⟩ mx (.slice va vl vc) (.slice ba bl bc)) 51)).alloc (.cells (c6 zS) 28)).below h1
  have M1 := ((Blk.new (w.alloc (.cells (c6 ⟨l, r, e, n, p, d⟩) 28)) (c8 ⟨5, mf, mt, n, e⟩ mx (.slice va vl vc) (.slice ba bl bc)) 51).alloc (.cells (c6 zS) 28)).below h1
  have D1 := (Blk.new ((w.alloc (.cells (c6 ⟨l, r, e, n, p, d⟩) 28)).alloc (.cells (c8 ⟨5, mf, mt, n, e⟩ mx (.slice va vl vc) (.slice ba bl bc)) 51)) (c6 zS) 28).below h1
  rw [World.size_alloc] at M1
  rw [World.size_alloc, World.size_alloc] at D1
  have hb1 := b_step (b_alloc (b_alloc (b_alloc (Below.refl w.heap.size w) (.cells (c6 ⟨l, r, e, n, p, d⟩) 28)) (.cells (c8 ⟨5, mf, mt, n, e⟩ mx (.slice va vl vc) (.slice ba bl bc)) 51)) (.cells (c6 zS) 28)) h1
  have la := A1.lt
  have ld := D1.lt
  clear h1 HC
  obtain ⟨c0, c1, c2, c3, c4, c5, f0, f1, f2, f3, f4, f5⟩ := A1.six
  obtain ⟨g0, g1, g2, g3, g4, g5, k0, k1, k2, k3, k4, k5⟩ := D1.six
  have m0 := M1.cell 0
  have m1 := M1.cell 1
  have m2 := M1.cell 2
  have m3 := M1.cell 3
  have m5 := M1.cell 5
  have A3 := A1
  have M3 := M1
  have D3 := D1
  have hb3 := hb1
  clear A1 M1 D1 hb1
  go_wp2_with fail
  refine (phase_any ⟨l, r, e, n, p, d⟩ 2 _).mono ?_
  rintro e6 w9 ⟨rfl, h9⟩
  have A4 := (A3.set 3 (.int .i64 n)).below h9
  have D4 := (D3.far (p := ⟨w.heap.size, 3, none⟩) (by show w.heap.size + 1 + 1 ≠ w.heap.size; omega) (.int .i64 n)).below h9
  have hb4 := b_step (b_set (g := w.heap.size) (j := 3) (v := .int .i64 n) hb3 (Nat.le_refl _)) h9
  replace A4 : Blk w9 w.heap.size #[.int .i64 l, .int .i64 r, .int .i64 e, .int .i64 n, .int .i64 p, .int .i64 d] 28 := A4
  have la4 := A4.lt
  clear A3 M3 D3 hb3 h9 c0 f0 g0 k0 c1 f1 g1 k1 c2 f2 g2 k2 c3 f3 g3 k3 c4 f4 g4 k4 c5 f5 g5 k5 m0 m1 m2 m3 m5
  obtain ⟨c0, c1, c2, c3, c4, c5, f0, f1, f2, f3, f4, f5⟩ := A4.six
  have A5 := A4.store6 (a' := .int .i64 l) (b' := .int .i64 r) (c' := .int .i64 e) (d' := .int .i64 n) (e' := .int .i64 2) (f' := .int .i64 0)
  have D5 := D4.far6 (g' := w.heap.size) (a := .int .i64 l) (b := .int .i64 r) (c := .int .i64 e) (d := .int .i64 n) (e := .int .i64 2) (f := .int .i64 0) (by omega)
  have hb5 := b_store6 (g := w.heap.size) (a := .int .i64 l) (b := .int .i64 r) (c := .int .i64 e) (d := .int .i64 n) (e := .int .i64 2) (f := .int .i64 0) hb4 (Nat.le_refl _)
  clear A4 D4 hb4
  go_upto_region 20 with fail
  clear c0 f0 c1 f1 c2 f2 c3 f3 c4 f4 c5 f5
  generalize ((((((w9.setCell ⟨w.heap.size, 0, none⟩ (.int .i64 l)).setCell ⟨w.heap.size, 1, none⟩ (.int .i64 r)).setCell ⟨w.heap.size, 2, none⟩ (.int .i64 e)).setCell ⟨w.heap.size, 3, none⟩ (.int .i64 n)).setCell ⟨w.heap.size, 4, none⟩ (.int .i64 2)).setCell ⟨w.heap.size, 5, none⟩ (.int .i64 0)) = wq at *
  have HS := Lib.hid A5
  have HT := Lib.hid D5
  have HB := Lib.hid hb5
  clear A5 D5 hb5
  refine start_ (n := 5) (S := fun w' => w'.cell? ⟨w.heap.size, 0, none⟩ = some (.int .i64 l) ∧ w'.cell? ⟨w.heap.size, 1, none⟩ = some (.int .i64 r) ∧ w'.cell? ⟨w.heap.size, 2, none⟩ = some (.int .i64 e) ∧ w'.cell? ⟨w.heap.size, 3, none⟩ = some (.int .i64 n) ∧ w'.cell? ⟨w.heap.size, 4, none⟩ = some (.int .i64 2) ∧ w'.cell? ⟨w.heap.size, 5, none⟩ = some (.int .i64 0)) (ds := [3]) #[false, false, false, false, false] (by kernel_rfl) rfl rfl ⟨(HS.out.drew.cell 0), (HS.out.drew.cell 1), (HS.out.drew.cell 2), (HS.out.drew.cell 3), (HS.out.drew.cell 4), (HS.out.drew.cell 5)⟩ (fun hHeld => ?_)
  refine take_ (i := 0) (N := some 115) (v := ?_) (a' := ?_) #[true, false, false, false, false] rfl rfl (by kernel_rfl) (fun _ _ _ h => h) (Or.inl ⟨by rfl, ?_⟩) hHeld ?_ ?_
  rotate_left
  · rintro w' ⟨s0, s1, s2, s3, s4, s5⟩
    go_simp
    with_reducible rfl
  rotate_left
  · simp only [Act.put, List.setIfInBounds_toArray, List.set_cons_zero, List.set_cons_succ, i64_w, i32_w]
    rfl
  refine take_ (i := 1) (N := some 116) (v := ?_) (a' := ?_) #[true, true, false, false, false] rfl rfl (by kernel_rfl) (fun _ _ _ h => h) (Or.inl ⟨by rfl, ?_⟩) hHeld ?_ ?_
  rotate_left
  · rintro w' ⟨s0, s1, s2, s3, s4, s5⟩
    go_simp
    with_reducible rfl
  rotate_left
  · simp only [Act.put, List.setIfInBounds_toArray, List.set_cons_zero, List.set_cons_succ, i64_w, i32_w]
    rfl
  refine one_ (i := 2) (N := some 117) #[true, true, true, false, false] rfl rfl (by kernel_rfl) (by decide) (fun K hK => ?_)
  refine goes_ Try.func37 (by kernel_rfl) rfl #[S6 ⟨l, r, e, n, 2, 0⟩, .int .i64 6] (by rfl) rfl rfl (by simp only [List.map_toArray, List.map_cons, List.map_nil]; rfl) ?_
  with_reducible refine (msg_any ⟨l, r, e, n, 2, 0⟩ 6 _).mono ?_
  rintro e9 wz ⟨v9, he, hr, hb⟩
  subst he
  refine ⟨_, rfl, ?_⟩
  have hT2 := HT.out.drew.below hb
  have hlt := hT2.lt
  have hsz : w.heap.size + 3 ≤ wq.heap.size := HT.out.lt
  have R1 := Lib.hid ((hr.lower (base' := w.heap.size + 3) hsz))
  have R2 := Lib.hid ((R1.out.far6 (g := w.heap.size + 1 + 1) (a := .int .i64 l) (b := .int .i64 r) (c := .int .i64 e) (d := .int .i64 n) (e := .int .i64 2) (f := .int .i64 0) (by omega)).lower (base' := w.heap.size) (by omega))
  have T2 := Lib.hid (hT2.store6 (a' := .int .i64 l) (b' := .int .i64 r) (c' := .int .i64 e) (d' := .int .i64 n) (e' := .int .i64 2) (f' := .int .i64 0))
  have B2 := Lib.hid (b_store6 (g := w.heap.size + 1 + 1) (a := .int .i64 l) (b := .int .i64 r) (c := .int .i64 e) (d := .int .i64 n) (e := .int .i64 2) (f := .int .i64 0) (b_step (b_drew HB.out) hb) (by omega))
  obtain ⟨y0, y1, y2, y3, y4, y5, z0, z1, z2, z3, z4, z5⟩ := hT2.six
  clear hT2
  refine hK.out _ _ ⟨(cell_below hHeld.1 hb), (cell_below hHeld.2.1 hb), (cell_below hHeld.2.2.1 hb), (cell_below hHeld.2.2.2.1 hb), (cell_below hHeld.2.2.2.2.1 hb), (cell_below hHeld.2.2.2.2.2 hb)⟩ (fun hHeld => ?_)
  clear hK K
  refine norm_ (a' := ?_) ?_ ?_
  rotate_left
  · show Act.put _ (some 117) _ = _
    simp only [Act.put, List.setIfInBounds_toArray, List.set_cons_zero, List.set_cons_succ, i64_w, i32_w]
    rfl
  refine last_ (i := 3) (N := none) #[true, true, true, true, false] rfl rfl (by kernel_rfl) (by decide) (fun K hK => ?_)
  refine skip_ (w1 := ?_) (by rfl) rfl ?_ ?_
  rotate_left
  · go_simp
    rfl
  refine hK.out _ _ ?_
  clear hK K
  refine pure_ (i := 4) (N := some 7) (v := ?_) (a' := ?_) #[true, true, true, true, true] rfl rfl (by kernel_rfl) (fun _ _ _ h => h) (Or.inl ⟨by rfl, ?_⟩) ?_ ?_
  rotate_left
  · intro w'
    go_simp
    with_reducible rfl
  rotate_left
  · simp only [Act.put, List.setIfInBounds_toArray, List.set_cons_zero, List.set_cons_succ, i64_w, i32_w]
    rfl
  refine done_ (by kernel_rfl) ?_
  go_wp2_with fail
  exact bodyPost_ret (results_ct rfl _ _ (w.heap.size + 1 + 1) 28 (c6 ⟨l, r, e, n, 2, 0⟩) _ rfl T2.out Try.underlying28 rfl (by kernel_rfl)) rfl ⟨v9, rfl, R2.out, B2.out⟩
set_option maxHeartbeats 2000000 in
theorem rrecv_eq6a {l r e n p d c mf mt mn mx now : Int} {va ba : Option Addr} {vl vc bl bc : Nat} (hz : chk ⟨l, r, e, n, p, d⟩ = c) (hc : (c != 0) = false) (h1 : (mf != r) = false) (h2 : (mt != l) = false) (h3 : 0 ≤ e) (h4 : e ≤ 1073741824) (h5 : 0 ≤ mn) (h6 : mn ≤ 1073741824) (hq : (mn != n) = true) (w : World) : Calls Try.prog 18 #[S6 ⟨l, r, e, n, p, d⟩, .int .i64 now, MV ⟨6, mf, mt, mn, e⟩ mx (.slice va vl vc) (.slice ba bl bc)] w (Gave ⟨l, r, e, n, p, d⟩ [] w) := by
  have HC := Lib.hid (fun w => rchk_c hz w)
  clear hz
  go_enter Try.func18, Try.ntmps18
  go_wp2_with fail
  refine (HC.out _).mono ?_
  rintro e0 w1 ⟨rfl, h1⟩
  have A1 := (((Blk.new w (c6 ⟨l, r, e, n, p, d⟩) 28).alloc (.cells (c8 ⟨6, mf, mt, mn, e⟩ mx (.slice va vl vc) (.slice ba bl bc)) 51)).alloc (.cells (c6 zS) 28)).below h1
  have M1 := ((Blk.new (w.alloc (.cells (c6 ⟨l, r, e, n, p, d⟩) 28)) (c8 ⟨6, mf, mt, mn, e⟩ mx (.slice va vl vc) (.slice ba bl bc)) 51).alloc (.cells (c6 zS) 28)).below h1
  have D1 := (Blk.new ((w.alloc (.cells (c6 ⟨l, r, e, n, p, d⟩) 28)).alloc (.cells (c8 ⟨6, mf, mt, mn, e⟩ mx (.slice va vl vc) (.slice ba bl bc)) 51)) (c6 zS) 28).below h1
  rw [World.size_alloc] at M1
  rw [World.size_alloc, World.size_alloc] at D1
  have hb1 := b_step (b_alloc (b_alloc (b_alloc (Below.refl w.heap.size w) (.cells (c6 ⟨l, r, e, n, p, d⟩) 28)) (.cells (c8 ⟨6, mf, mt, mn, e⟩ mx (.slice va vl vc) (.slice ba bl bc)) 51)) (.cells (c6 zS) 28)) h1
  have la := A1.lt
  have ld := D1.lt
  clear h1 HC
  obtain ⟨c0, c1, c2, c3, c4, c5, f0, f1, f2, f3, f4, f5⟩ := A1.six
  obtain ⟨g0, g1, g2, g3, g4, g5, k0, k1, k2, k3, k4, k5⟩ := D1.six
  have m0 := M1.cell 0
  have m1 := M1.cell 1
  have m2 := M1.cell 2
  have m3 := M1.cell 3
  have m5 := M1.cell 5
  have A3 := A1
  have M3 := M1
  have D3 := D1
  have hb3 := hb1
  clear A1 M1 D1 hb1
  go_upto_region 23 with fail
  clear A3 M3
  have T2 := Lib.hid (D3.store6 (a' := .int .i64 l) (b' := .int .i64 r) (c' := .int .i64 e) (d' := .int .i64 n) (e' := .int .i64 p) (f' := .int .i64 d))
  have B2 := Lib.hid (b_store6 (g := w.heap.size + 1 + 1) (a := .int .i64 l) (b := .int .i64 r) (c := .int .i64 e) (d := .int .i64 n) (e := .int .i64 p) (f := .int .i64 d) hb3 (by omega))
  clear D3 hb3
  go_wp2_with fail
  exact bodyPost_ret (results_ct rfl _ _ (w.heap.size + 1 + 1) 28 (c6 ⟨l, r, e, n, p, d⟩) _ rfl T2.out Try.underlying28 rfl (by kernel_rfl)) rfl ⟨.slice none 0 0, rfl, row_nil _ _, B2.out⟩
set_option maxHeartbeats 2000000 in
theorem rrecv_eq6b {l r e n p d c mf mt mn mx now : Int} {va ba : Option Addr} {vl vc bl bc : Nat} (hz : chk ⟨l, r, e, n, p, d⟩ = c) (hc : (c != 0) = false) (h1 : (mf != r) = false) (h2 : (mt != l) = false) (h3 : 0 ≤ e) (h4 : e ≤ 1073741824) (h5 : 0 ≤ mn) (h6 : mn ≤ 1073741824) (hq : (mn != n) = false) (hp : (p == 0) = true) (hp' : (p != 0) = false) (w : World) : Calls Try.prog 18 #[S6 ⟨l, r, e, n, p, d⟩, .int .i64 now, MV ⟨6, mf, mt, mn, e⟩ mx (.slice va vl vc) (.slice ba bl bc)] w (Gave ⟨l, r, e, n, p, d⟩ [⟨7, l, r, n, e⟩] w) := by
  have HC := Lib.hid (fun w => rchk_c hz w)
  clear hz
  go_enter Try.func18, Try.ntmps18
  go_wp2_with fail
  refine (HC.out _).mono ?_
  rintro e0 w1 ⟨rfl, h1⟩
  have A1 := (((Blk.new w (c6 ⟨l, r, e, n, p, d⟩) 28).alloc (.cells (c8 ⟨6, mf, mt, mn, e⟩ mx (.slice va vl vc) (.slice ba bl bc)) 51)).alloc (.cells (c6 zS) 28)).below h1
  have M1 := ((Blk.new (w.alloc (.cells (c6 ⟨l, r, e, n, p, d⟩) 28)) (c8 ⟨6, mf, mt, mn, e⟩ mx (.slice va vl vc) (.slice ba bl bc)) 51).alloc (.cells (c6 zS) 28)).below h1
  have D1 := (Blk.new ((w.alloc (.cells (c6 ⟨l, r, e, n, p, d⟩) 28)).alloc (.cells (c8 ⟨6, mf, mt, mn, e⟩ mx (.slice va vl vc) (.slice ba bl bc)) 51)) (c6 zS) 28).below h1
  rw [World.size_alloc] at M1
  rw [World.size_alloc, World.size_alloc] at D1
  have hb1 := b_step (b_alloc (b_alloc (b_alloc (Below.refl w.heap.size w) (.cells (c6 ⟨l, r, e, n, p, d⟩) 28)) (.cells (c8 ⟨6, mf, mt, mn, e⟩ mx (.slice va vl vc) (.slice ba bl bc)) 51)) (.cells (c6 zS) 28)) h1
  have la := A1.lt
  have ld := D1.lt
  clear h1 HC
  obtain ⟨c0, c1, c2, c3, c4, c5, f0, f1, f2, f3, f4, f5⟩ := A1.six
  obtain ⟨g0, g1, g2, g3, g4, g5, k0, k1, k2, k3, k4, k5⟩ := D1.six
  have m0 := M1.cell 0
  have m1 := M1.cell 1
  have m2 := M1.cell 2
  have m3 := M1.cell 3
  have m5 := M1.cell 5
  have A3 := A1
  have M3 := M1
  have D3 := D1
  have hb3 := hb1
  clear A1 M1 D1 hb1
  go_upto_region 25 with fail
  generalize w1 = wq at *
  have HS := Lib.hid A3
  have HT := Lib.hid D3
  have HB := Lib.hid hb3
  clear A3 D3 hb3
  refine start_ (n := 5) (S := fun w' => w'.cell? ⟨w.heap.size, 0, none⟩ = some (.int .i64 l) ∧ w'.cell? ⟨w.heap.size, 1, none⟩ = some (.int .i64 r) ∧ w'.cell? ⟨w.heap.size, 2, none⟩ = some (.int .i64 e) ∧ w'.cell? ⟨w.heap.size, 3, none⟩ = some (.int .i64 n) ∧ w'.cell? ⟨w.heap.size, 4, none⟩ = some (.int .i64 p) ∧ w'.cell? ⟨w.heap.size, 5, none⟩ = some (.int .i64 d)) (ds := [3]) #[false, false, false, false, false] (by kernel_rfl) rfl rfl ⟨(HS.out.drew.cell 0), (HS.out.drew.cell 1), (HS.out.drew.cell 2), (HS.out.drew.cell 3), (HS.out.drew.cell 4), (HS.out.drew.cell 5)⟩ (fun hHeld => ?_)
  refine take_ (i := 0) (N := some 129) (v := ?_) (a' := ?_) #[true, false, false, false, false] rfl rfl (by kernel_rfl) (fun _ _ _ h => h) (Or.inl ⟨by rfl, ?_⟩) hHeld ?_ ?_
  rotate_left
  · rintro w' ⟨s0, s1, s2, s3, s4, s5⟩
    go_simp
    with_reducible rfl
  rotate_left
  · simp only [Act.put, List.setIfInBounds_toArray, List.set_cons_zero, List.set_cons_succ, i64_w, i32_w]
    rfl
  refine take_ (i := 1) (N := some 130) (v := ?_) (a' := ?_) #[true, true, false, false, false] rfl rfl (by kernel_rfl) (fun _ _ _ h => h) (Or.inl ⟨by rfl, ?_⟩) hHeld ?_ ?_
  rotate_left
  · rintro w' ⟨s0, s1, s2, s3, s4, s5⟩
    go_simp
    with_reducible rfl
  rotate_left
  · simp only [Act.put, List.setIfInBounds_toArray, List.set_cons_zero, List.set_cons_succ, i64_w, i32_w]
    rfl
  refine one_ (i := 2) (N := some 131) #[true, true, true, false, false] rfl rfl (by kernel_rfl) (by decide) (fun K hK => ?_)
  refine goes_ Try.func37 (by kernel_rfl) rfl #[S6 ⟨l, r, e, n, p, d⟩, .int .i64 7] (by rfl) rfl rfl (by simp only [List.map_toArray, List.map_cons, List.map_nil]; rfl) ?_
  with_reducible refine (msg_any ⟨l, r, e, n, p, d⟩ 7 _).mono ?_
  rintro e9 wz ⟨v9, he, hr, hb⟩
  subst he
  refine ⟨_, rfl, ?_⟩
  have hT2 := HT.out.drew.below hb
  have hlt := hT2.lt
  have hsz : w.heap.size + 3 ≤ wq.heap.size := HT.out.lt
  have R1 := Lib.hid ((hr.lower (base' := w.heap.size + 3) hsz))
  have R2 := Lib.hid ((R1.out.far6 (g := w.heap.size + 1 + 1) (a := .int .i64 l) (b := .int .i64 r) (c := .int .i64 e) (d := .int .i64 n) (e := .int .i64 p) (f := .int .i64 d) (by omega)).lower (base' := w.heap.size) (by omega))
  have T2 := Lib.hid (hT2.store6 (a' := .int .i64 l) (b' := .int .i64 r) (c' := .int .i64 e) (d' := .int .i64 n) (e' := .int .i64 p) (f' := .int .i64 d))
  have B2 := Lib.hid (b_store6 (g := w.heap.size + 1 + 1) (a := .int .i64 l) (b := .int .i64 r) (c := .int .i64 e) (d := .int .i64 n) (e := .int .i64 p) (f := .int .i64 d) (b_step (b_drew HB.out) hb) (by omega))
  obtain ⟨y0, y1, y2, y3, y4, y5, z0, z1, z2, z3, z4, z5⟩ := hT2.six
  clear hT2
  refine hK.out _ _ ⟨(cell_below hHeld.1 hb), (cell_below hHeld.2.1 hb), (cell_below hHeld.2.2.1 hb), (cell_below hHeld.2.2.2.1 hb), (cell_below hHeld.2.2.2.2.1 hb), (cell_below hHeld.2.2.2.2.2 hb)⟩ (fun hHeld => ?_)
  clear hK K
  refine norm_ (a' := ?_) ?_ ?_
  rotate_left
  · show Act.put _ (some 131) _ = _
    simp only [Act.put, List.setIfInBounds_toArray, List.set_cons_zero, List.set_cons_succ, i64_w, i32_w]
    rfl
  refine last_ (i := 3) (N := none) #[true, true, true, true, false] rfl rfl (by kernel_rfl) (by decide) (fun K hK => ?_)
  refine skip_ (w1 := ?_) (by rfl) rfl ?_ ?_
  rotate_left
  · go_simp
    rfl
  refine hK.out _ _ ?_
  clear hK K
  refine pure_ (i := 4) (N := some 7) (v := ?_) (a' := ?_) #[true, true, true, true, true] rfl rfl (by kernel_rfl) (fun _ _ _ h => h) (Or.inl ⟨by rfl, ?_⟩) ?_ ?_
  rotate_left
  · intro w'
    go_simp
    with_reducible rfl
  rotate_left
  · simp only [Act.put, List.setIfInBounds_toArray, List.set_cons_zero, List.set_cons_succ, i64_w, i32_w]
    rfl
  refine done_ (by kernel_rfl) ?_
  go_wp2_with fail
  exact bodyPost_ret (results_ct rfl _ _ (w.heap.size + 1 + 1) 28 (c6 ⟨l, r, e, n, p, d⟩) _ rfl T2.out Try.underlying28 rfl (by kernel_rfl)) rfl ⟨v9, rfl, R2.out, B2.out⟩
set_option maxHeartbeats 2000000 in
theorem rrecv_eq6c {l r e n p d c mf mt mn mx now : Int} {va ba : Option Addr} {vl vc bl bc : Nat} (hz : chk ⟨l, r, e, n, p, d⟩ = c) (hc : (c != 0) = false) (h1 : (mf != r) = false) (h2 : (mt != l) = false) (h3 : 0 ≤ e) (h4 : e ≤ 1073741824) (h5 : 0 ≤ mn) (h6 : mn ≤ 1073741824) (hq : (mn != n) = false) (hp : (p == 0) = false) (hp' : (p != 0) = true) (w : World) : Calls Try.prog 18 #[S6 ⟨l, r, e, n, p, d⟩, .int .i64 now, MV ⟨6, mf, mt, mn, e⟩ mx (.slice va vl vc) (.slice ba bl bc)] w (Gave ⟨l, r, e, n, 2, 0⟩ [] w) := by
  have HC := Lib.hid (fun w => rchk_c hz w)
  clear hz
  go_enter Try.func18, Try.ntmps18
  go_wp2_with fail
  refine (HC.out _).mono ?_
  rintro e0 w1 ⟨rfl, h1⟩
  have A1 := (((Blk.new w (c6 ⟨l, r, e, n, p, d⟩) 28).alloc (.cells (c8 ⟨6, mf, mt, mn, e⟩ mx (.slice va vl vc) (.slice ba bl bc)) 51)).alloc (.cells (c6 zS) 28)).below h1
  have M1 := ((Blk.new (w.alloc (.cells (c6 ⟨l, r, e, n, p, d⟩) 28)) (c8 ⟨6, mf, mt, mn, e⟩ mx (.slice va vl vc) (.slice ba bl bc)) 51).alloc (.cells (c6 zS) 28)).below h1
  have D1 := (Blk.new ((w.alloc (.cells (c6 ⟨l, r, e, n, p, d⟩) 28)).alloc (.cells (c8 ⟨6, mf, mt, mn, e⟩ mx (.slice va vl vc) (.slice ba bl bc)) 51)) (c6 zS) 28).below h1
  rw [World.size_alloc] at M1
  rw [World.size_alloc, World.size_alloc] at D1
  have hb1 := b_step (b_alloc (b_alloc (b_alloc (Below.refl w.heap.size w) (.cells (c6 ⟨l, r, e, n, p, d⟩) 28)) (.cells (c8 ⟨6, mf, mt, mn, e⟩ mx (.slice va vl vc) (.slice ba bl bc)) 51)) (.cells (c6 zS) 28)) h1
  have la := A1.lt
  have ld := D1.lt
  clear h1 HC
  obtain ⟨c0, c1, c2, c3, c4, c5, f0, f1, f2, f3, f4, f5⟩ := A1.six
  obtain ⟨g0, g1, g2, g3, g4, g5, k0, k1, k2, k3, k4, k5⟩ := D1.six
  have m0 := M1.cell 0
  have m1 := M1.cell 1
  have m2 := M1.cell 2
  have m3 := M1.cell 3
  have m5 := M1.cell 5
  have A3 := A1
  have M3 := M1
  have D3 := D1
  have hb3 := hb1
  clear A1 M1 D1 hb1
  go_wp2_with fail
  refine (phase_any ⟨l, r, e, n, p, d⟩ 2 _).mono ?_
  rintro e6 w9 ⟨rfl, h9⟩
  have D4 := D3.below h9
  have hb4 := b_step hb3 h9
  have ld4 := D4.lt
  clear A3 M3 D3 hb3 h9 c0 f0 g0 k0 c1 f1 g1 k1 c2 f2 g2 k2 c3 f3 g3 k3 c4 f4 g4 k4 c5 f5 g5 k5 m0 m1 m2 m3 m5
  obtain ⟨g0, g1, g2, g3, g4, g5, k0, k1, k2, k3, k4, k5⟩ := D4.six
  have T2 := Lib.hid (D4.store6 (a' := .int .i64 l) (b' := .int .i64 r) (c' := .int .i64 e) (d' := .int .i64 n) (e' := .int .i64 2) (f' := .int .i64 0))
  have B2 := Lib.hid (b_store6 (g := w.heap.size + 1 + 1) (a := .int .i64 l) (b := .int .i64 r) (c := .int .i64 e) (d := .int .i64 n) (e := .int .i64 2) (f := .int .i64 0) hb4 (by omega))
  clear D4 hb4
  go_wp2_with fail
  exact bodyPost_ret (results_ct rfl _ _ (w.heap.size + 1 + 1) 28 (c6 ⟨l, r, e, n, 2, 0⟩) _ rfl T2.out Try.underlying28 rfl (by kernel_rfl)) rfl ⟨.slice none 0 0, rfl, row_nil _ _, B2.out⟩
set_option maxHeartbeats 2000000 in
theorem rrecv_eq7a {l r e n p d c mf mt mn mx now : Int} {va ba : Option Addr} {vl vc bl bc : Nat} (hz : chk ⟨l, r, e, n, p, d⟩ = c) (hc : (c != 0) = false) (h1 : (mf != r) = false) (h2 : (mt != l) = false) (h3 : 0 ≤ e) (h4 : e ≤ 1073741824) (h5 : 0 ≤ mn) (h6 : mn ≤ 1073741824) (hq : mn < n) (w : World) : Calls Try.prog 18 #[S6 ⟨l, r, e, n, p, d⟩, .int .i64 now, MV ⟨7, mf, mt, mn, e⟩ mx (.slice va vl vc) (.slice ba bl bc)] w (Gave ⟨l, r, e, n, p, d⟩ [] w) := by
  have HC := Lib.hid (fun w => rchk_c hz w)
  clear hz
  go_enter Try.func18, Try.ntmps18
  go_wp2_with fail
  refine (HC.out _).mono ?_
  rintro e0 w1 ⟨rfl, h1⟩
  have A1 := (((Blk.new w (c6 ⟨l, r, e, n, p, d⟩) 28).alloc (.cells (c8 ⟨7, mf, mt, mn, e⟩ mx (.slice va vl vc) (.slice ba bl bc)) 51)).alloc (.cells (c6 zS) 28)).below h1
  have M1 := ((Blk.new (w.alloc (.cells (c6 ⟨l, r, e, n, p, d⟩) 28)) (c8 ⟨7, mf, mt, mn, e⟩ mx (.slice va vl vc) (.slice ba bl bc)) 51).alloc (.cells (c6 zS) 28)).below h1
  have D1 := (Blk.new ((w.alloc (.cells (c6 ⟨l, r, e, n, p, d⟩) 28)).alloc (.cells (c8 ⟨7, mf, mt, mn, e⟩ mx (.slice va vl vc) (.slice ba bl bc)) 51)) (c6 zS) 28).below h1
  rw [World.size_alloc] at M1
  rw [World.size_alloc, World.size_alloc] at D1
  have hb1 := b_step (b_alloc (b_alloc (b_alloc (Below.refl w.heap.size w) (.cells (c6 ⟨l, r, e, n, p, d⟩) 28)) (.cells (c8 ⟨7, mf, mt, mn, e⟩ mx (.slice va vl vc) (.slice ba bl bc)) 51)) (.cells (c6 zS) 28)) h1
  have la := A1.lt
  have ld := D1.lt
  clear h1 HC
  obtain ⟨c0, c1, c2, c3, c4, c5, f0, f1, f2, f3, f4, f5⟩ := A1.six
  obtain ⟨g0, g1, g2, g3, g4, g5, k0, k1, k2, k3, k4, k5⟩ := D1.six
  have m0 := M1.cell 0
  have m1 := M1.cell 1
  have m2 := M1.cell 2
  have m3 := M1.cell 3
  have m5 := M1.cell 5
  have A3 := A1
  have M3 := M1
  have D3 := D1
  have hb3 := hb1
  clear A1 M1 D1 hb1
  go_upto_region 28 with fail
  clear A3 M3
  have T2 := Lib.hid (D3.store6 (a' := .int .i64 l) (b' := .int .i64 r) (c' := .int .i64 e) (d' := .int .i64 n) (e' := .int .i64 p) (f' := .int .i64 d))
  have B2 := Lib.hid (b_store6 (g := w.heap.size + 1 + 1) (a := .int .i64 l) (b := .int .i64 r) (c := .int .i64 e) (d := .int .i64 n) (e := .int .i64 p) (f := .int .i64 d) hb3 (by omega))
  clear D3 hb3
  go_wp2_with fail
  exact bodyPost_ret (results_ct rfl _ _ (w.heap.size + 1 + 1) 28 (c6 ⟨l, r, e, n, p, d⟩) _ rfl T2.out Try.underlying28 rfl (by kernel_rfl)) rfl ⟨.slice none 0 0, rfl, row_nil _ _, B2.out⟩
set_option maxHeartbeats 2000000 in
theorem rrecv_eq7b {l r e n p d c mf mt mn mx now : Int} {va ba : Option Addr} {vl vc bl bc : Nat} (hz : chk ⟨l, r, e, n, p, d⟩ = c) (hc : (c != 0) = false) (h1 : (mf != r) = false) (h2 : (mt != l) = false) (h3 : 0 ≤ e) (h4 : e ≤ 1073741824) (h5 : 0 ≤ mn) (h6 : mn ≤ 1073741824) (hq : n ≤ mn) (w : World) : Calls Try.prog 18 #[S6 ⟨l, r, e, n, p, d⟩, .int .i64 now, MV ⟨7, mf, mt, mn, e⟩ mx (.slice va vl vc) (.slice ba bl bc)] w (Gave ⟨l, r, e, mn, 0, 0⟩ [] w) := by
  have HC := Lib.hid (fun w => rchk_c hz w)
  clear hz
  go_enter Try.func18, Try.ntmps18
  go_wp2_with fail
  refine (HC.out _).mono ?_
  rintro e0 w1 ⟨rfl, h1⟩
  have A1 := (((Blk.new w (c6 ⟨l, r, e, n, p, d⟩) 28).alloc (.cells (c8 ⟨7, mf, mt, mn, e⟩ mx (.slice va vl vc) (.slice ba bl bc)) 51)).alloc (.cells (c6 zS) 28)).below h1
  have M1 := ((Blk.new (w.alloc (.cells (c6 ⟨l, r, e, n, p, d⟩) 28)) (c8 ⟨7, mf, mt, mn, e⟩ mx (.slice va vl vc) (.slice ba bl bc)) 51).alloc (.cells (c6 zS) 28)).below h1
  have D1 := (Blk.new ((w.alloc (.cells (c6 ⟨l, r, e, n, p, d⟩) 28)).alloc (.cells (c8 ⟨7, mf, mt, mn, e⟩ mx (.slice va vl vc) (.slice ba bl bc)) 51)) (c6 zS) 28).below h1
  rw [World.size_alloc] at M1
  rw [World.size_alloc, World.size_alloc] at D1
  have hb1 := b_step (b_alloc (b_alloc (b_alloc (Below.refl w.heap.size w) (.cells (c6 ⟨l, r, e, n, p, d⟩) 28)) (.cells (c8 ⟨7, mf, mt, mn, e⟩ mx (.slice va vl vc) (.slice ba bl bc)) 51)) (.cells (c6 zS) 28)) h1
  have la := A1.lt
  have ld := D1.lt
  clear h1 HC
  obtain ⟨c0, c1, c2, c3, c4, c5, f0, f1, f2, f3, f4, f5⟩ := A1.six
  obtain ⟨g0, g1, g2, g3, g4, g5, k0, k1, k2, k3, k4, k5⟩ := D1.six
  have m0 := M1.cell 0
  have m1 := M1.cell 1
  have m2 := M1.cell 2
  have m3 := M1.cell 3
  have m5 := M1.cell 5
  have A3 := A1
  have M3 := M1
  have D3 := D1
  have hb3 := hb1
  clear A1 M1 D1 hb1
  go_wp2_with fail
  refine (phase_any ⟨l, r, e, mn, p, d⟩ 0 _).mono ?_
  rintro e6 w9 ⟨rfl, h9⟩
  have D4 := (D3.far (p := ⟨w.heap.size, 3, none⟩) (by show w.heap.size + 1 + 1 ≠ w.heap.size; omega) (.int .i64 mn)).below h9
  have hb4 := b_step (b_set (g := w.heap.size) (j := 3) (v := .int .i64 mn) hb3 (Nat.le_refl _)) h9
  have ld4 := D4.lt
  clear A3 M3 D3 hb3 h9 c0 f0 g0 k0 c1 f1 g1 k1 c2 f2 g2 k2 c3 f3 g3 k3 c4 f4 g4 k4 c5 f5 g5 k5 m0 m1 m2 m3 m5
  obtain ⟨g0, g1, g2, g3, g4, g5, k0, k1, k2, k3, k4, k5⟩ := D4.six
  have T2 := Lib.hid (D4.store6 (a' := .int .i64 l) (b' := .int .i64 r) (c' := .int .i64 e) (d' := .int .i64 mn) (e' := .int .i64 0) (f' := .int .i64 0))
  have B2 := Lib.hid (b_store6 (g := w.heap.size + 1 + 1) (a := .int .i64 l) (b := .int .i64 r) (c := .int .i64 e) (d := .int .i64 mn) (e := .int .i64 0) (f := .int .i64 0) hb4 (by omega))
  clear D4 hb4
  go_wp2_with fail
  exact bodyPost_ret (results_ct rfl _ _ (w.heap.size + 1 + 1) 28 (c6 ⟨l, r, e, mn, 0, 0⟩) _ rfl T2.out Try.underlying28 rfl (by kernel_rfl)) rfl ⟨.slice none 0 0, rfl, row_nil _ _, B2.out⟩
end Go.Proofs.Ytemljffppdjmgaa
