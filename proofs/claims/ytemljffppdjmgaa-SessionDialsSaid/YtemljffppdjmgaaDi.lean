/- SessionDials returns true for all sessions and times. -/
import Derived.Test.YtemljffppdjmgaaF
import Derived.Test.YtemljffppdjmgaaSm
namespace Go.Proofs.Ytemljffppdjmgaa
open Go.RowKit
set_option linter.unusedVariables false
set_option linter.unusedSimpArgs false
theorem dial_short (s : Ses) (a b : Int) : (dialF s a b).2.1.length ≤ 1 := by
  unfold dialF
  repeat' split
  all_goals simp
theorem expire_short (s : Ses) (a b : Int) : (expireF s a b).2.length ≤ 1 := by
  unfold expireF
  repeat' split
  all_goals simp
theorem close_short (s : Ses) : (closeF s).2.length ≤ 1 := by
  unfold closeF
  repeat' split
  all_goals simp
set_option maxRecDepth 20000 in
set_option maxHeartbeats 8000000 in
theorem dials_any (s : Ses) (a b : Int) (w : World) : Calls Try.prog 7 #[S6 s, .int .i64 a, .int .i64 b] w fun e w' => e = .returned (.bool true) ∧ Below w.heap.size w w' := by
  obtain ⟨l, r, e, n, p, d⟩ := s
  have P1 := Lib.hid (fun w => dial_any ⟨l, r, e, n, p, d⟩ a b w)
  have R1 := Lib.hid (fun w => rdial_any ⟨l, r, e, n, p, d⟩ a b w)
  have hs1 := dial_short ⟨l, r, e, n, p, d⟩ a b
  generalize dialF ⟨l, r, e, n, p, d⟩ a b = q at P1 R1 hs1
  obtain ⟨⟨l1, r1, e1, n1, p1, d1⟩, ms1, cc⟩ := q
  dsimp only at P1 R1 hs1
  have P2 := Lib.hid (fun w => expire_any ⟨l, r, e, n, p, d⟩ a b w)
  have R2 := Lib.hid (fun w => rexp_any ⟨l, r, e, n, p, d⟩ a b w)
  have hs2 := expire_short ⟨l, r, e, n, p, d⟩ a b
  generalize expireF ⟨l, r, e, n, p, d⟩ a b = q at P2 R2 hs2
  obtain ⟨⟨l2, r2, e2, n2, p2, d2⟩, ms2⟩ := q
  dsimp only at P2 R2 hs2
  have P3 := Lib.hid (fun w => close_any ⟨l, r, e, n, p, d⟩ w)
  have R3 := Lib.hid (fun w => rclo_any ⟨l, r, e, n, p, d⟩ w)
  have hs3 := close_short ⟨l, r, e, n, p, d⟩
  generalize closeF ⟨l, r, e, n, p, d⟩ = q at P3 R3 hs3
  obtain ⟨⟨l3, r3, e3, n3, p3, d3⟩, ms3⟩ := q
  dsimp only at P3 R3 hs3
  go_enter Try.func7, Try.ntmps7
  go_wp2_with fail
  refine (P1.out _).mono ?_
  rintro e0 w1 ⟨v1, rfl, row1, h1⟩
  have A1 := (Blk.new w (c6 ⟨l, r, e, n, p, d⟩) 28).below h1
  have hb1 := b_step (b_alloc (Below.refl w.heap.size w) (.cells (c6 ⟨l, r, e, n, p, d⟩) 28)) h1
  have la := A1.lt
  clear h1
  obtain ⟨x0, x1, x2, x3, x4, x5, u0, u1, u2, u3, u4, u5⟩ := A1.six
  go_wp2_with fail
  refine (R1.out _).mono ?_
  rintro e0 w2 ⟨v2, rfl, row2, h2⟩
  have A2 := (A1.alloc (.cells (c6 ⟨l1, r1, e1, n1, p1, d1⟩) 28)).below h2
  have D2 := (Blk.new w1 (c6 ⟨l1, r1, e1, n1, p1, d1⟩) 28).below h2
  have rowa := (row1.below (b_alloc (Below.refl _ _) (.cells (c6 ⟨l1, r1, e1, n1, p1, d1⟩) 28))).below h2
  have hb2 := b_step (b_alloc hb1 (.cells (c6 ⟨l1, r1, e1, n1, p1, d1⟩) 28)) h2
  have lb := D2.lt
  clear h2 A1 hb1 row1 x0 x1 x2 x3 x4 x5 u0 u1 u2 u3 u4 u5 P1 R1
  obtain ⟨y0, y1, y2, y3, y4, y5, z0, z1, z2, z3, z4, z5⟩ := D2.six
  go_upto_region 3 with fail
  have A3 := A2.alloc (.cells (c6 ⟨l1, r1, e1, n1, p1, d1⟩) 28)
  have D3 := D2.alloc (.cells (c6 ⟨l1, r1, e1, n1, p1, d1⟩) 28)
  have E3 := Blk.new w2 (c6 ⟨l1, r1, e1, n1, p1, d1⟩) 28
  have rowa3 := rowa.below (b_alloc (Below.refl _ _) (.cells (c6 ⟨l1, r1, e1, n1, p1, d1⟩) 28))
  have rowb3 := row2.below (b_alloc (Below.refl _ _) (.cells (c6 ⟨l1, r1, e1, n1, p1, d1⟩) 28))
  have hb3 := b_alloc hb2 (.cells (c6 ⟨l1, r1, e1, n1, p1, d1⟩) 28)
  clear A2 D2 rowa row2 hb2 y0 y1 y2 y3 y4 y5 z0 z1 z2 z3 z4 z5
  generalize hk2 : w2.heap.size = k2 at *
  generalize (w2.alloc (.cells (c6 ⟨l1, r1, e1, n1, p1, d1⟩) 28)) = w3 at *
  clear hk2
  have lq3 := E3.lt
  obtain ⟨y0, y1, y2, y3, y4, y5, z0, z1, z2, z3, z4, z5⟩ := D3.six
  obtain ⟨g0, g1, g2, g3, g4, g5, k0, k1, k2, k3, k4, k5⟩ := E3.six
  go_wp2_with fail
  refine (same_any rowa3 rowb3 hs1).mono ?_
  rintro e0 w4 ⟨rfl, h4⟩
  have A4 := A3.below h4
  have D4 := D3.below h4
  have E4 := E3.below h4
  have hb4 := b_step hb3 h4
  have lA4 := A4.lt
  have lE4 := E4.lt
  have lD4 := D4.lt
  clear A3 D3 E3 rowa3 rowb3 hb3 h4 y0 y1 y2 y3 y4 y5 z0 z1 z2 z3 z4 z5 g0 g1 g2 g3 g4 g5 k0 k1 k2 k3 k4 k5
  obtain ⟨x0, x1, x2, x3, x4, x5, u0, u1, u2, u3, u4, u5⟩ := A4.six
  go_wp2_with fail
  refine (P2.out _).mono ?_
  rintro e0 w5 ⟨v2, rfl, row1, h5⟩
  have A5 := A4.below h5
  have D5 := D4.below h5
  have E5 := E4.below h5
  have hb5 := b_step hb4 h5
  have lD5 := D5.lt
  have lA5 := A5.lt
  have lE5 := E5.lt
  have row1 := row1.lower (base' := k2 + 1) (by omega)
  clear A4 D4 E4 hb4 h5 x0 x1 x2 x3 x4 x5 u0 u1 u2 u3 u4 u5
  obtain ⟨y0, y1, y2, y3, y4, y5, z0, z1, z2, z3, z4, z5⟩ := D5.six
  obtain ⟨x0, x1, x2, x3, x4, x5, u0, u1, u2, u3, u4, u5⟩ := A5.six
  go_wp2_with fail
  refine (R2.out _).mono ?_
  rintro e0 w6 ⟨vr2, rfl, row2, h6⟩
  have A6 := (A5.far6 (g' := w1.heap.size) (a := .int .i64 l2) (b := .int .i64 r2) (c := .int .i64 e2) (d := .int .i64 n2) (e := .int .i64 p2) (f := .int .i64 d2) (by omega)).below h6
  have D6 := (D5.store6 (a' := .int .i64 l2) (b' := .int .i64 r2) (c' := .int .i64 e2) (d' := .int .i64 n2) (e' := .int .i64 p2) (f' := .int .i64 d2)).below h6
  have E6 := (E5.far6 (g' := w1.heap.size) (a := .int .i64 l2) (b := .int .i64 r2) (c := .int .i64 e2) (d := .int .i64 n2) (e := .int .i64 p2) (f := .int .i64 d2) (by omega)).below h6
  have rowa := (row1.far6 (g := w1.heap.size) (a := .int .i64 l2) (b := .int .i64 r2) (c := .int .i64 e2) (d := .int .i64 n2) (e := .int .i64 p2) (f := .int .i64 d2) (by omega)).below h6
  have hb6 := b_step (b_store6 (g := w1.heap.size) (a := .int .i64 l2) (b := .int .i64 r2) (c := .int .i64 e2) (d := .int .i64 n2) (e := .int .i64 p2) (f := .int .i64 d2) hb5 (by omega)) h6
  have lE6 := E6.lt
  have row2 := row2.lower (base' := k2 + 1) (by simp; omega)
  clear A5 D5 E5 hb5 h6 row1 x0 x1 x2 x3 x4 x5 u0 u1 u2 u3 u4 u5 y0 y1 y2 y3 y4 y5 z0 z1 z2 z3 z4 z5
  obtain ⟨y0, y1, y2, y3, y4, y5, z0, z1, z2, z3, z4, z5⟩ := E6.six
  go_upto_region 7 with fail
  have A3 := A6.far6 (g' := k2) (a := .int .i64 l2) (b := .int .i64 r2) (c := .int .i64 e2) (d := .int .i64 n2) (e := .int .i64 p2) (f := .int .i64 d2) (by omega)
  have D3 := D6.far6 (g' := k2) (a := .int .i64 l2) (b := .int .i64 r2) (c := .int .i64 e2) (d := .int .i64 n2) (e := .int .i64 p2) (f := .int .i64 d2) (by omega)
  have E3 := E6.store6 (a' := .int .i64 l2) (b' := .int .i64 r2) (c' := .int .i64 e2) (d' := .int .i64 n2) (e' := .int .i64 p2) (f' := .int .i64 d2)
  have rowa3 := rowa.far6 (g := k2) (a := .int .i64 l2) (b := .int .i64 r2) (c := .int .i64 e2) (d := .int .i64 n2) (e := .int .i64 p2) (f := .int .i64 d2) (by omega)
  have rowb3 := row2.far6 (g := k2) (a := .int .i64 l2) (b := .int .i64 r2) (c := .int .i64 e2) (d := .int .i64 n2) (e := .int .i64 p2) (f := .int .i64 d2) (by omega)
  have hb3 := b_store6 (g := k2) (a := .int .i64 l2) (b := .int .i64 r2) (c := .int .i64 e2) (d := .int .i64 n2) (e := .int .i64 p2) (f := .int .i64 d2) hb6 (by omega)
  clear A6 D6 E6 rowa row2 hb6 y0 y1 y2 y3 y4 y5 z0 z1 z2 z3 z4 z5
  generalize ((((((w6.setCell ⟨k2, 0, none⟩ (.int .i64 l2)).setCell ⟨k2, 1, none⟩ (.int .i64 r2)).setCell ⟨k2, 2, none⟩ (.int .i64 e2)).setCell ⟨k2, 3, none⟩ (.int .i64 n2)).setCell ⟨k2, 4, none⟩ (.int .i64 p2)).setCell ⟨k2, 5, none⟩ (.int .i64 d2)) = w2q at *
  have lq3 := E3.lt
  obtain ⟨y0, y1, y2, y3, y4, y5, z0, z1, z2, z3, z4, z5⟩ := D3.six
  obtain ⟨g0, g1, g2, g3, g4, g5, k0, k1, k2, k3, k4, k5⟩ := E3.six
  go_wp2_with fail
  refine (same_any rowa3 rowb3 hs2).mono ?_
  rintro e0 w7 ⟨rfl, h4⟩
  have A4 := A3.below h4
  have D4 := D3.below h4
  have E4 := E3.below h4
  have hb4 := b_step hb3 h4
  have lA4 := A4.lt
  have lE4 := E4.lt
  have lD4 := D4.lt
  clear A3 D3 E3 rowa3 rowb3 hb3 h4 y0 y1 y2 y3 y4 y5 z0 z1 z2 z3 z4 z5 g0 g1 g2 g3 g4 g5 k0 k1 k2 k3 k4 k5
  obtain ⟨x0, x1, x2, x3, x4, x5, u0, u1, u2, u3, u4, u5⟩ := A4.six
  go_wp2_with fail
  refine (P3.out _).mono ?_
  rintro e0 w8 ⟨v3, rfl, row1, h5⟩
  have A5 := A4.below h5
  have D5 := D4.below h5
  have E5 := E4.below h5
  have hb5 := b_step hb4 h5
  have lD5 := D5.lt
  have lA5 := A5.lt
  have lE5 := E5.lt
  have row1 := row1.lower (base' := k2 + 1) (by omega)
  clear A4 D4 E4 hb4 h5 x0 x1 x2 x3 x4 x5 u0 u1 u2 u3 u4 u5
  obtain ⟨y0, y1, y2, y3, y4, y5, z0, z1, z2, z3, z4, z5⟩ := D5.six
  obtain ⟨x0, x1, x2, x3, x4, x5, u0, u1, u2, u3, u4, u5⟩ := A5.six
  go_wp2_with fail
  refine (R3.out _).mono ?_
  rintro e0 w9 ⟨vr3, rfl, row2, h6⟩
  have A6 := (A5.far6 (g' := w1.heap.size) (a := .int .i64 l3) (b := .int .i64 r3) (c := .int .i64 e3) (d := .int .i64 n3) (e := .int .i64 p3) (f := .int .i64 d3) (by omega)).below h6
  have D6 := (D5.store6 (a' := .int .i64 l3) (b' := .int .i64 r3) (c' := .int .i64 e3) (d' := .int .i64 n3) (e' := .int .i64 p3) (f' := .int .i64 d3)).below h6
  have E6 := (E5.far6 (g' := w1.heap.size) (a := .int .i64 l3) (b := .int .i64 r3) (c := .int .i64 e3) (d := .int .i64 n3) (e := .int .i64 p3) (f := .int .i64 d3) (by omega)).below h6
  have rowa := (row1.far6 (g := w1.heap.size) (a := .int .i64 l3) (b := .int .i64 r3) (c := .int .i64 e3) (d := .int .i64 n3) (e := .int .i64 p3) (f := .int .i64 d3) (by omega)).below h6
  have hb6 := b_step (b_store6 (g := w1.heap.size) (a := .int .i64 l3) (b := .int .i64 r3) (c := .int .i64 e3) (d := .int .i64 n3) (e := .int .i64 p3) (f := .int .i64 d3) hb5 (by omega)) h6
  have lE6 := E6.lt
  have row2 := row2.lower (base' := k2 + 1) (by simp; omega)
  clear A5 D5 E5 hb5 h6 row1 x0 x1 x2 x3 x4 x5 u0 u1 u2 u3 u4 u5 y0 y1 y2 y3 y4 y5 z0 z1 z2 z3 z4 z5
  obtain ⟨y0, y1, y2, y3, y4, y5, z0, z1, z2, z3, z4, z5⟩ := E6.six
  go_upto_region 11 with fail
  have A3 := A6.far6 (g' := k2) (a := .int .i64 l3) (b := .int .i64 r3) (c := .int .i64 e3) (d := .int .i64 n3) (e := .int .i64 p3) (f := .int .i64 d3) (by omega)
  have D3 := D6.far6 (g' := k2) (a := .int .i64 l3) (b := .int .i64 r3) (c := .int .i64 e3) (d := .int .i64 n3) (e := .int .i64 p3) (f := .int .i64 d3) (by omega)
  have E3 := E6.store6 (a' := .int .i64 l3) (b' := .int .i64 r3) (c' := .int .i64 e3) (d' := .int .i64 n3) (e' := .int .i64 p3) (f' := .int .i64 d3)
  have rowa3 := rowa.far6 (g := k2) (a := .int .i64 l3) (b := .int .i64 r3) (c := .int .i64 e3) (d := .int .i64 n3) (e := .int .i64 p3) (f := .int .i64 d3) (by omega)
  have rowb3 := row2.far6 (g := k2) (a := .int .i64 l3) (b := .int .i64 r3) (c := .int .i64 e3) (d := .int .i64 n3) (e := .int .i64 p3) (f := .int .i64 d3) (by omega)
  have hb3 := b_store6 (g := k2) (a := .int .i64 l3) (b := .int .i64 r3) (c := .int .i64 e3) (d := .int .i64 n3) (e := .int .i64 p3) (f := .int .i64 d3) hb6 (by omega)
  clear A6 D6 E6 rowa row2 hb6 y0 y1 y2 y3 y4 y5 z0 z1 z2 z3 z4 z5
  generalize ((((((w9.setCell ⟨k2, 0, none⟩ (.int .i64 l3)).setCell ⟨k2, 1, none⟩ (.int .i64 r3)).setCell ⟨k2, 2, none⟩ (.int .i64 e3)).setCell ⟨k2, 3, none⟩ (.int .i64 n3)).setCell ⟨k2, 4, none⟩ (.int .i64 p3)).setCell ⟨k2, 5, none⟩ (.int .i64 d3)) = w3q at *
  have lq3 := E3.lt
  go_wp2_with fail
  refine (awake_any _).mono ?_
  rintro e0 wa ⟨rfl, h7⟩
  replace A3 := A3.below h7
  replace D3 := D3.below h7
  replace E3 := E3.below h7
  replace rowa3 := rowa3.below h7
  replace rowb3 := rowb3.below h7
  replace hb3 := b_step hb3 h7
  have lq3 := E3.lt
  clear h7
  obtain ⟨y0, y1, y2, y3, y4, y5, z0, z1, z2, z3, z4, z5⟩ := D3.six
  obtain ⟨g0, g1, g2, g3, g4, g5, k0, k1, k2, k3, k4, k5⟩ := E3.six
  go_wp2_with fail
  refine (same_any rowa3 rowb3 hs3).mono ?_
  rintro e0 wb ⟨rfl, h4⟩
  have A4 := A3.below h4
  have D4 := D3.below h4
  have E4 := E3.below h4
  have hb4 := b_step hb3 h4
  have lA4 := A4.lt
  have lE4 := E4.lt
  have lD4 := D4.lt
  clear A3 D3 E3 rowa3 rowb3 hb3 h4 y0 y1 y2 y3 y4 y5 z0 z1 z2 z3 z4 z5 g0 g1 g2 g3 g4 g5 k0 k1 k2 k3 k4 k5
  go_wp2_with fail
  go_ret
  exact ⟨rfl, hb4⟩
end Go.Proofs.Ytemljffppdjmgaa
