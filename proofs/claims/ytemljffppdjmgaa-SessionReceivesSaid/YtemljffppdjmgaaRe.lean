/- SessionReceives returns true for all sessions, times and messages. -/
import Derived.Test.YtemljffppdjmgaaRs
import Derived.Test.YtemljffppdjmgaaSm
namespace Go.Proofs.Ytemljffppdjmgaa
open Go.RowKit
set_option linter.unusedVariables false
set_option linter.unusedSimpArgs false
theorem receives_v (l r e n p d : Int) (m : Msg) (x now : Int) (va ba : Option Addr) (vl vc bl bc : Nat) (hv : (20 : Int) < vl) (w : World) : Calls Try.prog 5 #[S6 ⟨l, r, e, n, p, d⟩, .int .i64 now, MV m x (.slice va vl vc) (.slice ba bl bc)] w fun e w' => e = .returned (.bool true) ∧ Below w.heap.size w w' := by
  obtain ⟨mk, mf, mt, mn, me⟩ := m
  go_enter Try.func5, Try.ntmps5
  go_wp2_with fail
  refine (awake_any _).mono ?_
  rintro e0 w1 ⟨rfl, h1⟩
  go_wp2_with fail
  go_ret
  exact ⟨rfl, b_step (b_alloc (b_alloc (Below.refl _ _) _) _) h1⟩
theorem receives_b (l r e n p d : Int) (m : Msg) (x now : Int) (va ba : Option Addr) (vl vc bl bc : Nat) (hv : (vl : Int) ≤ 20) (hb : (100 : Int) < bl) (w : World) : Calls Try.prog 5 #[S6 ⟨l, r, e, n, p, d⟩, .int .i64 now, MV m x (.slice va vl vc) (.slice ba bl bc)] w fun e w' => e = .returned (.bool true) ∧ Below w.heap.size w w' := by
  obtain ⟨mk, mf, mt, mn, me⟩ := m
  go_enter Try.func5, Try.ntmps5
  go_wp2_with fail
  refine (awake_any _).mono ?_
  rintro e0 w1 ⟨rfl, h1⟩
  go_wp2_with fail
  go_ret
  exact ⟨rfl, b_step (b_alloc (b_alloc (Below.refl _ _) _) _) h1⟩
set_option maxRecDepth 20000 in
set_option maxHeartbeats 8000000 in
theorem receives_go (l r e n p d : Int) (m : Msg) (x now : Int) (va ba : Option Addr) (vl vc bl bc : Nat) (hm : -9223372036854775808 ≤ m.k ∧ m.k ≤ 9223372036854775807) (hv : (vl : Int) ≤ 20) (hb : (bl : Int) ≤ 100) (w : World) :
    Calls Try.prog 5 #[S6 ⟨l, r, e, n, p, d⟩, .int .i64 now, MV m x (.slice va vl vc) (.slice ba bl bc)] w fun e w' => e = .returned (.bool true) ∧ Below w.heap.size w w' := by
  have P1 := Lib.hid (fun w => recv_any ⟨l, r, e, n, p, d⟩ m x now va ba vl vc bl bc hm w)
  have R1 := Lib.hid (fun w => rrecv_any ⟨l, r, e, n, p, d⟩ m x now va ba vl vc bl bc w)
  have hs := recv_short ⟨l, r, e, n, p, d⟩ m
  clear hm
  generalize recvF ⟨l, r, e, n, p, d⟩ m = q at P1 R1 hs
  obtain ⟨⟨l1, r1, e1, n1, p1, d1⟩, ms1⟩ := q
  dsimp only at P1 R1 hs
  obtain ⟨mk, mf, mt, mn, me⟩ := m
  go_enter Try.func5, Try.ntmps5
  go_wp2_with fail
  refine (P1.out _).mono ?_
  rintro e0 w1 ⟨v1, rfl, row1, h1⟩
  have A1 := ((Blk.new w (c6 ⟨l, r, e, n, p, d⟩) 28).alloc (.cells (c8 ⟨mk, mf, mt, mn, me⟩ x (.slice va vl vc) (.slice ba bl bc)) 51)).below h1
  have M1 := (Blk.new (w.alloc (.cells (c6 ⟨l, r, e, n, p, d⟩) 28)) (c8 ⟨mk, mf, mt, mn, me⟩ x (.slice va vl vc) (.slice ba bl bc)) 51).below h1
  rw [World.size_alloc] at M1
  have hb1 := b_step (b_alloc (b_alloc (Below.refl w.heap.size w) (.cells (c6 ⟨l, r, e, n, p, d⟩) 28)) (.cells (c8 ⟨mk, mf, mt, mn, me⟩ x (.slice va vl vc) (.slice ba bl bc)) 51)) h1
  have la := A1.lt
  have lm := M1.lt
  clear h1
  obtain ⟨y0, y1, y2, y3, y4, y5, u0, u1, u2, u3, u4, u5⟩ := A1.six
  have m0 := M1.cell 0
  have m1 := M1.cell 1
  have m2 := M1.cell 2
  have m3 := M1.cell 3
  have m4 := M1.cell 4
  have m5 := M1.cell 5
  have m6 := M1.cell 6
  have m7 := M1.cell 7
  go_wp2_with fail
  refine (R1.out _).mono ?_
  rintro e0 w2 ⟨v2, rfl, row2, h2⟩
  have D2 := (Blk.new w1 (c6 ⟨l1, r1, e1, n1, p1, d1⟩) 28).below h2
  have rowa := (row1.below (b_alloc (Below.refl _ _) (.cells (c6 ⟨l1, r1, e1, n1, p1, d1⟩) 28))).below h2
  have hb2 := b_step (b_alloc hb1 (.cells (c6 ⟨l1, r1, e1, n1, p1, d1⟩) 28)) h2
  have lb := D2.lt
  clear h2 A1 M1 hb1 row1 y0 y1 y2 y3 y4 y5 u0 u1 u2 u3 u4 u5 m0 m1 m2 m3 m4 m5 m6 m7 P1 R1
  obtain ⟨y0, y1, y2, y3, y4, y5, z0, z1, z2, z3, z4, z5⟩ := D2.six
  go_upto_region 5 with fail
  have D3 := D2.alloc (.cells (c6 ⟨l1, r1, e1, n1, p1, d1⟩) 28)
  have E3 := Blk.new w2 (c6 ⟨l1, r1, e1, n1, p1, d1⟩) 28
  have rowa3 := rowa.below (b_alloc (Below.refl _ _) (.cells (c6 ⟨l1, r1, e1, n1, p1, d1⟩) 28))
  have rowb3 := row2.below (b_alloc (Below.refl _ _) (.cells (c6 ⟨l1, r1, e1, n1, p1, d1⟩) 28))
  have hb3 := b_alloc hb2 (.cells (c6 ⟨l1, r1, e1, n1, p1, d1⟩) 28)
  clear D2 rowa row2 hb2 y0 y1 y2 y3 y4 y5 z0 z1 z2 z3 z4 z5
  generalize hk2 : w2.heap.size = k2 at *
  generalize (w2.alloc (.cells (c6 ⟨l1, r1, e1, n1, p1, d1⟩) 28)) = w3 at *
  clear hk2
  go_wp2_with fail
  refine (awake_any _).mono ?_
  rintro e0 wa ⟨rfl, h7⟩
  replace D3 := D3.below h7
  replace E3 := E3.below h7
  replace rowa3 := rowa3.below h7
  replace rowb3 := rowb3.below h7
  replace hb3 := b_step hb3 h7
  clear h7
  obtain ⟨y0, y1, y2, y3, y4, y5, z0, z1, z2, z3, z4, z5⟩ := D3.six
  obtain ⟨g0, g1, g2, g3, g4, g5, k0, k1, k2, k3, k4, k5⟩ := E3.six
  go_wp2_with fail
  refine (same_any rowa3 rowb3 hs).mono ?_
  rintro e0 wb ⟨rfl, h4⟩
  go_wp2_with fail
  go_ret
  exact ⟨rfl, b_step hb3 h4⟩
theorem receives_any (s : Ses) (now : Int) (m : Msg) (x : Int) (va ba : Option Addr) (vl vc bl bc : Nat) (hm : -9223372036854775808 ≤ m.k ∧ m.k ≤ 9223372036854775807) (w : World) :
    Calls Try.prog 5 #[S6 s, .int .i64 now, MV m x (.slice va vl vc) (.slice ba bl bc)] w fun e w' => e = .returned (.bool true) ∧ Below w.heap.size w w' := by
  obtain ⟨l, r, e, n, p, d⟩ := s
  by_cases hv : (20 : Int) < vl
  · exact receives_v l r e n p d m x now va ba vl vc bl bc hv w
  · by_cases hb : (100 : Int) < bl
    · exact receives_b l r e n p d m x now va ba vl vc bl bc (by omega) hb w
    · exact receives_go l r e n p d m x now va ba vl vc bl bc hm (by omega) (by omega) w
end Go.Proofs.Ytemljffppdjmgaa
