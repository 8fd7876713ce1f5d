/- The contract of ends. -/
import Derived.Test.YtemljffppdjmgaaS
namespace Go.Proofs.Ytemljffppdjmgaa
open Go.RowKit
set_option linter.unusedVariables false
theorem new_ok (l r e n : Int) (hk : Ok ⟨l, r, e, n, 0, 0⟩) (w : World) : Calls Try.prog 20 #[.int .i64 l, .int .i64 r, .int .i64 e, .int .i64 n] w fun e' w' => e' = .returned (.tuple #[S6 ⟨l, r, e, n, 0, 0⟩, .int .i64 0]) ∧ Below w.heap.size w w' := by
  have h := new_any l r e n w
  have h2 : newF l r e n = (⟨l, r, e, n, 0, 0⟩, 0) := by
    unfold newF
    rw [chk_zero.2 hk]
    rfl
  rwa [h2] at h
theorem b_12 {w W : World} {g : Nat} {a' b' c' d' e' f' m' n' o' p' q' r' : Value} (h : Below w.heap.size w W) (hg : w.heap.size ≤ g) :
    Below w.heap.size w ((((((((((((W.setCell ⟨g, 0, none⟩ a').setCell ⟨g, 1, none⟩ b').setCell ⟨g, 2, none⟩ c').setCell ⟨g, 3, none⟩ d').setCell ⟨g, 4, none⟩ e').setCell ⟨g, 5, none⟩ f').setCell ⟨g, 6, none⟩ m').setCell ⟨g, 7, none⟩ n').setCell ⟨g, 8, none⟩ o').setCell ⟨g, 9, none⟩ p').setCell ⟨g, 10, none⟩ q').setCell ⟨g, 11, none⟩ r') :=
  b_set (b_set (b_set (b_set (b_set (b_set (b_set (b_set (b_set (b_set (b_set (b_set h hg) hg) hg) hg) hg) hg) hg) hg) hg) hg) hg) hg
/-- The two ends at the start. -/
def endA (e n : Int) : Ses := ⟨0, 1, e % 4, n % 6, 0, 0⟩
def endB (e n : Int) : Ses := ⟨1, 0, e % 4, n % 6, 0, 0⟩
theorem ok_A (e n : Int) : Ok (endA e n) := by unfold endA; constructor <;> dsimp only <;> first | omega | simp
theorem ok_B (e n : Int) : Ok (endB e n) := by unfold endB; constructor <;> dsimp only <;> first | omega | simp
set_option maxHeartbeats 4000000 in
theorem ends_any (e0 e1 n0 n1 : Int) (a0 : 0 ≤ e0) (a1 : e0 ≤ 255) (b0 : 0 ≤ e1) (b1 : e1 ≤ 255) (c0 : 0 ≤ n0) (c1 : n0 ≤ 255) (d0 : 0 ≤ n1) (d1 : n1 ≤ 255) (w : World) :
    Calls Try.prog 11 #[.agg #[.int .u8 e0, .int .u8 e1, .int .u8 n0, .int .u8 n1]] w fun e w' => e = .returned (.tuple #[A12 (endA e0 n0) (endB e1 n1), .bool true]) ∧ Below w.heap.size w w' := by
  have N1 := Lib.hid (fun w => new_ok 0 1 (e0 % 4) (n0 % 6) (ok_A e0 n0) w)
  have N2 := Lib.hid (fun w => new_ok 1 0 (e1 % 4) (n1 % 6) (ok_B e1 n1) w)
  go_enter Try.func11, Try.ntmps11
  go_wp2_with fail
  refine (N1.out _).mono ?_
  rintro e w1 ⟨rfl, h1⟩
  have A1 := ((Blk.new w #[.int .u8 e0, .int .u8 e1, .int .u8 n0, .int .u8 n1] 24).alloc (.cells #[.int .i64 0, .int .i64 0, .int .i64 0, .int .i64 0, .int .i64 0, .int .i64 0, .int .i64 0, .int .i64 0, .int .i64 0, .int .i64 0, .int .i64 0, .int .i64 0] 29)).below h1
  have Z1 := (Blk.new (w.alloc (.cells #[.int .u8 e0, .int .u8 e1, .int .u8 n0, .int .u8 n1] 24)) #[.int .i64 0, .int .i64 0, .int .i64 0, .int .i64 0, .int .i64 0, .int .i64 0, .int .i64 0, .int .i64 0, .int .i64 0, .int .i64 0, .int .i64 0, .int .i64 0] 29).below h1
  rw [World.size_alloc] at Z1
  have b1 := b_step (b_alloc (b_alloc (Below.refl w.heap.size w) (.cells #[.int .u8 e0, .int .u8 e1, .int .u8 n0, .int .u8 n1] 24)) (.cells #[.int .i64 0, .int .i64 0, .int .i64 0, .int .i64 0, .int .i64 0, .int .i64 0, .int .i64 0, .int .i64 0, .int .i64 0, .int .i64 0, .int .i64 0, .int .i64 0] 29)) h1
  have l1 := Z1.lt
  have l0 := A1.lt
  clear h1
  obtain ⟨y0, y1, y2, y3, z0, z1, z2, z3⟩ := A1.four
  go_wp2_with fail
  refine (N2.out _).mono ?_
  rintro e w2 ⟨rfl, h2⟩
  have Z2 := (Z1.alloc (.cells (c6 ⟨0, 1, e0 % 4, n0 % 6, 0, 0⟩) 28)).below h2
  have D2 := (Blk.new w1 (c6 ⟨0, 1, e0 % 4, n0 % 6, 0, 0⟩) 28).below h2
  have b2 := b_step (b_alloc b1 (.cells (c6 ⟨0, 1, e0 % 4, n0 % 6, 0, 0⟩) 28)) h2
  have l2 := D2.lt
  clear h2 Z1 A1 b1 y0 y1 y2 y3 z0 z1 z2 z3
  have Z3 := Z2.alloc (.cells (c6 ⟨1, 0, e1 % 4, n1 % 6, 0, 0⟩) 28)
  have D3 := D2.alloc (.cells (c6 ⟨1, 0, e1 % 4, n1 % 6, 0, 0⟩) 28)
  have E3 := Blk.new w2 (c6 ⟨1, 0, e1 % 4, n1 % 6, 0, 0⟩) 28
  have b3 := b_alloc b2 (.cells (c6 ⟨1, 0, e1 % 4, n1 % 6, 0, 0⟩) 28)
  go_upto_region 3 with fail
  generalize hy : w2.heap.size = k2 at *
  generalize (w2.alloc (.cells (c6 ⟨1, 0, e1 % 4, n1 % 6, 0, 0⟩) 28)) = w3 at *
  clear hy
  obtain ⟨y0, y1, y2, y3, y4, y5, z0, z1, z2, z3, z4, z5⟩ := D3.six
  obtain ⟨p0, p1, p2, p3, p4, p5, q0, q1, q2, q3, q4, q5⟩ := E3.six
  obtain ⟨u0, u1, u2, u3, u4, u5, u6, u7, u8, u9, u10, u11, v0, v1, v2, v3, v4, v5, v6, v7, v8, v9, v10, v11⟩ := Z3.twelve
  have lz := Z3.lt
  have T1 := Lib.hid (Z3.store12 (a' := .int .i64 (0)) (b' := .int .i64 (1)) (c' := .int .i64 (e0 % 4)) (d' := .int .i64 (n0 % 6)) (e' := .int .i64 (0)) (f' := .int .i64 (0)) (m' := .int .i64 (1)) (n' := .int .i64 (0)) (o' := .int .i64 (e1 % 4)) (p' := .int .i64 (n1 % 6)) (q' := .int .i64 (0)) (r' := .int .i64 (0)))
  have G1 := Lib.hid (b_12 (g := w.heap.size + 1) (a' := .int .i64 (0)) (b' := .int .i64 (1)) (c' := .int .i64 (e0 % 4)) (d' := .int .i64 (n0 % 6)) (e' := .int .i64 (0)) (f' := .int .i64 (0)) (m' := .int .i64 (1)) (n' := .int .i64 (0)) (o' := .int .i64 (e1 % 4)) (p' := .int .i64 (n1 % 6)) (q' := .int .i64 (0)) (r' := .int .i64 (0)) b3 (by omega))
  clear Z3 D3 E3 Z2 D2 b2 b3
  go_wp2_with fail
  exact bodyPost_ret (results_ct rfl _ _ (w.heap.size + 1) 29 (c12 (endA e0 n0) (endB e1 n1)) _ rfl T1.out Try.underlying29 rfl (by kernel_rfl)) rfl ⟨rfl, G1.out⟩
end Go.Proofs.Ytemljffppdjmgaa
