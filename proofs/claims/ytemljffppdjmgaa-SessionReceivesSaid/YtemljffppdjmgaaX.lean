/- The reference's Check, New and Accepts return what the session's own do. -/
import Derived.Test.YtemljffppdjmgaaAw
namespace Go.Proofs.Ytemljffppdjmgaa
open Go.RowKit
set_option linter.unusedVariables false
theorem rchk_l0 {l r e n p d : Int}  (h : l < 0) (w : World) : Calls Try.prog 23 #[S6 ⟨l, r, e, n, p, d⟩] w fun e w' => e = .returned (.int .i64 2) ∧ Below w.heap.size w w' := by
  go_enter Try.func23, Try.ntmps23
  go_wp2_with fail
  go_ret
  exact ⟨rfl, b_alloc (Below.refl _ _) _⟩
theorem rchk_l1 {l r e n p d : Int} (l0 : 0 ≤ l) (h : 4 ≤ l) (w : World) : Calls Try.prog 23 #[S6 ⟨l, r, e, n, p, d⟩] w fun e w' => e = .returned (.int .i64 2) ∧ Below w.heap.size w w' := by
  go_enter Try.func23, Try.ntmps23
  go_wp2_with fail
  go_ret
  exact ⟨rfl, b_alloc (Below.refl _ _) _⟩
theorem rchk_r0 {l r e n p d : Int} (l0 : 0 ≤ l) (l1 : l < 4) (h : r < 0) (w : World) : Calls Try.prog 23 #[S6 ⟨l, r, e, n, p, d⟩] w fun e w' => e = .returned (.int .i64 2) ∧ Below w.heap.size w w' := by
  go_enter Try.func23, Try.ntmps23
  go_wp2_with fail
  go_ret
  exact ⟨rfl, b_alloc (Below.refl _ _) _⟩
theorem rchk_r1 {l r e n p d : Int} (l0 : 0 ≤ l) (l1 : l < 4) (r0 : 0 ≤ r) (h : 4 ≤ r) (w : World) : Calls Try.prog 23 #[S6 ⟨l, r, e, n, p, d⟩] w fun e w' => e = .returned (.int .i64 2) ∧ Below w.heap.size w w' := by
  go_enter Try.func23, Try.ntmps23
  go_wp2_with fail
  go_ret
  exact ⟨rfl, b_alloc (Below.refl _ _) _⟩
theorem rchk_eq {l r e n p d : Int} (l0 : 0 ≤ l) (l1 : l < 4) (r0 : 0 ≤ r) (r1 : r < 4) (h : (l == r) = true) (w : World) : Calls Try.prog 23 #[S6 ⟨l, r, e, n, p, d⟩] w fun e w' => e = .returned (.int .i64 1) ∧ Below w.heap.size w w' := by
  go_enter Try.func23, Try.ntmps23
  go_wp2_with fail
  go_ret
  exact ⟨rfl, b_alloc (Below.refl _ _) _⟩
theorem rchk_e0 {l r e n p d : Int} (l0 : 0 ≤ l) (l1 : l < 4) (r0 : 0 ≤ r) (r1 : r < 4) (hne : (l == r) = false) (h : e < 0) (w : World) : Calls Try.prog 23 #[S6 ⟨l, r, e, n, p, d⟩] w fun e w' => e = .returned (.int .i64 2) ∧ Below w.heap.size w w' := by
  go_enter Try.func23, Try.ntmps23
  go_wp2_with fail
  go_ret
  exact ⟨rfl, b_alloc (Below.refl _ _) _⟩
theorem rchk_e1 {l r e n p d : Int} (l0 : 0 ≤ l) (l1 : l < 4) (r0 : 0 ≤ r) (r1 : r < 4) (hne : (l == r) = false) (e0 : 0 ≤ e) (h : 1073741824 < e) (w : World) : Calls Try.prog 23 #[S6 ⟨l, r, e, n, p, d⟩] w fun e w' => e = .returned (.int .i64 2) ∧ Below w.heap.size w w' := by
  go_enter Try.func23, Try.ntmps23
  go_wp2_with fail
  go_ret
  exact ⟨rfl, b_alloc (Below.refl _ _) _⟩
theorem rchk_n0 {l r e n p d : Int} (l0 : 0 ≤ l) (l1 : l < 4) (r0 : 0 ≤ r) (r1 : r < 4) (hne : (l == r) = false) (e0 : 0 ≤ e) (e1 : e ≤ 1073741824) (h : n < 0) (w : World) : Calls Try.prog 23 #[S6 ⟨l, r, e, n, p, d⟩] w fun e w' => e = .returned (.int .i64 2) ∧ Below w.heap.size w w' := by
  go_enter Try.func23, Try.ntmps23
  go_wp2_with fail
  go_ret
  exact ⟨rfl, b_alloc (Below.refl _ _) _⟩
theorem rchk_n1 {l r e n p d : Int} (l0 : 0 ≤ l) (l1 : l < 4) (r0 : 0 ≤ r) (r1 : r < 4) (hne : (l == r) = false) (e0 : 0 ≤ e) (e1 : e ≤ 1073741824) (n0 : 0 ≤ n) (h : 1073741824 < n) (w : World) : Calls Try.prog 23 #[S6 ⟨l, r, e, n, p, d⟩] w fun e w' => e = .returned (.int .i64 2) ∧ Below w.heap.size w w' := by
  go_enter Try.func23, Try.ntmps23
  go_wp2_with fail
  go_ret
  exact ⟨rfl, b_alloc (Below.refl _ _) _⟩
theorem rchk_p0 {l r e n p d : Int} (l0 : 0 ≤ l) (l1 : l < 4) (r0 : 0 ≤ r) (r1 : r < 4) (hne : (l == r) = false) (e0 : 0 ≤ e) (e1 : e ≤ 1073741824) (n0 : 0 ≤ n) (n1 : n ≤ 1073741824) (h : p < 0) (w : World) : Calls Try.prog 23 #[S6 ⟨l, r, e, n, p, d⟩] w fun e w' => e = .returned (.int .i64 12) ∧ Below w.heap.size w w' := by
  go_enter Try.func23, Try.ntmps23
  go_wp2_with fail
  go_ret
  exact ⟨rfl, b_alloc (Below.refl _ _) _⟩
theorem rchk_p1 {l r e n p d : Int} (l0 : 0 ≤ l) (l1 : l < 4) (r0 : 0 ≤ r) (r1 : r < 4) (hne : (l == r) = false) (e0 : 0 ≤ e) (e1 : e ≤ 1073741824) (n0 : 0 ≤ n) (n1 : n ≤ 1073741824) (p0 : 0 ≤ p) (h : 2 < p) (w : World) : Calls Try.prog 23 #[S6 ⟨l, r, e, n, p, d⟩] w fun e w' => e = .returned (.int .i64 12) ∧ Below w.heap.size w w' := by
  go_enter Try.func23, Try.ntmps23
  go_wp2_with fail
  go_ret
  exact ⟨rfl, b_alloc (Below.refl _ _) _⟩
theorem rchk_d0 {l r e n p d : Int} (l0 : 0 ≤ l) (l1 : l < 4) (r0 : 0 ≤ r) (r1 : r < 4) (hne : (l == r) = false) (e0 : 0 ≤ e) (e1 : e ≤ 1073741824) (n0 : 0 ≤ n) (n1 : n ≤ 1073741824) (p0 : 0 ≤ p) (p1 : p ≤ 2) (h : d < 0) (w : World) : Calls Try.prog 23 #[S6 ⟨l, r, e, n, p, d⟩] w fun e w' => e = .returned (.int .i64 24) ∧ Below w.heap.size w w' := by
  go_enter Try.func23, Try.ntmps23
  go_wp2_with fail
  go_ret
  exact ⟨rfl, b_alloc (Below.refl _ _) _⟩
theorem rchk_d1 {l r e n p d : Int} (l0 : 0 ≤ l) (l1 : l < 4) (r0 : 0 ≤ r) (r1 : r < 4) (hne : (l == r) = false) (e0 : 0 ≤ e) (e1 : e ≤ 1073741824) (n0 : 0 ≤ n) (n1 : n ≤ 1073741824) (p0 : 0 ≤ p) (p1 : p ≤ 2) (d0 : 0 ≤ d) (h : 1073741824 < d) (w : World) : Calls Try.prog 23 #[S6 ⟨l, r, e, n, p, d⟩] w fun e w' => e = .returned (.int .i64 24) ∧ Below w.heap.size w w' := by
  go_enter Try.func23, Try.ntmps23
  go_wp2_with fail
  go_ret
  exact ⟨rfl, b_alloc (Below.refl _ _) _⟩
theorem rchk_pd {l r e n p d : Int} (l0 : 0 ≤ l) (l1 : l < 4) (r0 : 0 ≤ r) (r1 : r < 4) (hne : (l == r) = false) (e0 : 0 ≤ e) (e1 : e ≤ 1073741824) (n0 : 0 ≤ n) (n1 : n ≤ 1073741824) (p0 : 0 ≤ p) (p1 : p ≤ 2) (d0 : 0 ≤ d) (d1 : d ≤ 1073741824) (h : (p != 1) = true) (hq : (d != 0) = true) (w : World) : Calls Try.prog 23 #[S6 ⟨l, r, e, n, p, d⟩] w fun e w' => e = .returned (.int .i64 24) ∧ Below w.heap.size w w' := by
  go_enter Try.func23, Try.ntmps23
  go_wp2_with fail
  go_ret
  exact ⟨rfl, b_alloc (Below.refl _ _) _⟩
theorem rchk_ok1 {l r e n p d : Int} (l0 : 0 ≤ l) (l1 : l < 4) (r0 : 0 ≤ r) (r1 : r < 4) (hne : (l == r) = false) (e0 : 0 ≤ e) (e1 : e ≤ 1073741824) (n0 : 0 ≤ n) (n1 : n ≤ 1073741824) (p0 : 0 ≤ p) (p1 : p ≤ 2) (d0 : 0 ≤ d) (d1 : d ≤ 1073741824) (h : (p != 1) = false) (w : World) : Calls Try.prog 23 #[S6 ⟨l, r, e, n, p, d⟩] w fun e w' => e = .returned (.int .i64 0) ∧ Below w.heap.size w w' := by
  go_enter Try.func23, Try.ntmps23
  go_wp2_with fail
  go_ret
  exact ⟨rfl, b_alloc (Below.refl _ _) _⟩
theorem rchk_ok2 {l r e n p d : Int} (l0 : 0 ≤ l) (l1 : l < 4) (r0 : 0 ≤ r) (r1 : r < 4) (hne : (l == r) = false) (e0 : 0 ≤ e) (e1 : e ≤ 1073741824) (n0 : 0 ≤ n) (n1 : n ≤ 1073741824) (p0 : 0 ≤ p) (p1 : p ≤ 2) (d0 : 0 ≤ d) (d1 : d ≤ 1073741824) (h : (p != 1) = true) (hq : (d != 0) = false) (w : World) : Calls Try.prog 23 #[S6 ⟨l, r, e, n, p, d⟩] w fun e w' => e = .returned (.int .i64 0) ∧ Below w.heap.size w w' := by
  go_enter Try.func23, Try.ntmps23
  go_wp2_with fail
  go_ret
  exact ⟨rfl, b_alloc (Below.refl _ _) _⟩
theorem rchk_any (s : Ses) (w : World) : Calls Try.prog 23 #[S6 s] w fun e w' => e = .returned (.int .i64 (chk s)) ∧ Below w.heap.size w w' := by
  obtain ⟨l, r, e, n, p, d⟩ := s
  unfold chk
  dsimp only
  by_cases h : l < 0
  · rw [if_pos (by omega)]
    exact rchk_l0  h w
  have l0 : 0 ≤ l := by omega
  clear h
  by_cases h : 4 ≤ l
  · rw [if_pos (by omega)]
    exact rchk_l1 l0 h w
  have l1 : l < 4 := by omega
  clear h
  by_cases h : r < 0
  · rw [if_pos (by omega)]
    exact rchk_r0 l0 l1 h w
  have r0 : 0 ≤ r := by omega
  clear h
  by_cases h : 4 ≤ r
  · rw [if_pos (by omega)]
    exact rchk_r1 l0 l1 r0 h w
  have r1 : r < 4 := by omega
  clear h
  by_cases h : l = r
  · rw [if_neg (by omega), if_pos (by omega)]
    exact rchk_eq l0 l1 r0 r1 (beq_iff_eq.2 h) w
  have hnq : l ≠ r := h
  have hne : (l == r) = false := beq_eq_false_iff_ne.2 h
  clear h
  by_cases h : e < 0
  · rw [if_neg (by omega), if_neg (by omega), if_pos (by omega)]
    exact rchk_e0 l0 l1 r0 r1 hne h w
  have e0 : 0 ≤ e := by omega
  clear h
  by_cases h : 1073741824 < e
  · rw [if_neg (by omega), if_neg (by omega), if_pos (by omega)]
    exact rchk_e1 l0 l1 r0 r1 hne e0 h w
  have e1 : e ≤ 1073741824 := by omega
  clear h
  by_cases h : n < 0
  · rw [if_neg (by omega), if_neg (by omega), if_pos (by omega)]
    exact rchk_n0 l0 l1 r0 r1 hne e0 e1 h w
  have n0 : 0 ≤ n := by omega
  clear h
  by_cases h : 1073741824 < n
  · rw [if_neg (by omega), if_neg (by omega), if_pos (by omega)]
    exact rchk_n1 l0 l1 r0 r1 hne e0 e1 n0 h w
  have n1 : n ≤ 1073741824 := by omega
  clear h
  by_cases h : p < 0
  · rw [if_neg (by omega), if_neg (by omega), if_neg (by omega), if_pos (by omega)]
    exact rchk_p0 l0 l1 r0 r1 hne e0 e1 n0 n1 h w
  have p0 : 0 ≤ p := by omega
  clear h
  by_cases h : 2 < p
  · rw [if_neg (by omega), if_neg (by omega), if_neg (by omega), if_pos (by omega)]
    exact rchk_p1 l0 l1 r0 r1 hne e0 e1 n0 n1 p0 h w
  have p1 : p ≤ 2 := by omega
  clear h
  by_cases h : d < 0
  · rw [if_neg (by omega), if_neg (by omega), if_neg (by omega), if_neg (by omega), if_pos (by omega)]
    exact rchk_d0 l0 l1 r0 r1 hne e0 e1 n0 n1 p0 p1 h w
  have d0 : 0 ≤ d := by omega
  clear h
  by_cases h : 1073741824 < d
  · rw [if_neg (by omega), if_neg (by omega), if_neg (by omega), if_neg (by omega), if_pos (by omega)]
    exact rchk_d1 l0 l1 r0 r1 hne e0 e1 n0 n1 p0 p1 d0 h w
  have d1 : d ≤ 1073741824 := by omega
  clear h
  rw [if_neg (by omega), if_neg hnq, if_neg (by omega), if_neg (by omega)]
  by_cases h : p = 1
  · rw [if_neg (by omega)]
    exact rchk_ok1 l0 l1 r0 r1 hne e0 e1 n0 n1 p0 p1 d0 d1 (bne_eq_false_iff_eq.2 h) w
  · by_cases hd : d = 0
    · rw [if_neg (by omega)]
      exact rchk_ok2 l0 l1 r0 r1 hne e0 e1 n0 n1 p0 p1 d0 d1 (bne_iff_ne.2 h) (bne_eq_false_iff_eq.2 hd) w
    · rw [if_pos (by omega)]
      exact rchk_pd l0 l1 r0 r1 hne e0 e1 n0 n1 p0 p1 d0 d1 (bne_iff_ne.2 h) (bne_iff_ne.2 hd) w
theorem rchk_ok {s : Ses} (h : Ok s) (w : World) : Calls Try.prog 23 #[S6 s] w fun e w' => e = .returned (.int .i64 0) ∧ Below w.heap.size w w' := by
  have := rchk_any s w
  rwa [chk_zero.2 h] at this
theorem rchk_c {s : Ses} {c : Int} (h : chk s = c) (w : World) : Calls Try.prog 23 #[S6 s] w fun e w' => e = .returned (.int .i64 c) ∧ Below w.heap.size w w' := h ▸ rchk_any s w
set_option maxHeartbeats 1000000 in
theorem rnew_any (l r e n : Int) (w : World) : Calls Try.prog 21 #[.int .i64 l, .int .i64 r, .int .i64 e, .int .i64 n] w fun e' w' => e' = .returned (.tuple #[S6 (newF l r e n).1, .int .i64 (newF l r e n).2]) ∧ Below w.heap.size w w' := by
  unfold newF
  have HC := Lib.hid (fun w => rchk_any ⟨l, r, e, n, 0, 0⟩ w)
  generalize chk ⟨l, r, e, n, 0, 0⟩ = c at HC
  by_cases h : c ≠ 0
  · rw [if_pos h]
    have h' : (c != 0) = true := bne_iff_ne.2 h
    clear h
    go_enter Try.func21, Try.ntmps21
    go_wp2_with fail
    refine (HC.out _).mono ?_
    rintro e0 w1 ⟨rfl, h1⟩
    have D1 := ((Blk.new w _ _).alloc _).below h1
    have A1 := (Blk.new (w.alloc _) _ _).below h1
    simp only [World.size_alloc] at A1
    obtain ⟨c0, c1, c2, c3, c4, c5, f0, f1, f2, f3, f4, f5⟩ := A1.six
    obtain ⟨d0, d1, d2, d3, d4, d5, e0, e1, e2, e3, e4, e5⟩ := D1.six
    go_wp2_with fail
    exact bodyPost_ret (results_ct rfl _ _ w.heap.size 28 (c6 zS) _ rfl D1.store6 Try.underlying28 rfl (by kernel_rfl)) rfl ⟨rfl, b_store6 (b_step (b_alloc (b_alloc (Below.refl _ _) _) _) h1) (by omega)⟩
  · rw [if_neg h]
    have h' : (c != 0) = false := bne_eq_false_iff_eq.2 (Decidable.not_not.1 h)
    clear h
    go_enter Try.func21, Try.ntmps21
    go_wp2_with fail
    refine (HC.out _).mono ?_
    rintro e0 w1 ⟨rfl, h1⟩
    have D1 := ((Blk.new w _ _).alloc _).below h1
    have A1 := (Blk.new (w.alloc _) _ _).below h1
    simp only [World.size_alloc] at A1
    obtain ⟨c0, c1, c2, c3, c4, c5, f0, f1, f2, f3, f4, f5⟩ := A1.six
    obtain ⟨d0, d1, d2, d3, d4, d5, e0, e1, e2, e3, e4, e5⟩ := D1.six
    go_wp2_with fail
    exact bodyPost_ret (results_ct rfl _ _ w.heap.size 28 (c6 ⟨l, r, e, n, 0, 0⟩) _ rfl D1.store6 Try.underlying28 rfl (by kernel_rfl)) rfl ⟨rfl, b_store6 (b_step (b_alloc (b_alloc (Below.refl _ _) _) _) h1) (by omega)⟩
theorem racc_chk {l r e n p d mn me c : Int} (hz : chk ⟨l, r, e, n, p, d⟩ = c) (hc : (c != 0) = true) (w : World) :
    Calls Try.prog 24 #[S6 ⟨l, r, e, n, p, d⟩, .int .i64 mn, .int .i64 me] w fun e' w' => e' = .returned (.int .i64 c) ∧ Below w.heap.size w w' := by
  have HC := Lib.hid (fun w => rchk_c hz w)
  clear hz
  go_enter Try.func24, Try.ntmps24
  go_wp2_with fail
  refine (HC.out _).mono ?_
  rintro e0 w1 ⟨rfl, h1⟩
  have A1 := (Blk.new w _ _).below h1
  obtain ⟨c0, c1, c2, c3, c4, c5, f0, f1, f2, f3, f4, f5⟩ := A1.six
  go_wp2_with fail
  go_ret
  exact ⟨rfl, b_step (b_alloc (Below.refl _ _) _) h1⟩
theorem racc_state {l r e n p d mn me : Int} (hk : Ok ⟨l, r, e, n, p, d⟩) (hp : (p != 2) = true) (w : World) :
    Calls Try.prog 24 #[S6 ⟨l, r, e, n, p, d⟩, .int .i64 mn, .int .i64 me] w fun e' w' => e' = .returned (.int .i64 12) ∧ Below w.heap.size w w' := by
  have HC := Lib.hid (rchk_ok hk)
  clear hk
  go_enter Try.func24, Try.ntmps24
  go_wp2_with fail
  refine (HC.out _).mono ?_
  rintro e0 w1 ⟨rfl, h1⟩
  have A1 := (Blk.new w _ _).below h1
  obtain ⟨c0, c1, c2, c3, c4, c5, f0, f1, f2, f3, f4, f5⟩ := A1.six
  go_wp2_with fail
  go_ret
  exact ⟨rfl, b_step (b_alloc (Below.refl _ _) _) h1⟩
theorem racc_e0 {l r e n p d mn me : Int} (hk : Ok ⟨l, r, e, n, p, d⟩) (hp : (p != 2) = false) (h : me < e) (w : World) :
    Calls Try.prog 24 #[S6 ⟨l, r, e, n, p, d⟩, .int .i64 mn, .int .i64 me] w fun e' w' => e' = .returned (.int .i64 13) ∧ Below w.heap.size w w' := by
  have HC := Lib.hid (rchk_ok hk)
  clear hk
  go_enter Try.func24, Try.ntmps24
  go_wp2_with fail
  refine (HC.out _).mono ?_
  rintro e0 w1 ⟨rfl, h1⟩
  have A1 := (Blk.new w _ _).below h1
  obtain ⟨c0, c1, c2, c3, c4, c5, f0, f1, f2, f3, f4, f5⟩ := A1.six
  go_wp2_with fail
  go_ret
  exact ⟨rfl, b_step (b_alloc (Below.refl _ _) _) h1⟩
theorem racc_n0 {l r e n p d mn me : Int} (hk : Ok ⟨l, r, e, n, p, d⟩) (hp : (p != 2) = false) (h0 : e ≤ me) (h : mn < n) (w : World) :
    Calls Try.prog 24 #[S6 ⟨l, r, e, n, p, d⟩, .int .i64 mn, .int .i64 me] w fun e' w' => e' = .returned (.int .i64 13) ∧ Below w.heap.size w w' := by
  have HC := Lib.hid (rchk_ok hk)
  clear hk
  go_enter Try.func24, Try.ntmps24
  go_wp2_with fail
  refine (HC.out _).mono ?_
  rintro e0 w1 ⟨rfl, h1⟩
  have A1 := (Blk.new w _ _).below h1
  obtain ⟨c0, c1, c2, c3, c4, c5, f0, f1, f2, f3, f4, f5⟩ := A1.six
  go_wp2_with fail
  go_ret
  exact ⟨rfl, b_step (b_alloc (Below.refl _ _) _) h1⟩
theorem racc_e1 {l r e n p d mn me : Int} (hk : Ok ⟨l, r, e, n, p, d⟩) (hp : (p != 2) = false) (h1 : n ≤ mn) (h : e < me) (w : World) :
    Calls Try.prog 24 #[S6 ⟨l, r, e, n, p, d⟩, .int .i64 mn, .int .i64 me] w fun e' w' => e' = .returned (.int .i64 1) ∧ Below w.heap.size w w' := by
  have HC := Lib.hid (rchk_ok hk)
  clear hk
  go_enter Try.func24, Try.ntmps24
  go_wp2_with fail
  refine (HC.out _).mono ?_
  rintro e0 w1 ⟨rfl, h2⟩
  have A1 := (Blk.new w _ _).below h2
  obtain ⟨c0, c1, c2, c3, c4, c5, f0, f1, f2, f3, f4, f5⟩ := A1.six
  go_wp2_with fail
  go_ret
  exact ⟨rfl, b_step (b_alloc (Below.refl _ _) _) h2⟩
theorem racc_n1 {l r e n p d mn : Int} (hk : Ok ⟨l, r, e, n, p, d⟩) (hp : (p != 2) = false) (h : n < mn) (w : World) :
    Calls Try.prog 24 #[S6 ⟨l, r, e, n, p, d⟩, .int .i64 mn, .int .i64 e] w fun e' w' => e' = .returned (.int .i64 1) ∧ Below w.heap.size w w' := by
  have HC := Lib.hid (rchk_ok hk)
  clear hk
  go_enter Try.func24, Try.ntmps24
  go_wp2_with fail
  refine (HC.out _).mono ?_
  rintro e0 w1 ⟨rfl, h1⟩
  have A1 := (Blk.new w _ _).below h1
  obtain ⟨c0, c1, c2, c3, c4, c5, f0, f1, f2, f3, f4, f5⟩ := A1.six
  go_wp2_with fail
  go_ret
  exact ⟨rfl, b_step (b_alloc (Below.refl _ _) _) h1⟩
theorem racc_ok {l r e n p d : Int} (hk : Ok ⟨l, r, e, n, p, d⟩) (hp : (p != 2) = false) (w : World) :
    Calls Try.prog 24 #[S6 ⟨l, r, e, n, p, d⟩, .int .i64 n, .int .i64 e] w fun e' w' => e' = .returned (.int .i64 0) ∧ Below w.heap.size w w' := by
  have HC := Lib.hid (rchk_ok hk)
  clear hk
  go_enter Try.func24, Try.ntmps24
  go_wp2_with fail
  refine (HC.out _).mono ?_
  rintro e0 w1 ⟨rfl, h1⟩
  have A1 := (Blk.new w _ _).below h1
  obtain ⟨c0, c1, c2, c3, c4, c5, f0, f1, f2, f3, f4, f5⟩ := A1.six
  go_wp2_with fail
  go_ret
  exact ⟨rfl, b_step (b_alloc (Below.refl _ _) _) h1⟩
theorem racc_any (s : Ses) (mn me : Int) (w : World) :
    Calls Try.prog 24 #[S6 s, .int .i64 mn, .int .i64 me] w fun e' w' => e' = .returned (.int .i64 (accF s mn me)) ∧ Below w.heap.size w w' := by
  obtain ⟨l, r, e, n, p, d⟩ := s
  unfold accF
  by_cases h : chk ⟨l, r, e, n, p, d⟩ ≠ 0
  · rw [if_pos h]
    exact racc_chk rfl (bne_iff_ne.2 h) w
  · rw [if_neg h]
    have hk := chk_zero.1 (Decidable.not_not.1 h)
    dsimp only
    by_cases hp : p ≠ 2
    · rw [if_pos hp]
      exact racc_state hk (bne_iff_ne.2 hp) w
    · rw [if_neg hp]
      have hp' : (p != 2) = false := bne_eq_false_iff_eq.2 (Decidable.not_not.1 hp)
      by_cases h1 : me < e
      · rw [if_pos (.inl h1)]
        exact racc_e0 hk hp' h1 w
      · by_cases h2 : mn < n
        · rw [if_pos (.inr h2)]
          exact racc_n0 hk hp' (by omega) h2 w
        · rw [if_neg (by omega)]
          by_cases h3 : e < me
          · rw [if_pos (.inl h3)]
            exact racc_e1 hk hp' (by omega) h3 w
          · obtain rfl : me = e := by omega
            by_cases h4 : n < mn
            · rw [if_pos (.inr h4)]
              exact racc_n1 hk hp' h4 w
            · rw [if_neg (by omega)]
              obtain rfl : mn = n := by omega
              exact racc_ok hk hp' w
end Go.Proofs.Ytemljffppdjmgaa
