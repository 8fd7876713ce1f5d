/- The contracts of New, Accepts, Dial, Expire and Close, whole. -/
import Derived.Test.YtemljffppdjmgaaRd
namespace Go.Proofs.Ytemljffppdjmgaa
open Go.RowKit
instance (a b : Int) : Decidable (InTime a b) := by unfold InTime; infer_instance
def dialF (s : Ses) (a b : Int) : Ses × List Msg × Int :=
  if chk s ≠ 0 then (zS, [], chk s) else if s.p ≠ 0 then (zS, [], 26) else if ¬ InTime a b then (zS, [], 24) else if s.n = 1073741824 then (zS, [], 11)
  else (⟨s.l, s.r, s.e, s.n + 1, 1, a + b⟩, [⟨5, s.l, s.r, s.n + 1, s.e⟩], 0)
theorem dial_any (s : Ses) (a b : Int) (w : World) : Calls Try.prog 14 #[S6 s, .int .i64 a, .int .i64 b] w (Dialled (dialF s a b).1 (dialF s a b).2.1 (dialF s a b).2.2 w) := by
  unfold dialF
  by_cases h : chk s ≠ 0
  · rw [if_pos h]
    exact dial_no (fun k => h (chk_zero.2 k)) w
  · rw [if_neg h]
    have hk := chk_zero.1 (Decidable.not_not.1 h)
    by_cases hp : s.p ≠ 0
    · rw [if_pos hp]
      exact dial_busy hk hp w
    · rw [if_neg hp]
      have hp' : s.p = 0 := by omega
      by_cases ht : ¬ InTime a b
      · rw [if_pos ht]
        exact dial_late hk hp' ht w
      · rw [if_neg ht]
        by_cases hn : s.n = 1073741824
        · rw [if_pos hn]
          exact dial_full hk hp' (Decidable.not_not.1 ht) hn w
        · rw [if_neg hn]
          have := hk.n1
          exact dial_ok hk hp' (Decidable.not_not.1 ht) (by omega) w
def expireF (s : Ses) (a b : Int) : Ses × List Msg :=
  if chk s ≠ 0 ∨ s.p ≠ 1 ∨ a < s.d then (s, []) else if InTime a b then ({ s with d := a + b }, [⟨5, s.l, s.r, s.n, s.e⟩]) else ({ s with p := 0, d := 0 }, [])
theorem expire_any (s : Ses) (a b : Int) (w : World) : Calls Try.prog 26 #[S6 s, .int .i64 a, .int .i64 b] w (Gave (expireF s a b).1 (expireF s a b).2 w) := by
  unfold expireF
  by_cases h : chk s ≠ 0 ∨ s.p ≠ 1 ∨ a < s.d
  · rw [if_pos h]
    refine expire_same ?_ w
    rcases h with h | h
    · exact .inl fun k => h (chk_zero.2 k)
    · exact .inr h
  · rw [if_neg h]
    have h1 : chk s = 0 := Decidable.not_not.1 fun k => h (.inl k)
    have h2 : s.p = 1 := Decidable.not_not.1 fun k => h (.inr (.inl k))
    have h3 : s.d ≤ a := by
      have : ¬ a < s.d := fun k => h (.inr (.inr k))
      omega
    by_cases ht : InTime a b
    · rw [if_pos ht]
      exact expire_hello (chk_zero.1 h1) h2 h3 ht w
    · rw [if_neg ht]
      exact expire_close (chk_zero.1 h1) h2 h3 ht w
def closeF (s : Ses) : Ses × List Msg := if chk s ≠ 0 ∨ s.p = 0 then (s, []) else ({ s with p := 0, d := 0 }, [⟨7, s.l, s.r, s.n, s.e⟩])
theorem close_any (s : Ses) (w : World) : Calls Try.prog 13 #[S6 s] w (Gave (closeF s).1 (closeF s).2 w) := by
  unfold closeF
  by_cases h : chk s ≠ 0 ∨ s.p = 0
  · rw [if_pos h]
    refine close_same ?_ w
    rcases h with h | h
    · exact .inl fun k => h (chk_zero.2 k)
    · exact .inr h
  · rw [if_neg h]
    have h1 : chk s = 0 := Decidable.not_not.1 fun k => h (.inl k)
    exact close_some (chk_zero.1 h1) (fun k => h (.inr k)) w
def newF (l r e n : Int) : Ses × Int := if chk ⟨l, r, e, n, 0, 0⟩ ≠ 0 then (zS, chk ⟨l, r, e, n, 0, 0⟩) else (⟨l, r, e, n, 0, 0⟩, 0)
set_option maxHeartbeats 1000000 in
theorem new_any (l r e n : Int) (w : World) : Calls Try.prog 20 #[.int .i64 l, .int .i64 r, .int .i64 e, .int .i64 n] w fun e' w' => e' = .returned (.tuple #[S6 (newF l r e n).1, .int .i64 (newF l r e n).2]) ∧ Below w.heap.size w w' := by
  unfold newF
  have HC := Lib.hid (fun w => chk_any ⟨l, r, e, n, 0, 0⟩ w)
  generalize chk ⟨l, r, e, n, 0, 0⟩ = c at HC
  by_cases h : c ≠ 0
  · rw [if_pos h]
    have h' : (c != 0) = true := bne_iff_ne.2 h
    clear h
    go_enter Try.func20, Try.ntmps20
    go_wp2_with fail
    refine (HC.out _).mono ?_
    rintro e0 w1 ⟨rfl, h1⟩
    have D1 := ((Blk.new w _ _).alloc _).below h1
    have A1 := (Blk.new (w.alloc _) _ _).below h1
    simp only [World.size_alloc] at A1
    obtain ⟨c0, c1, c2, c3, c4, c5, f0, f1, f2, f3, f4, f5⟩ := A1.six
    obtain ⟨d0, d1, d2, d3, d4, d5, e0, e1, e2, e3, e4, e5⟩ := D1.six
    go_wp2_with fail
    exact bodyPost_ret (results_ct rfl _ _ w.heap.size 28 (c6 zS) _ rfl D1.store6 Try.underlying28 rfl (by kernel_rfl)) rfl ⟨rfl, b_store6 (b_step (b_alloc (b_alloc (Below.refl _ _) _) _) h1) (by omega)⟩
  · rw [if_neg h]
    have h' : (c != 0) = false := bne_eq_false_iff_eq.2 (Decidable.not_not.1 h)
    clear h
    go_enter Try.func20, Try.ntmps20
    go_wp2_with fail
    refine (HC.out _).mono ?_
    rintro e0 w1 ⟨rfl, h1⟩
    have D1 := ((Blk.new w _ _).alloc _).below h1
    have A1 := (Blk.new (w.alloc _) _ _).below h1
    simp only [World.size_alloc] at A1
    obtain ⟨c0, c1, c2, c3, c4, c5, f0, f1, f2, f3, f4, f5⟩ := A1.six
    obtain ⟨d0, d1, d2, d3, d4, d5, e0, e1, e2, e3, e4, e5⟩ := D1.six
    go_wp2_with fail
    exact bodyPost_ret (results_ct rfl _ _ w.heap.size 28 (c6 ⟨l, r, e, n, 0, 0⟩) _ rfl D1.store6 Try.underlying28 rfl (by kernel_rfl)) rfl ⟨rfl, b_store6 (b_step (b_alloc (b_alloc (Below.refl _ _) _) _) h1) (by omega)⟩
/-- What Accepts returns. -/
def accF (s : Ses) (n e : Int) : Int := if chk s ≠ 0 then chk s else if s.p ≠ 2 then 12 else if e < s.e ∨ n < s.n then 13 else if s.e < e ∨ s.n < n then 1 else 0
theorem acc_chk {l r e n p d mn me c : Int} (hz : chk ⟨l, r, e, n, p, d⟩ = c) (hc : (c != 0) = true) (w : World) :
    Calls Try.prog 16 #[S6 ⟨l, r, e, n, p, d⟩, .int .i64 mn, .int .i64 me] w fun e' w' => e' = .returned (.int .i64 c) ∧ Below w.heap.size w w' := by
  have HC := Lib.hid (fun w => chk_c hz w)
  clear hz
  go_enter Try.func16, Try.ntmps16
  go_wp2_with fail
  refine (HC.out _).mono ?_
  rintro e0 w1 ⟨rfl, h1⟩
  have A1 := (Blk.new w _ _).below h1
  obtain ⟨c0, c1, c2, c3, c4, c5, f0, f1, f2, f3, f4, f5⟩ := A1.six
  go_wp2_with fail
  go_ret
  exact ⟨rfl, b_step (b_alloc (Below.refl _ _) _) h1⟩
theorem acc_state {l r e n p d mn me : Int} (hk : Ok ⟨l, r, e, n, p, d⟩) (hp : (p != 2) = true) (w : World) :
    Calls Try.prog 16 #[S6 ⟨l, r, e, n, p, d⟩, .int .i64 mn, .int .i64 me] w fun e' w' => e' = .returned (.int .i64 12) ∧ Below w.heap.size w w' := by
  have HC := Lib.hid (chk_ok hk)
  clear hk
  go_enter Try.func16, Try.ntmps16
  go_wp2_with fail
  refine (HC.out _).mono ?_
  rintro e0 w1 ⟨rfl, h1⟩
  have A1 := (Blk.new w _ _).below h1
  obtain ⟨c0, c1, c2, c3, c4, c5, f0, f1, f2, f3, f4, f5⟩ := A1.six
  go_wp2_with fail
  go_ret
  exact ⟨rfl, b_step (b_alloc (Below.refl _ _) _) h1⟩
theorem acc_e0 {l r e n p d mn me : Int} (hk : Ok ⟨l, r, e, n, p, d⟩) (hp : (p != 2) = false) (h : me < e) (w : World) :
    Calls Try.prog 16 #[S6 ⟨l, r, e, n, p, d⟩, .int .i64 mn, .int .i64 me] w fun e' w' => e' = .returned (.int .i64 13) ∧ Below w.heap.size w w' := by
  have HC := Lib.hid (chk_ok hk)
  clear hk
  go_enter Try.func16, Try.ntmps16
  go_wp2_with fail
  refine (HC.out _).mono ?_
  rintro e0 w1 ⟨rfl, h1⟩
  have A1 := (Blk.new w _ _).below h1
  obtain ⟨c0, c1, c2, c3, c4, c5, f0, f1, f2, f3, f4, f5⟩ := A1.six
  go_wp2_with fail
  go_ret
  exact ⟨rfl, b_step (b_alloc (Below.refl _ _) _) h1⟩
theorem acc_n0 {l r e n p d mn me : Int} (hk : Ok ⟨l, r, e, n, p, d⟩) (hp : (p != 2) = false) (h0 : e ≤ me) (h : mn < n) (w : World) :
    Calls Try.prog 16 #[S6 ⟨l, r, e, n, p, d⟩, .int .i64 mn, .int .i64 me] w fun e' w' => e' = .returned (.int .i64 13) ∧ Below w.heap.size w w' := by
  have HC := Lib.hid (chk_ok hk)
  clear hk
  go_enter Try.func16, Try.ntmps16
  go_wp2_with fail
  refine (HC.out _).mono ?_
  rintro e0 w1 ⟨rfl, h1⟩
  have A1 := (Blk.new w _ _).below h1
  obtain ⟨c0, c1, c2, c3, c4, c5, f0, f1, f2, f3, f4, f5⟩ := A1.six
  go_wp2_with fail
  go_ret
  exact ⟨rfl, b_step (b_alloc (Below.refl _ _) _) h1⟩
theorem acc_e1 {l r e n p d mn me : Int} (hk : Ok ⟨l, r, e, n, p, d⟩) (hp : (p != 2) = false) (h1 : n ≤ mn) (h : e < me) (w : World) :
    Calls Try.prog 16 #[S6 ⟨l, r, e, n, p, d⟩, .int .i64 mn, .int .i64 me] w fun e' w' => e' = .returned (.int .i64 1) ∧ Below w.heap.size w w' := by
  have HC := Lib.hid (chk_ok hk)
  clear hk
  go_enter Try.func16, Try.ntmps16
  go_wp2_with fail
  refine (HC.out _).mono ?_
  rintro e0 w1 ⟨rfl, h2⟩
  have A1 := (Blk.new w _ _).below h2
  obtain ⟨c0, c1, c2, c3, c4, c5, f0, f1, f2, f3, f4, f5⟩ := A1.six
  go_wp2_with fail
  go_ret
  exact ⟨rfl, b_step (b_alloc (Below.refl _ _) _) h2⟩
theorem acc_n1 {l r e n p d mn : Int} (hk : Ok ⟨l, r, e, n, p, d⟩) (hp : (p != 2) = false) (h : n < mn) (w : World) :
    Calls Try.prog 16 #[S6 ⟨l, r, e, n, p, d⟩, .int .i64 mn, .int .i64 e] w fun e' w' => e' = .returned (.int .i64 1) ∧ Below w.heap.size w w' := by
  have HC := Lib.hid (chk_ok hk)
  clear hk
  go_enter Try.func16, Try.ntmps16
  go_wp2_with fail
  refine (HC.out _).mono ?_
  rintro e0 w1 ⟨rfl, h1⟩
  have A1 := (Blk.new w _ _).below h1
  obtain ⟨c0, c1, c2, c3, c4, c5, f0, f1, f2, f3, f4, f5⟩ := A1.six
  go_wp2_with fail
  go_ret
  exact ⟨rfl, b_step (b_alloc (Below.refl _ _) _) h1⟩
theorem acc_ok {l r e n p d : Int} (hk : Ok ⟨l, r, e, n, p, d⟩) (hp : (p != 2) = false) (w : World) :
    Calls Try.prog 16 #[S6 ⟨l, r, e, n, p, d⟩, .int .i64 n, .int .i64 e] w fun e' w' => e' = .returned (.int .i64 0) ∧ Below w.heap.size w w' := by
  have HC := Lib.hid (chk_ok hk)
  clear hk
  go_enter Try.func16, Try.ntmps16
  go_wp2_with fail
  refine (HC.out _).mono ?_
  rintro e0 w1 ⟨rfl, h1⟩
  have A1 := (Blk.new w _ _).below h1
  obtain ⟨c0, c1, c2, c3, c4, c5, f0, f1, f2, f3, f4, f5⟩ := A1.six
  go_wp2_with fail
  go_ret
  exact ⟨rfl, b_step (b_alloc (Below.refl _ _) _) h1⟩
theorem acc_any (s : Ses) (mn me : Int) (w : World) :
    Calls Try.prog 16 #[S6 s, .int .i64 mn, .int .i64 me] w fun e' w' => e' = .returned (.int .i64 (accF s mn me)) ∧ Below w.heap.size w w' := by
  obtain ⟨l, r, e, n, p, d⟩ := s
  unfold accF
  by_cases h : chk ⟨l, r, e, n, p, d⟩ ≠ 0
  · rw [if_pos h]
    exact acc_chk rfl (bne_iff_ne.2 h) w
  · rw [if_neg h]
    have hk := chk_zero.1 (Decidable.not_not.1 h)
    dsimp only
    by_cases hp : p ≠ 2
    · rw [if_pos hp]
      exact acc_state hk (bne_iff_ne.2 hp) w
    · rw [if_neg hp]
      have hp' : (p != 2) = false := bne_eq_false_iff_eq.2 (Decidable.not_not.1 hp)
      by_cases h1 : me < e
      · rw [if_pos (.inl h1)]
        exact acc_e0 hk hp' h1 w
      · by_cases h2 : mn < n
        · rw [if_pos (.inr h2)]
          exact acc_n0 hk hp' (by omega) h2 w
        · rw [if_neg (by omega)]
          by_cases h3 : e < me
          · rw [if_pos (.inl h3)]
            exact acc_e1 hk hp' (by omega) h3 w
          · obtain rfl : me = e := by omega
            by_cases h4 : n < mn
            · rw [if_pos (.inr h4)]
              exact acc_n1 hk hp' h4 w
            · rw [if_neg (by omega)]
              obtain rfl : mn = n := by omega
              exact acc_ok hk hp' w
end Go.Proofs.Ytemljffppdjmgaa
