/- Contracts of the reference's functions: each returns what its plain Lean function computes, and nothing that existed before the call is changed. -/
import Derived.Test.YtifmkikllbapiaaB
import Derived.Deep.LoopGhost
namespace Go.Proofs.Ytifmkikllbapiaa
open Go.RowKit
set_option maxHeartbeats 1000000 in
theorem rchk_any (a b c d : Int) (w : World) :
    Calls Try.prog 14 #[E4 a b c d] w fun e w' => e = .returned (.int .i64 (chk a b c d)) ∧ Below w.heap.size w w' := by
  unfold E4
  go_enter Try.func14, Try.ntmps14
  go_wp2
  all_goals
    go_ret
    refine ⟨ret_int ?_, b_alloc (Below.refl _ _) _⟩
    unfold chk
    split <;> (rename_i hO; unfold Ok at hO; omega)
theorem rchk_ok {a b c d : Int} (h : Ok a b c d) (w : World) :
    Calls Try.prog 14 #[E4 a b c d] w fun e w' => e = .returned (.int .i64 0) ∧ Below w.heap.size w w' := by
  have := rchk_any a b c d w
  rwa [show chk a b c d = 0 from if_pos h] at this
theorem rchk_no {a b c d : Int} (h : ¬ Ok a b c d) (w : World) :
    Calls Try.prog 14 #[E4 a b c d] w fun e w' => e = .returned (.int .i64 3) ∧ Below w.heap.size w w' := by
  have := rchk_any a b c d w
  rwa [show chk a b c d = 3 from if_neg h] at this
theorem rnew_any (w : World) : Calls Try.prog 16 #[] w fun e w' => e = .returned (E4 0 0 0 0) ∧ Below w.heap.size w w' := by
  go_enter Try.func16, Try.ntmps16
  go_wp2
  exact bodyPost_ret (v := E4 0 0 0 0) (by simp [results, Try.results16, go_sem, E4]) rfl ⟨rfl, (((Below.refl _ _).alloc (Nat.le_refl _) _))⟩
theorem rmean_ok {a b c d : Int} (h : Ok a b c d) (w : World) :
    Calls Try.prog 20 #[E4 a b c d] w fun e w' => e = .returned (.int .i64 (b / 8)) ∧ Below w.heap.size w w' := by
  have g3 := h.2.1.1
  have g4 := h.2.1.2
  have H := Lib.hid h
  clear h
  unfold E4
  go_enter Try.func20, Try.ntmps20
  go_wp2_with (go_at_call 14; refine (rchk_ok H.out _).mono ?_; rintro e w1 ⟨rfl, hb⟩; have B := (Blk.new w _ _).below hb; obtain ⟨c0, c1, c2, c3, f0, f1, f2, f3⟩ := B.four)
  go_ret
  exact ⟨rfl, b_step (b_alloc (Below.refl _ _) _) hb⟩
theorem rmean_no {a b c d : Int} (h : ¬ Ok a b c d) (w : World) :
    Calls Try.prog 20 #[E4 a b c d] w fun e w' => e = .returned (.int .i64 0) ∧ Below w.heap.size w w' := by
  have H := Lib.hid h
  clear h
  unfold E4
  go_enter Try.func20, Try.ntmps20
  go_wp2_with (go_at_call 14; refine (rchk_no H.out _).mono ?_; rintro e w1 ⟨rfl, hb⟩; have B := (Blk.new w _ _).below hb; obtain ⟨c0, c1, c2, c3, f0, f1, f2, f3⟩ := B.four)
  go_ret
  exact ⟨rfl, b_step (b_alloc (Below.refl _ _) _) hb⟩
set_option maxHeartbeats 400000 in
theorem rexpired_ok {a b c d : Int} (h : Ok a b c d) (w : World) :
    Calls Try.prog 22 #[E4 a b c d] w fun e w' => e = .returned (E4 a b c (min (d + 1) 12)) ∧ Below w.heap.size w w' := by
  have g3 := h.2.2.2.1.1
  have g4 := h.2.2.2.1.2
  have H := Lib.hid h
  clear h
  unfold E4
  generalize hq : min (d + 1) 12 = q
  have hq' : (if 12 < d + 1 then 12 else d + 1) = q := by omega
  clear hq
  go_enter Try.func22, Try.ntmps22
  go_wp2_with (go_at_call 14; refine (rchk_ok H.out _).mono ?_; rintro e w1 ⟨rfl, hb⟩; have B := ((Blk.new w _ _).alloc _).below hb; obtain ⟨c0, c1, c2, c3, f0, f1, f2, f3⟩ := B.four; have D := (Blk.new (w.alloc _) _ _).below hb; simp only [World.size_alloc] at D; obtain ⟨d0, d1, d2, d3, e0, e1, e2, e3⟩ := D.four)
  refine bodyPost_ret (results_c rfl _ _ (w.heap.size + 1) 23 #[.int .i64 a, .int .i64 b, .int .i64 c, .int .i64 q] _ rfl ?_ Try.underlying23 rfl (by kernel_rfl)) rfl ⟨?_, ?_⟩
  · have D' := D
    unfold Blk at D' ⊢
    simp [World.setCell, Array.getElem?_modify, D']
  · rfl
  · repeat (with_reducible refine b_set ?_ (by omega))
    exact b_step (b_alloc (b_alloc (Below.refl _ _) _) _) hb
theorem rexpired_no {a b c d : Int} (h : ¬ Ok a b c d) (w : World) :
    Calls Try.prog 22 #[E4 a b c d] w fun e w' => e = .returned (E4 a b c d) ∧ Below w.heap.size w w' := by
  have H := Lib.hid h
  clear h
  unfold E4
  go_enter Try.func22, Try.ntmps22
  go_wp2_with (go_at_call 14; refine (rchk_no H.out _).mono ?_; rintro e w1 ⟨rfl, hb⟩; have B := ((Blk.new w _ _).alloc _).below hb; obtain ⟨c0, c1, c2, c3, f0, f1, f2, f3⟩ := B.four; have D := (Blk.new (w.alloc _) _ _).below hb; simp only [World.size_alloc] at D; obtain ⟨d0, d1, d2, d3, e0, e1, e2, e3⟩ := D.four)
  refine bodyPost_ret (results_c rfl _ _ (w.heap.size + 1) 23 #[.int .i64 a, .int .i64 b, .int .i64 c, .int .i64 d] _ rfl ?_ Try.underlying23 rfl (by kernel_rfl)) rfl ⟨?_, ?_⟩
  · have D' := D
    unfold Blk at D' ⊢
    simp [World.setCell, Array.getElem?_modify, D']
  · rfl
  · repeat (with_reducible refine b_set ?_ (by omega))
    exact b_step (b_alloc (b_alloc (Below.refl _ _) _) _) hb
set_option maxHeartbeats 400000 in
theorem rsample_no {a b c d : Int} (h : ¬ Ok a b c d) (t : Int) (w : World) :
    Calls Try.prog 11 #[E4 a b c d, .int .i64 t] w fun e w' => e = .returned (.tuple #[E4 0 0 0 0, .int .i64 3]) ∧ Below w.heap.size w w' := by
  have H := Lib.hid h
  clear h
  unfold E4
  go_enter Try.func11, Try.ntmps11
  go_wp2_with (go_at_call 14; refine (rchk_no H.out _).mono ?_; rintro e w1 ⟨rfl, hb⟩; have B := ((Blk.new w _ _).alloc _).below hb; obtain ⟨c0, c1, c2, c3, f0, f1, f2, f3⟩ := B.four; have D := (Blk.new (w.alloc _) _ _).below hb; simp only [World.size_alloc] at D; obtain ⟨d0, d1, d2, d3, e0, e1, e2, e3⟩ := D.four)
  refine bodyPost_ret (results_ct rfl _ _ (w.heap.size + 1) 23 #[.int .i64 0, .int .i64 0, .int .i64 0, .int .i64 0] _ rfl ?_ Try.underlying23 rfl (by kernel_rfl)) rfl ⟨?_, ?_⟩
  · have D' := D
    unfold Blk at D' ⊢
    simp [World.setCell, Array.getElem?_modify, D']
  · rfl
  · repeat (with_reducible refine b_set ?_ (by omega))
    exact b_step (b_alloc (b_alloc (Below.refl _ _) _) _) hb
set_option maxHeartbeats 400000 in
theorem rsample_late {a b c d t : Int} (h : Ok a b c d) (ht : ¬ (0 ≤ t ∧ t ≤ 1073741824)) (w : World) :
    Calls Try.prog 11 #[E4 a b c d, .int .i64 t] w fun e w' => e = .returned (.tuple #[E4 0 0 0 0, .int .i64 24]) ∧ Below w.heap.size w w' := by
  have H := Lib.hid h
  clear h
  unfold E4
  by_cases h0 : t < 0
  · clear ht
    go_enter Try.func11, Try.ntmps11
    go_wp2_with (go_at_call 14; refine (rchk_ok H.out _).mono ?_; rintro e w1 ⟨rfl, hb⟩; have B := ((Blk.new w _ _).alloc _).below hb; obtain ⟨c0, c1, c2, c3, f0, f1, f2, f3⟩ := B.four; have D := (Blk.new (w.alloc _) _ _).below hb; simp only [World.size_alloc] at D; obtain ⟨d0, d1, d2, d3, e0, e1, e2, e3⟩ := D.four)
    refine bodyPost_ret (results_ct rfl _ _ (w.heap.size + 1) 23 #[.int .i64 0, .int .i64 0, .int .i64 0, .int .i64 0] _ rfl ?_ Try.underlying23 rfl (by kernel_rfl)) rfl ⟨?_, ?_⟩
    · have D' := D
      unfold Blk at D' ⊢
      simp [World.setCell, Array.getElem?_modify, D']
    · rfl
    · repeat (with_reducible refine b_set ?_ (by omega))
      exact b_step (b_alloc (b_alloc (Below.refl _ _) _) _) hb
  · have h1 : 1073741824 < t := by omega
    clear ht
    go_enter Try.func11, Try.ntmps11
    go_wp2_with (go_at_call 14; refine (rchk_ok H.out _).mono ?_; rintro e w1 ⟨rfl, hb⟩; have B := ((Blk.new w _ _).alloc _).below hb; obtain ⟨c0, c1, c2, c3, f0, f1, f2, f3⟩ := B.four; have D := (Blk.new (w.alloc _) _ _).below hb; simp only [World.size_alloc] at D; obtain ⟨d0, d1, d2, d3, e0, e1, e2, e3⟩ := D.four)
    refine bodyPost_ret (results_ct rfl _ _ (w.heap.size + 1) 23 #[.int .i64 0, .int .i64 0, .int .i64 0, .int .i64 0] _ rfl ?_ Try.underlying23 rfl (by kernel_rfl)) rfl ⟨?_, ?_⟩
    · have D' := D
      unfold Blk at D' ⊢
      simp [World.setCell, Array.getElem?_modify, D']
    · rfl
    · repeat (with_reducible refine b_set ?_ (by omega))
      exact b_step (b_alloc (b_alloc (Below.refl _ _) _) _) hb
set_option maxHeartbeats 800000 in
theorem rsample_first {b c d t : Int} (h : Ok 0 b c d) (h0 : 0 ≤ t) (h1 : t ≤ 1073741824) (w : World) :
    Calls Try.prog 11 #[E4 0 b c d, .int .i64 t] w fun e w' => e = .returned (.tuple #[E4 1 (t * 8) (t * 2) 0, .int .i64 0]) ∧ Below w.heap.size w w' := by
  have H := Lib.hid h
  clear h
  unfold E4
  rw [Int.mul_comm t 8, Int.mul_comm t 2]
  go_enter Try.func11, Try.ntmps11
  go_wp2_with (go_at_call 14; refine (rchk_ok H.out _).mono ?_; rintro e w1 ⟨rfl, hb⟩; have B := ((Blk.new w _ _).alloc _).below hb; have l1 := B.lt; obtain ⟨c0, c1, c2, c3, f0, f1, f2, f3⟩ := B.four; have D := (Blk.new (w.alloc _) _ _).below hb; simp only [World.size_alloc] at D; have l2 := D.lt; obtain ⟨d0, d1, d2, d3, e0, e1, e2, e3⟩ := D.four)
  refine bodyPost_ret (results_ct rfl _ _ (w.heap.size + 1) 23 #[.int .i64 1, .int .i64 (8 * t), .int .i64 (2 * t), .int .i64 0] _ rfl ?_ Try.underlying23 rfl (by kernel_rfl)) rfl ⟨?_, ?_⟩
  · repeat (first | with_reducible refine Blk.alloc ?_ _ | with_reducible refine Blk.far ?_ (by dsimp only; omega) _)
    exact D.store4
  · rfl
  · repeat (first | with_reducible refine b_set ?_ (by omega) | with_reducible refine b_alloc ?_ _)
    exact b_step (b_alloc (b_alloc (Below.refl _ _) _) _) hb
set_option maxHeartbeats 800000 in
theorem rsample_next {a b c d t m n : Int} (h : Ok a b c d) (ha : a ≠ 0) (h0 : 0 ≤ t) (h1 : t ≤ 1073741824) (hm : m = ab (t - b / 8)) (hn : n = min (a + 1) 1073741824) (w : World) :
    Calls Try.prog 11 #[E4 a b c d, .int .i64 t] w fun e w' => e = .returned (.tuple #[E4 n (b + (t - b / 8)) (c - c / 4 + m) 0, .int .i64 0]) ∧ Below w.heap.size w w' := by
  have h' := h
  obtain ⟨⟨g1, g2⟩, ⟨g3, g4⟩, ⟨g5, g6⟩, h8⟩ := h'
  clear h8
  have H := Lib.hid h
  clear h
  have ha' : 0 < a := by omega
  clear ha
  have hm1 : (if t - b / 8 < -(t - b / 8) then -(t - b / 8) else t - b / 8) = m := by rw [hm]; unfold ab; omega
  have hn1 : (if 1073741824 < a + 1 then 1073741824 else a + 1) = n := by rw [hn]; omega
  have m0 : 0 ≤ m := by rw [hm]; unfold ab; omega
  have m1 : m ≤ 1073741824 := by rw [hm]; unfold ab; omega
  clear hm hn
  unfold E4
  go_enter Try.func11, Try.ntmps11
  go_wp2_with (go_at_call 14; refine (rchk_ok H.out _).mono ?_; rintro e w1 ⟨rfl, hb⟩; have B := ((Blk.new w _ _).alloc _).below hb; have l1 := B.lt; obtain ⟨c0, c1, c2, c3, f0, f1, f2, f3⟩ := B.four; have D := (Blk.new (w.alloc _) _ _).below hb; simp only [World.size_alloc] at D; have l2 := D.lt; obtain ⟨d0, d1, d2, d3, e0, e1, e2, e3⟩ := D.four)
  refine bodyPost_ret (results_ct rfl _ _ (w.heap.size + 1) 23 #[.int .i64 n, .int .i64 (b + (t - b / 8)), .int .i64 (c - c / 4 + m), .int .i64 0] _ rfl ?_ Try.underlying23 rfl (by kernel_rfl)) rfl ⟨?_, ?_⟩
  · repeat (first | with_reducible refine Blk.alloc ?_ _ | with_reducible refine Blk.far ?_ (by dsimp only; omega) _)
    exact D.store4
  · rfl
  · repeat (first | with_reducible refine b_set ?_ (by omega) | with_reducible refine b_alloc ?_ _)
    exact b_step (b_alloc (b_alloc (Below.refl _ _) _) _) hb
theorem pow_in {m : Int} {k : Nat} (h0 : 2 ≤ m) (h1 : m ≤ 9663676416) (hk : k ≤ 12) : 0 ≤ m * 2 ^ k ∧ m * 2 ^ k ≤ 39582418599936 := by
  obtain ⟨p1, p2⟩ := pow_le k hk
  have q1 : m * 2 ^ k ≤ 9663676416 * 4096 := Int.mul_le_mul h1 p1 (by omega) (by omega)
  have q0 : 0 ≤ m * 2 ^ k := Int.mul_nonneg (by omega) (by omega)
  omega
/-- What the reference's last row comes to. -/
def rto (m y : Int) : Int := if (if 65536 < y then 65536 else y) < m then m else (if 65536 < y then 65536 else y)
set_option maxHeartbeats 1000000 in
theorem rtimeout_some {a b c d m p q : Int} (h : Ok a b c d) (ha : 0 < a) (hq : (if b / 8 + c < 2 then 2 else b / 8 + c) = q) (hm : (if q < b / 8 + 1 then b / 8 + 1 else q) = m) (hp : p = rto m (m * 2 ^ d.toNat)) (w : World) :
    Calls Try.prog 18 #[E4 a b c d] w fun e w' => e = .returned (.int .i64 p) ∧ Below w.heap.size w w' := by
  have g7 := h.2.2.2.1.1
  have g8 := h.2.2.2.1.2
  have g3 := h.2.1.1
  have g4 := h.2.1.2
  have g5 := h.2.2.1.1
  have g6 := h.2.2.1.2
  have m0 : 2 ≤ m := by omega
  have m1 : m ≤ 9663676416 := by omega
  have H := Lib.hid h
  clear h
  obtain ⟨K, hK⟩ := Int.eq_ofNat_of_zero_le g7
  have hk12 : K ≤ 12 := by omega
  have HP := Lib.hid hp
  clear hp
  subst hK
  unfold E4
  go_enter Try.func18, Try.ntmps18
  go_wp2_with (go_at_call 14; refine (rchk_ok H.out _).mono ?_; rintro e w1 ⟨rfl, hb⟩; have B := (Blk.new w _ _).below hb; have l1 := B.lt; obtain ⟨c0, c1, c2, c3, f0, f1, f2, f3⟩ := B.four)
  have HB := Lib.hid hb
  clear hb
  go_loopg [4, 5] K (fun n o i wr => ∃ (k : Nat) (y : Int), k + n = K ∧ o = .int .i64 y ∧ i = .int .i64 k ∧ Hid (y = m * 2 ^ k) ∧ wr = w1)
  case atStart => exact ⟨0, m, by omega, rfl, rfl, Lib.hid (by simp), rfl⟩
  case round =>
    obtain ⟨k, y, hk, rfl, rfl, HY, rfl⟩ := hrel
    have hy := pow_in (m := m) (k := k) m0 m1 (by omega)
    rw [← HY.out] at hy
    obtain ⟨y0, y1⟩ := hy
    by_cases hlt : k < K
    · have hd : (k : Int) < (K : Int) := by omega
      go_wp2_with fail
      go_roundg (gk - 1)
      case measure => omega
      case rel => exact ⟨k + 1, 2 * y, by omega, rfl, by go_num, Lib.hid (by rw [HY.out, Int.pow_succ, Int.mul_comm (2 ^ k), ← Int.mul_assoc, ← Int.mul_assoc, Int.mul_comm 2 m]), rfl⟩
    · obtain rfl : k = K := by omega
      have q1 : (if (if 65536 < y then 65536 else y) < m then m else (if 65536 < y then 65536 else y)) = p := by
        rw [HP.out, HY.out]
        rfl
      have q3 : (if 65536 < y then 65536 else y) = min y 65536 := by omega
      rw [q3] at q1
      generalize min y 65536 = z at q1 q3
      go_wp2_with fail
      go_ret
      exact ⟨rfl, b_step (b_alloc (Below.refl _ _) _) HB.out⟩
set_option maxHeartbeats 1000000 in
theorem rtimeout_none {b c d p : Int} (h : Ok 0 b c d) (hp : p = rto 64 (64 * 2 ^ d.toNat)) (w : World) :
    Calls Try.prog 18 #[E4 0 b c d] w fun e w' => e = .returned (.int .i64 p) ∧ Below w.heap.size w w' := by
  have g7 := h.2.2.2.1.1
  have g8 := h.2.2.2.1.2
  have H := Lib.hid h
  clear h
  obtain ⟨K, hK⟩ := Int.eq_ofNat_of_zero_le g7
  have hk12 : K ≤ 12 := by omega
  have HP := Lib.hid hp
  clear hp
  subst hK
  unfold E4
  go_enter Try.func18, Try.ntmps18
  go_wp2_with (go_at_call 14; refine (rchk_ok H.out _).mono ?_; rintro e w1 ⟨rfl, hb⟩; have B := (Blk.new w _ _).below hb; have l1 := B.lt; obtain ⟨c0, c1, c2, c3, f0, f1, f2, f3⟩ := B.four)
  have HB := Lib.hid hb
  clear hb
  go_loopg [4, 5] K (fun n o i wr => ∃ (k : Nat) (y : Int), k + n = K ∧ o = .int .i64 y ∧ i = .int .i64 k ∧ Hid (y = 64 * 2 ^ k) ∧ wr = w1)
  case atStart => exact ⟨0, 64, by omega, rfl, rfl, Lib.hid (by simp), rfl⟩
  case round =>
    obtain ⟨k, y, hk, rfl, rfl, HY, rfl⟩ := hrel
    have hy := pow_in (m := 64) (k := k) (by omega) (by omega) (by omega)
    rw [← HY.out] at hy
    obtain ⟨y0, y1⟩ := hy
    by_cases hlt : k < K
    · have hd : (k : Int) < (K : Int) := by omega
      go_wp2_with fail
      go_roundg (gk - 1)
      case measure => omega
      case rel => exact ⟨k + 1, 2 * y, by omega, rfl, by go_num, Lib.hid (by rw [HY.out, Int.pow_succ, Int.mul_comm (2 ^ k), ← Int.mul_assoc, ← Int.mul_assoc, Int.mul_comm 2 64]), rfl⟩
    · obtain rfl : k = K := by omega
      have q1 : (if (if 65536 < y then 65536 else y) < 64 then 64 else (if 65536 < y then 65536 else y)) = p := by
        rw [HP.out, HY.out]
        rfl
      have q3 : (if 65536 < y then 65536 else y) = min y 65536 := by omega
      rw [q3] at q1
      generalize min y 65536 = z at q1 q3
      go_wp2_with fail
      go_ret
      exact ⟨rfl, b_step (b_alloc (Below.refl _ _) _) HB.out⟩
theorem rtimeout_no {a b c d : Int} (h : ¬ Ok a b c d) (w : World) :
    Calls Try.prog 18 #[E4 a b c d] w fun e w' => e = .returned (.int .i64 0) ∧ Below w.heap.size w w' := by
  have H := Lib.hid h
  clear h
  unfold E4
  go_enter Try.func18, Try.ntmps18
  go_wp2_with (go_at_call 14; refine (rchk_no H.out _).mono ?_; rintro e w1 ⟨rfl, hb⟩)
  go_ret
  exact ⟨rfl, b_step (b_alloc (Below.refl _ _) _) hb⟩
theorem rtimeout_ok {a b c d : Int} (h : Ok a b c d) (w : World) :
    Calls Try.prog 18 #[E4 a b c d] w fun e w' => e = .returned (.int .i64 (tmo a b c d)) ∧ Below w.heap.size w w' := by
  have h' := h
  obtain ⟨⟨g1, g2⟩, ⟨g3, g4⟩, ⟨g5, g6⟩, ⟨g7, g8⟩, _⟩ := h'
  have key : ∀ m : Int, 2 ≤ m → min (m * 2 ^ d.toNat) (max m 65536) = rto m (m * 2 ^ d.toNat) := by
    intro m hm
    obtain ⟨p1, p2⟩ := pow_le d.toNat (by omega)
    have q0 : m * 1 ≤ m * 2 ^ d.toNat := Int.mul_le_mul_of_nonneg_left p2 (by omega)
    generalize m * 2 ^ d.toNat = y at *
    unfold rto
    omega
  by_cases ha : 0 < a
  · refine rtimeout_some (m := baseOf a b c) h ha rfl (by unfold baseOf; omega) ?_ w
    exact key _ (by unfold baseOf; omega)
  · obtain rfl : a = 0 := by omega
    exact rtimeout_none h (key 64 (by decide)) w
end Go.Proofs.Ytifmkikllbapiaa
