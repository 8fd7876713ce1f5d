/- Contracts of the estimator's functions Sample, Mean, Expired and Timeout: each returns what its plain Lean function computes, and nothing that existed before the call is changed. -/
import Derived.Test.YtifmkikllbapiaaA
namespace Go.Proofs.Ytifmkikllbapiaa
open Go.RowKit
theorem mean_ok {a b c d : Int} (h : Ok a b c d) (w : World) :
    Calls Try.prog 19 #[E4 a b c d] w fun e w' => e = .returned (.int .i64 (b / 8)) ∧ Below w.heap.size w w' := by
  have g3 := h.2.1.1
  have g4 := h.2.1.2
  have H := Lib.hid h
  clear h
  unfold E4
  go_enter Try.func19, Try.ntmps19
  go_wp2_with (go_at_call 13; refine (chk_ok H.out _).mono ?_; rintro e w1 ⟨rfl, hb⟩; have B := (Blk.new w _ _).below hb; obtain ⟨c0, c1, c2, c3, f0, f1, f2, f3⟩ := B.four)
  go_ret
  exact ⟨rfl, b_step (b_alloc (Below.refl _ _) _) hb⟩
theorem mean_no {a b c d : Int} (h : ¬ Ok a b c d) (w : World) :
    Calls Try.prog 19 #[E4 a b c d] w fun e w' => e = .returned (.int .i64 0) ∧ Below w.heap.size w w' := by
  have H := Lib.hid h
  clear h
  unfold E4
  go_enter Try.func19, Try.ntmps19
  go_wp2_with (go_at_call 13; refine (chk_no H.out _).mono ?_; rintro e w1 ⟨rfl, hb⟩)
  go_ret
  exact ⟨rfl, b_step (b_alloc (Below.refl _ _) _) hb⟩
set_option maxHeartbeats 400000 in
theorem expired_ok {a b c d : Int} (h : Ok a b c d) (w : World) :
    Calls Try.prog 21 #[E4 a b c d] w fun e w' => e = .returned (E4 a b c (min (d + 1) 12)) ∧ Below w.heap.size w w' := by
  have g3 := h.2.2.2.1.1
  have g4 := h.2.2.2.1.2
  have H := Lib.hid h
  clear h
  unfold E4
  generalize hq : min (d + 1) 12 = q
  have hq' : (if 12 < d + 1 then 12 else d + 1) = q := by omega
  clear hq
  go_enter Try.func21, Try.ntmps21
  go_wp2_with (go_at_call 13; refine (chk_ok H.out _).mono ?_; rintro e w1 ⟨rfl, hb⟩; have B := ((Blk.new w _ _).alloc _).below hb; obtain ⟨c0, c1, c2, c3, f0, f1, f2, f3⟩ := B.four; have D := (Blk.new (w.alloc _) _ _).below hb; simp only [World.size_alloc] at D; obtain ⟨d0, d1, d2, d3, e0, e1, e2, e3⟩ := D.four)
  refine bodyPost_ret (results_c rfl _ _ (w.heap.size + 1) 23 #[.int .i64 a, .int .i64 b, .int .i64 c, .int .i64 q] _ rfl ?_ Try.underlying23 rfl (by kernel_rfl)) rfl ⟨?_, ?_⟩
  · have D' := D
    unfold Blk at D' ⊢
    simp [World.setCell, Array.getElem?_modify, D']
  · rfl
  · repeat (with_reducible refine b_set ?_ (by omega))
    exact b_step (b_alloc (b_alloc (Below.refl _ _) _) _) hb
theorem expired_no {a b c d : Int} (h : ¬ Ok a b c d) (w : World) :
    Calls Try.prog 21 #[E4 a b c d] w fun e w' => e = .returned (E4 a b c d) ∧ Below w.heap.size w w' := by
  have H := Lib.hid h
  clear h
  unfold E4
  go_enter Try.func21, Try.ntmps21
  go_wp2_with (go_at_call 13; refine (chk_no H.out _).mono ?_; rintro e w1 ⟨rfl, hb⟩; have B := ((Blk.new w _ _).alloc _).below hb; obtain ⟨c0, c1, c2, c3, f0, f1, f2, f3⟩ := B.four; have D := (Blk.new (w.alloc _) _ _).below hb; simp only [World.size_alloc] at D; obtain ⟨d0, d1, d2, d3, e0, e1, e2, e3⟩ := D.four)
  refine bodyPost_ret (results_c rfl _ _ (w.heap.size + 1) 23 #[.int .i64 a, .int .i64 b, .int .i64 c, .int .i64 d] _ rfl ?_ Try.underlying23 rfl (by kernel_rfl)) rfl ⟨?_, ?_⟩
  · have D' := D
    unfold Blk at D' ⊢
    simp [World.setCell, Array.getElem?_modify, D']
  · rfl
  · repeat (with_reducible refine b_set ?_ (by omega))
    exact b_step (b_alloc (b_alloc (Below.refl _ _) _) _) hb
def ab (x : Int) : Int := if 0 ≤ x then x else - x
set_option maxHeartbeats 400000 in
theorem sample_no {a b c d : Int} (h : ¬ Ok a b c d) (t : Int) (w : World) :
    Calls Try.prog 10 #[E4 a b c d, .int .i64 t] w fun e w' => e = .returned (.tuple #[E4 0 0 0 0, .int .i64 3]) ∧ Below w.heap.size w w' := by
  have H := Lib.hid h
  clear h
  unfold E4
  go_enter Try.func10, Try.ntmps10
  go_wp2_with (first | (go_at_call 13; refine (chk_no H.out _).mono ?_; rintro e w1 ⟨rfl, hb⟩; have B := ((Blk.new w _ _).alloc _).below hb; obtain ⟨c0, c1, c2, c3, f0, f1, f2, f3⟩ := B.four; have D := (Blk.new (w.alloc _) _ _).below hb; simp only [World.size_alloc] at D; obtain ⟨d0, d1, d2, d3, e0, e1, e2, e3⟩ := D.four) | (go_at_call 23; refine (between_any _ _ _).mono ?_; rintro e w' ⟨rfl, rfl⟩))
  refine bodyPost_ret (results_ct rfl _ _ (w.heap.size + 1) 23 #[.int .i64 0, .int .i64 0, .int .i64 0, .int .i64 0] _ rfl ?_ Try.underlying23 rfl (by kernel_rfl)) rfl ⟨?_, ?_⟩
  · have D' := D
    unfold Blk at D' ⊢
    simp [World.setCell, Array.getElem?_modify, D']
  · rfl
  · repeat (with_reducible refine b_set ?_ (by omega))
    exact b_step (b_alloc (b_alloc (Below.refl _ _) _) _) hb
set_option maxHeartbeats 400000 in
theorem sample_late {a b c d t : Int} (h : Ok a b c d) (ht : ¬ (0 ≤ t ∧ t ≤ 1073741824)) (w : World) :
    Calls Try.prog 10 #[E4 a b c d, .int .i64 t] w fun e w' => e = .returned (.tuple #[E4 0 0 0 0, .int .i64 24]) ∧ Below w.heap.size w w' := by
  have H := Lib.hid h
  clear h
  unfold E4
  have ht' : decide (0 ≤ t ∧ t ≤ 1073741824) = false := by simpa using ht
  clear ht
  go_enter Try.func10, Try.ntmps10
  go_wp2_with (first | (go_at_call 13; refine (chk_ok H.out _).mono ?_; rintro e w1 ⟨rfl, hb⟩; have B := ((Blk.new w _ _).alloc _).below hb; obtain ⟨c0, c1, c2, c3, f0, f1, f2, f3⟩ := B.four; have D := (Blk.new (w.alloc _) _ _).below hb; simp only [World.size_alloc] at D; obtain ⟨d0, d1, d2, d3, e0, e1, e2, e3⟩ := D.four) | (go_at_call 23; refine (between_any _ _ _).mono ?_; rintro e w' ⟨rfl, rfl⟩))
  refine bodyPost_ret (results_ct rfl _ _ (w.heap.size + 1) 23 #[.int .i64 0, .int .i64 0, .int .i64 0, .int .i64 0] _ rfl ?_ Try.underlying23 rfl (by kernel_rfl)) rfl ⟨?_, ?_⟩
  · have D' := D
    unfold Blk at D' ⊢
    simp [World.setCell, Array.getElem?_modify, D']
  · rfl
  · repeat (with_reducible refine b_set ?_ (by omega))
    exact b_step (b_alloc (b_alloc (Below.refl _ _) _) _) hb
set_option maxHeartbeats 800000 in
theorem sample_first {b c d t : Int} (h : Ok 0 b c d) (h0 : 0 ≤ t) (h1 : t ≤ 1073741824) (w : World) :
    Calls Try.prog 10 #[E4 0 b c d, .int .i64 t] w fun e w' => e = .returned (.tuple #[E4 1 (t * 8) (t * 2) 0, .int .i64 0]) ∧ Below w.heap.size w w' := by
  have H := Lib.hid h
  clear h
  unfold E4
  have ht' : decide (0 ≤ t ∧ t ≤ 1073741824) = true := by simp [h0, h1]
  go_enter Try.func10, Try.ntmps10
  go_wp2_with (first | (go_at_call 13; refine (chk_ok H.out _).mono ?_; rintro e w1 ⟨rfl, hb⟩; have B := ((Blk.new w _ _).alloc _).below hb; obtain ⟨c0, c1, c2, c3, f0, f1, f2, f3⟩ := B.four; have D := (Blk.new (w.alloc _) _ _).below hb; simp only [World.size_alloc] at D; obtain ⟨d0, d1, d2, d3, e0, e1, e2, e3⟩ := D.four) | (go_at_call 23; refine (between_any _ _ _).mono ?_; rintro e w' ⟨rfl, rfl⟩))
  refine bodyPost_ret (results_ct rfl _ _ (w.heap.size + 1) 23 #[.int .i64 1, .int .i64 (t * 8), .int .i64 (t * 2), .int .i64 0] _ rfl ?_ Try.underlying23 rfl (by kernel_rfl)) rfl ⟨?_, ?_⟩
  · have D' := D
    unfold Blk at D' ⊢
    simp [World.setCell, Array.getElem?_modify, D']
  · rfl
  · repeat (with_reducible refine b_set ?_ (by omega))
    exact b_step (b_alloc (b_alloc (Below.refl _ _) _) _) hb
set_option maxHeartbeats 800000 in
theorem sample_next {a b c d t m n : Int} (h : Ok a b c d) (ha : a ≠ 0) (h0 : 0 ≤ t) (h1 : t ≤ 1073741824) (hm : m = ab (t - b / 8)) (hn : n = min (a + 1) 1073741824) (w : World) :
    Calls Try.prog 10 #[E4 a b c d, .int .i64 t] w fun e w' => e = .returned (.tuple #[E4 n (b + (t - b / 8)) (c + (m - c / 4)) 0, .int .i64 0]) ∧ Below w.heap.size w w' := by
  have h' := h
  obtain ⟨⟨g1, g2⟩, ⟨g3, g4⟩, ⟨g5, g6⟩, _, _⟩ := h'
  have H := Lib.hid h
  clear h
  have ht' : decide (0 ≤ t ∧ t ≤ 1073741824) = true := by simp [h0, h1]
  have ha' : (a == 0) = false := by simpa using ha
  have hm1 : (if t - b / 8 < -(t - b / 8) then -(t - b / 8) else t - b / 8) = m := by rw [hm]; unfold ab; omega
  have hn1 : (if 1073741824 < a + 1 then 1073741824 else a + 1) = n := by rw [hn]; omega
  have m0 : 0 ≤ m := by rw [hm]; unfold ab; omega
  have m1 : m ≤ 1073741824 := by rw [hm]; unfold ab; omega
  clear hm hn
  unfold E4
  go_enter Try.func10, Try.ntmps10
  go_wp2_with (first | (go_at_call 13; refine (chk_ok H.out _).mono ?_; rintro e w1 ⟨rfl, hb⟩; have B := ((Blk.new w _ _).alloc _).below hb; obtain ⟨c0, c1, c2, c3, f0, f1, f2, f3⟩ := B.four; have D := (Blk.new (w.alloc _) _ _).below hb; simp only [World.size_alloc] at D; obtain ⟨d0, d1, d2, d3, e0, e1, e2, e3⟩ := D.four) | (go_at_call 23; refine (between_any _ _ _).mono ?_; rintro e w' ⟨rfl, rfl⟩))
  refine bodyPost_ret (results_ct rfl _ _ (w.heap.size + 1) 23 #[.int .i64 n, .int .i64 (b + (t - b / 8)), .int .i64 (c + (m - c / 4)), .int .i64 0] _ rfl ?_ Try.underlying23 rfl (by kernel_rfl)) rfl ⟨?_, ?_⟩
  · have D' := D
    unfold Blk at D' ⊢
    simp [World.setCell, Array.getElem?_modify, D']
  · rfl
  · repeat (with_reducible refine b_set ?_ (by omega))
    exact b_step (b_alloc (b_alloc (Below.refl _ _) _) _) hb
/-- The base of a timeout. -/
def baseOf (a b c : Int) : Int := if 0 < a then max (max (b / 8 + c) (b / 8 + 1)) 2 else 64
/-- The timeout. -/
def tmo (a b c d : Int) : Int := min (baseOf a b c * 2 ^ d.toNat) (max (baseOf a b c) 65536)
theorem pow_le (n : Nat) (h : n ≤ 12) : (2 : Int) ^ n ≤ 4096 ∧ 1 ≤ (2 : Int) ^ n := by
  have : ∀ m, m ≤ 12 → (2 : Int) ^ m ≤ 4096 ∧ 1 ≤ (2 : Int) ^ m := by decide
  exact this n h
theorem shift_in {x d : Int} (h0 : 0 ≤ x) (h1 : x ≤ 17179869184) (g0 : 0 ≤ d) (g1 : d ≤ 12) : wrap64 (x * 2 ^ d.toNat) = x * 2 ^ d.toNat := by
  obtain ⟨p1, p2⟩ := pow_le d.toNat (by omega)
  have q1 : x * 2 ^ d.toNat ≤ 17179869184 * 4096 := Int.mul_le_mul h1 p1 (by omega) (by omega)
  have q0 : 0 ≤ x * 2 ^ d.toNat := Int.mul_nonneg h0 (by omega)
  generalize x * 2 ^ d.toNat = y at *
  unfold wrap64
  omega
theorem timeout_no {a b c d : Int} (h : ¬ Ok a b c d) (w : World) :
    Calls Try.prog 17 #[E4 a b c d] w fun e w' => e = .returned (.int .i64 0) ∧ Below w.heap.size w w' := by
  have H := Lib.hid h
  clear h
  unfold E4
  go_enter Try.func17, Try.ntmps17
  go_wp2_with (go_at_call 13; refine (chk_no H.out _).mono ?_; rintro e w1 ⟨rfl, hb⟩)
  go_ret
  exact ⟨rfl, b_step (b_alloc (Below.refl _ _) _) hb⟩
set_option maxHeartbeats 800000 in
theorem timeout_some {a b c d m n p q : Int} (h : Ok a b c d) (ha : 0 < a) (hq : (if c < 1 then b / 8 + 1 else b / 8 + c) = q) (hm : (if q < 2 then 2 else q) = m)
    (hn : (if m < 65536 then 65536 else m) = n) (hp : (if n < wrap64 (m * 2 ^ d.toNat) then n else wrap64 (m * 2 ^ d.toNat)) = p) (w : World) :
    Calls Try.prog 17 #[E4 a b c d] w fun e w' => e = .returned (.int .i64 p) ∧ Below w.heap.size w w' := by
  have h' := h
  obtain ⟨⟨g1, g2⟩, ⟨g3, g4⟩, ⟨g5, g6⟩, ⟨g7, g8⟩, _⟩ := h'
  have H := Lib.hid h
  clear h
  have q1 : q ≤ 9663676416 := by omega
  have m0 : 2 ≤ m := by omega
  have m1 : m ≤ 9663676416 := by omega
  unfold E4
  go_enter Try.func17, Try.ntmps17
  go_wp2_with (go_at_call 13; refine (chk_ok H.out _).mono ?_; rintro e w1 ⟨rfl, hb⟩; have B := (Blk.new w _ _).below hb; obtain ⟨c0, c1, c2, c3, f0, f1, f2, f3⟩ := B.four)
  go_ret
  exact ⟨rfl, b_step (b_alloc (Below.refl _ _) _) hb⟩
set_option maxHeartbeats 800000 in
theorem timeout_none {b c d : Int} {p : Int} (h : Ok 0 b c d) (hp : (if 65536 < wrap64 (64 * 2 ^ d.toNat) then 65536 else wrap64 (64 * 2 ^ d.toNat)) = p) (w : World) :
    Calls Try.prog 17 #[E4 0 b c d] w fun e w' => e = .returned (.int .i64 p) ∧ Below w.heap.size w w' := by
  have g7 := h.2.2.2.1.1
  have g8 := h.2.2.2.1.2
  have H := Lib.hid h
  clear h
  unfold E4
  go_enter Try.func17, Try.ntmps17
  go_wp2_with (go_at_call 13; refine (chk_ok H.out _).mono ?_; rintro e w1 ⟨rfl, hb⟩; have B := (Blk.new w _ _).below hb; obtain ⟨c0, c1, c2, c3, f0, f1, f2, f3⟩ := B.four)
  go_ret
  exact ⟨rfl, b_step (b_alloc (Below.refl _ _) _) hb⟩
theorem timeout_ok {a b c d : Int} (h : Ok a b c d) (w : World) :
    Calls Try.prog 17 #[E4 a b c d] w fun e w' => e = .returned (.int .i64 (tmo a b c d)) ∧ Below w.heap.size w w' := by
  have h' := h
  obtain ⟨⟨g1, g2⟩, ⟨g3, g4⟩, ⟨g5, g6⟩, ⟨g7, g8⟩, _⟩ := h'
  by_cases ha : 0 < a
  · refine timeout_some h ha rfl rfl rfl ?_ w
    have e : (if (if c < 1 then b / 8 + 1 else b / 8 + c) < 2 then 2 else (if c < 1 then b / 8 + 1 else b / 8 + c)) = baseOf a b c := by unfold baseOf; omega
    rw [e, shift_in (by unfold baseOf; omega) (by unfold baseOf; omega) g7 g8]
    unfold tmo
    generalize baseOf a b c * 2 ^ d.toNat = y
    omega
  · obtain rfl : a = 0 := by omega
    refine timeout_none h ?_ w
    have e : baseOf 0 b c = 64 := rfl
    rw [shift_in (by omega) (by omega) g7 g8]
    unfold tmo
    rw [e]
    generalize 64 * 2 ^ d.toNat = y
    omega
end Go.Proofs.Ytifmkikllbapiaa
