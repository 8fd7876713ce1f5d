/- EstimatorBounds returns true for every row of steps, and changes nothing that existed before the call. -/
import Derived.Test.YtifmkikllbapiaaC
import Derived.Test.YtifmkikllbapiaaO
import Derived.Deep.LoopGhost
namespace Go.Proofs.Ytifmkikllbapiaa
open Go.RowKit
/-- What holds of the estimator of EstimatorBounds behind each round. -/
def BInv (lo hi : Int) (any : Bool) (a b c d : Int) : Prop :=
  (0 ≤ d ∧ d ≤ 12) ∧ (any = false → a = 0 ∧ b = 0 ∧ c = 0 ∧ lo = 0 ∧ hi = 0) ∧
  (any = true → (1 ≤ a ∧ a ≤ 1000) ∧ (0 ≤ lo ∧ lo ≤ b / 8 ∧ b / 8 ≤ hi ∧ hi ≤ 65535) ∧ (0 ≤ c ∧ c ≤ 262143))
theorem BInv.ok {lo hi : Int} {any : Bool} {a b c d : Int} (h : BInv lo hi any a b c d) : Ok a b c d := by
  obtain ⟨h1, h2, h3⟩ := h
  unfold Ok
  cases any with
  | false => obtain ⟨rfl, rfl, rfl, _⟩ := h2 rfl; omega
  | true => obtain ⟨h4, h5, h6⟩ := h3 rfl; omega
theorem BInv.expired {lo hi : Int} {any : Bool} {a b c d : Int} (h : BInv lo hi any a b c d) : BInv lo hi any a b c (min (d + 1) 12) := by
  obtain ⟨h1, h2⟩ := h
  exact ⟨by omega, h2⟩
theorem sample_first_ok {t : Int} (h0 : 0 ≤ t) (h1 : t ≤ 65535) : Ok 1 (t * 8) (t * 2) 0 := by unfold Ok; omega
theorem BInv.first {t : Int} (h0 : 0 ≤ t) (h1 : t ≤ 65535) : BInv t t true 1 (t * 8) (t * 2) 0 := by unfold BInv; simp; omega
/-- A further sample. -/
theorem BInv.next {lo hi : Int} {a b c d t : Int} (h : BInv lo hi true a b c d) (h0 : 0 ≤ t) (h1 : t ≤ 65535) (ha : a ≤ 200) :
    BInv (min lo t) (max hi t) true (a + 1) (b + (t - b / 8)) (c + (ab (t - b / 8) - c / 4)) 0 ∧ min lo t ≤ (b + (t - b / 8)) / 8 ∧ (b + (t - b / 8)) / 8 ≤ max hi t := by
  obtain ⟨_, _, h3⟩ := h
  obtain ⟨h4, h5, h6⟩ := h3 rfl
  unfold BInv ab
  simp
  omega
theorem min_if {t lo : Int} (x : Int) (h : x = min lo t) : (if t < lo then t else lo) = x := by omega
theorem max_if {t hi : Int} (x : Int) (h : x = max hi t) : (if hi < t then t else hi) = x := by omega
set_option maxHeartbeats 2000000 in
theorem bounds_some (b off len cap : Nat) (X : Nat → Bool) (T : Nat → Int) (w : World) (hs : StepAt w b off len X T) (hl : len ≤ 200) :
    Calls Try.prog 5 #[.slice (some ⟨b, off, none⟩) len cap] w fun e w' => e = .returned (.bool true) ∧ Below w.heap.size w w' := by
  have HS := Lib.hid hs
  clear hs
  have hl' : decide (200 < (len : Int)) = false := by simp; omega
  go_enter Try.func5, Try.ntmps5
  go_wp2_with (go_at_call 15; refine (new_any _).mono ?_; rintro e w1 ⟨rfl, h1⟩)
  have HG : Hid (w.heap.size ≤ w1.heap.size) := h1.size
  go_loopg [4, 5, 6, 7] len (fun n lo hi any i wr => ∃ (k : Nat) (l h : Int) (y : Bool) (a b' c d : Int), k + n = len ∧ lo = .int .i64 l ∧ hi = .int .i64 h ∧ any = .bool y ∧ i = .int .i64 k ∧ BInv l h y a b' c d ∧ (y = true → a ≤ k) ∧
    Blk wr w1.heap.size #[.int .i64 a, .int .i64 b', .int .i64 c, .int .i64 d] 23 ∧ Below w.heap.size w wr)
  case atStart => exact ⟨0, 0, 0, false, 0, 0, 0, 0, by omega, rfl, rfl, rfl, rfl, by unfold BInv; simp, by simp, Blk.new _ _ _, b_alloc h1 _⟩
  case round =>
    obtain ⟨k, lo, hi, any, a, b', c, d, hk, rfl, rfl, rfl, rfl, hI, ha, B, hb⟩ := hrel
    have HI := Lib.hid hI
    have HB := Lib.hid hb
    have HA := Lib.hid ha
    clear ha
    clear hI hb h1
    obtain ⟨c0, c1, c2, c3, f0, f1, f2, f3⟩ := B.four
    by_cases hlt : k < len
    · have hst := (HS.out.below HB.out) k hlt
      obtain ⟨x0, x1, t0, t1⟩ := hst
      cases hx : X k with
      | true =>
        rw [hx] at x0
        clear hx
        go_wp2_with (go_at_call 21; refine (expired_ok HI.out.ok _).mono ?_; rintro e w2 ⟨rfl, h2⟩; have B2 := B.below h2; obtain ⟨d0, d1, d2, d3, e0, e1, e2, e3⟩ := B2.four)
        go_roundg (gk - 1)
        case measure => omega
        case rel => exact ⟨k + 1, lo, hi, any, a, b', c, _, by omega, rfl, rfl, rfl, by go_num, HI.out.expired, fun h => by have := HA.out h; omega, B2.store4, b_store4 (b_step HB.out h2) HG.out⟩
      | false =>
        rw [hx] at x0
        clear hx
        cases any with
        | false =>
          have HZ := Lib.hid (HI.out.2.1 rfl)
          obtain ⟨rfl, rfl, rfl, rfl, rfl⟩ := HZ.out
          clear HZ
          go_wp2_with fail
          refine (sample_first HI.out.ok t0 (by omega) _).mono ?_
          rintro e w2 ⟨rfl, h2⟩
          have B2 := B.below h2
          clear c0 c1 c2 c3 f0 f1 f2 f3
          have hlt2 := B2.lt
          obtain ⟨d0, d1, d2, d3, e0, e1, e2, e3⟩ := B2.four
          go_wp2_with fail
          refine (mean_ok (sample_first_ok t0 t1) _).mono ?_
          have hm : (T k * 8) / 8 = T k := by omega
          rw [hm]
          clear hm
          rintro e w3 ⟨rfl, h3⟩
          have B3 := (B2.store4.alloc _).below h3
          clear d0 d1 d2 d3 e0 e1 e2 e3
          go_wp2_with fail
          go_roundg (gk - 1)
          case measure => omega
          case rel => exact ⟨k + 1, T k, T k, true, 1, _, _, _, by omega, rfl, rfl, rfl, by go_num, BInv.first t0 t1, fun _ => by omega, B3, b_step (b_alloc (b_store4 (b_step HB.out h2) HG.out) _) h3⟩
        | true =>
          have ha := HA.out rfl
          obtain ⟨hI2, m0, m1⟩ := HI.out.next t0 t1 (by omega)
          have HI2 := Lib.hid hI2
          clear hI2
          go_wp2_with fail
          refine (sample_next HI.out.ok (by have := (HI.out.2.2 rfl).1; omega) t0 (by omega) rfl (n := a + 1) (by omega) _).mono ?_
          rintro e w2 ⟨rfl, h2⟩
          have B2 := B.below h2
          clear c0 c1 c2 c3 f0 f1 f2 f3
          have hlt2 := B2.lt
          obtain ⟨d0, d1, d2, d3, e0, e1, e2, e3⟩ := B2.four
          generalize HQ : ab (T k - b' / 8) = q at *
          clear HQ
          generalize HM : min lo (T k) = lo2 at *
          have q1 : (if T k < lo then T k else lo) = lo2 := min_if _ HM.symm
          clear HM
          generalize HM : max hi (T k) = hi2 at *
          have q2 : (if hi < T k then T k else hi) = hi2 := max_if _ HM.symm
          clear HM
          go_wp2_with fail
          refine (mean_ok HI2.out.ok _).mono ?_
          rintro e w3 ⟨rfl, h3⟩
          have B3 := (B2.store4.alloc _).below h3
          clear d0 d1 d2 d3 e0 e1 e2 e3
          go_wp2_with fail
          go_roundg (gk - 1)
          case measure => omega
          case rel => exact ⟨k + 1, lo2, hi2, true, _, _, _, _, by omega, rfl, rfl, rfl, by go_num, HI2.out, fun _ => by omega, B3, b_step (b_alloc (b_store4 (b_step HB.out h2) HG.out) _) h3⟩
    · go_wp2_with fail
      refine (awake_any _).mono ?_
      rintro e w2 ⟨rfl, h2⟩
      have B2 := B.below h2
      clear c0 c1 c2 c3 f0 f1 f2 f3
      obtain ⟨d0, d1, d2, d3, e0, e1, e2, e3⟩ := B2.four
      go_wp2_with fail
      refine (chk_ok HI.out.ok _).mono ?_
      rintro e w3 ⟨rfl, h3⟩
      go_wp2_with fail
      go_ret
      exact ⟨rfl, b_step (b_step HB.out h2) h3⟩
theorem bounds_many (A : Option Addr) (len cap : Nat) (h : 200 < len) (w : World) :
    Calls Try.prog 5 #[.slice A len cap] w fun e w' => e = .returned (.bool true) ∧ Below w.heap.size w w' := by
  go_enter Try.func5, Try.ntmps5
  go_wp2_with (go_at_call 12; refine (awake_any _).mono ?_; rintro e w1 ⟨rfl, h1⟩)
  go_ret
  exact ⟨rfl, h1⟩
theorem bounds_empty (A : Option Addr) (cap : Nat) (w : World) :
    Calls Try.prog 5 #[.slice A 0 cap] w fun e w' => e = .returned (.bool true) ∧ Below w.heap.size w w' := by
  go_enter Try.func5, Try.ntmps5
  go_wp2_with (go_at_call 15; refine (new_any _).mono ?_; rintro e w1 ⟨rfl, h1⟩)
  go_loopg [7] 0 (fun n i wr => n = 0 ∧ i = .int .i64 0 ∧ Blk wr w1.heap.size #[.int .i64 0, .int .i64 0, .int .i64 0, .int .i64 0] 23 ∧ Below w.heap.size w wr)
  case atStart => exact ⟨rfl, rfl, Blk.new _ _ _, b_alloc h1 _⟩
  case round =>
    obtain ⟨rfl, rfl, B, hb⟩ := hrel
    have HB := Lib.hid hb
    clear hb h1
    go_wp2_with fail
    refine (awake_any _).mono ?_
    rintro e w2 ⟨rfl, h2⟩
    have B2 := B.below h2
    obtain ⟨d0, d1, d2, d3, e0, e1, e2, e3⟩ := B2.four
    go_wp2_with fail
    refine (chk_ok (a := 0) (b := 0) (c := 0) (d := 0) (by decide) _).mono ?_
    rintro e w3 ⟨rfl, h3⟩
    go_wp2_with fail
    go_ret
    exact ⟨rfl, b_step (b_step HB.out h2) h3⟩
theorem bounds_any {v : Value} (w : World) (h : (∃ A cap, v = .slice A 0 cap) ∨ ∃ (b off len cap : Nat) (X : Nat → Bool) (T : Nat → Int), v = .slice (some ⟨b, off, none⟩) len cap ∧ StepAt w b off len X T) :
    Calls Try.prog 5 #[v] w fun e w' => e = .returned (.bool true) ∧ Below w.heap.size w w' := by
  rcases h with ⟨A, cap, rfl⟩ | ⟨b, off, len, cap, X, T, rfl, hs⟩
  · exact bounds_empty A cap w
  · by_cases hl : len ≤ 200
    · exact bounds_some b off len cap X T w hs hl
    · exact bounds_many _ len cap (by omega) w
end Go.Proofs.Ytifmkikllbapiaa
