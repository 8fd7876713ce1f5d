/- EstimatorSettles returns true for all times, and changes nothing that existed before the call. -/
import Derived.Test.YtifmkikllbapiaaC
import Derived.Deep.LoopGhost
namespace Go.Proofs.Ytifmkikllbapiaa
open Go.RowKit
/-- The greatest variation behind the sample number k, where all samples are equal and at most 10000. -/
def most : Nat → Int
  | 0 => 20000
  | k + 1 => most k - most k / 4
theorem most_99 : most 99 ≤ 3 := by decide +kernel
/-- What holds behind k samples of t. -/
def SInv (t : Int) (k : Nat) (a b c last : Int) : Prop :=
  (k = 0 ∧ a = 0 ∧ b = 0 ∧ c = 0 ∧ last = 1099511627776) ∨
  (1 ≤ k ∧ a = k ∧ b = t * 8 ∧ 0 ≤ c ∧ c ≤ 2 * t ∧ last = max (max (t + c) (t + 1)) 2 ∧ (t ≤ 10000 → c ≤ most (k - 1)))
theorem SInv.ok {t : Int} {k : Nat} {a b c last : Int} (h : SInv t k a b c last) (h0 : 0 ≤ t) (h1 : t ≤ 65535) (hk : k ≤ 100) : Ok a b c 0 := by
  unfold Ok
  rcases h with ⟨_, rfl, rfl, rfl, _⟩ | ⟨h2, h3, h4, h5, h6, _, _⟩ <;> omega
theorem tmo_zero {a b c : Int} (ha : 0 < a) : tmo a b c 0 = max (max (b / 8 + c) (b / 8 + 1)) 2 := by
  unfold tmo baseOf
  simp [ha]
  omega
/-- One sample more. -/
theorem SInv.step {t : Int} {k : Nat} {a b c last : Int} (h : SInv t k a b c last) (h0 : 0 ≤ t) (h1 : t ≤ 65535) (hk : k < 100) :
    ∃ a' c' L : Int, (∀ w, Calls Try.prog 10 #[E4 a b c 0, .int .i64 t] w fun e w' => e = .returned (.tuple #[E4 a' (t * 8) c' 0, .int .i64 0]) ∧ Below w.heap.size w w') ∧
      Ok a' (t * 8) c' 0 ∧ tmo a' (t * 8) c' 0 = L ∧ L ≤ last ∧ SInv t (k + 1) a' (t * 8) c' L := by
  have hok := h.ok h0 h1 (by omega)
  rcases h with ⟨rfl, rfl, rfl, rfl, rfl⟩ | ⟨h2, rfl, rfl, h5, h6, rfl, h7⟩
  · refine ⟨1, t * 2, _, sample_first hok h0 (by omega), by unfold Ok; omega, rfl, ?_, ?_⟩
    · rw [tmo_zero (by omega)]
      omega
    · rw [tmo_zero (by omega)]
      exact .inr ⟨by omega, by simp, rfl, by omega, by omega, by omega, fun h => by show t * 2 ≤ (20000 : Int); omega⟩
  · have e1 : t * 8 + (t - t * 8 / 8) = t * 8 := by omega
    have e2 : ab (t - t * 8 / 8) = 0 := by unfold ab; omega
    have e3 : min ((k : Int) + 1) 1073741824 = k + 1 := by omega
    have hS := sample_next (m := 0) (n := k + 1) hok (by omega) h0 (by omega) e2.symm e3.symm
    rw [e1] at hS
    refine ⟨k + 1, _, _, hS, by unfold Ok; omega, rfl, ?_, ?_⟩
    · rw [tmo_zero (by omega)]
      omega
    · rw [tmo_zero (by omega)]
      refine .inr ⟨by omega, by omega, rfl, by omega, by omega, by omega, fun h => ?_⟩
      have h8 := h7 h
      obtain ⟨j, rfl⟩ : ∃ j, k = j + 1 := ⟨k - 1, by omega⟩
      show _ ≤ most (j + 1)
      unfold most
      have h9 : c ≤ most j := h8
      generalize most j = u at *
      omega
set_option maxHeartbeats 2000000 in
theorem settles_any (t : Int) (w : World) (ht : 0 ≤ t ∧ t ≤ 65535) :
    Calls Try.prog 7 #[.int .u16 t] w fun e w' => e = .returned (.bool true) ∧ Below w.heap.size w w' := by
  obtain ⟨t0, t1⟩ := ht
  go_enter Try.func7, Try.ntmps7
  go_wp2_with (go_at_call 15; refine (new_any _).mono ?_; rintro e w1 ⟨rfl, h1⟩)
  have HG : Hid (w.heap.size ≤ w1.heap.size) := h1.size
  go_loopg [5, 6] 100 (fun n la i wr => ∃ (k : Nat) (a b c last : Int), k + n = 100 ∧ la = .int .i64 last ∧ i = .int .i64 k ∧ SInv t k a b c last ∧
    Blk wr w1.heap.size #[.int .i64 a, .int .i64 b, .int .i64 c, .int .i64 0] 23 ∧ Below w.heap.size w wr)
  case atStart => exact ⟨0, 0, 0, 0, _, rfl, rfl, rfl, .inl ⟨rfl, rfl, rfl, rfl, rfl⟩, Blk.new _ _ _, b_alloc h1 _⟩
  case round =>
    obtain ⟨k, a, b, c, last, hk, rfl, rfl, hI, B, hb⟩ := hrel
    have HI := Lib.hid hI
    have HB := Lib.hid hb
    clear hI hb h1
    obtain ⟨c0, c1, c2, c3, f0, f1, f2, f3⟩ := B.four
    by_cases hlt : k < 100
    · obtain ⟨a', c', L, hS, hok, hL, hle, hI'⟩ := HI.out.step t0 t1 hlt
      have HS := Lib.hid hS
      have HOK := Lib.hid hok
      have HL := Lib.hid hL
      have HI' := Lib.hid hI'
      clear hS hok hL hI'
      go_wp2_with fail
      refine (HS.out _).mono ?_
      rintro e w2 ⟨rfl, h2⟩
      have B2 := B.below h2
      have l2 := B2.lt
      clear c0 c1 c2 c3 f0 f1 f2 f3
      obtain ⟨d0, d1, d2, d3, e0, e1, e2, e3⟩ := B2.four
      go_wp2_with fail
      refine (mean_ok HOK.out _).mono ?_
      rintro e w3 ⟨rfl, h3⟩
      have B3 := (B2.store4.alloc _).below h3
      clear d0 d1 d2 d3 e0 e1 e2 e3
      have hm : t * 8 / 8 = t := by omega
      rw [hm]
      clear hm
      obtain ⟨d0, d1, d2, d3, e0, e1, e2, e3⟩ := B3.four
      go_wp2_with fail
      refine (timeout_ok HOK.out _).mono ?_
      rw [HL.out]
      rintro e w4 ⟨rfl, h4⟩
      have B4 := B3.below h4
      clear d0 d1 d2 d3 e0 e1 e2 e3
      obtain ⟨d0, d1, d2, d3, e0, e1, e2, e3⟩ := B4.four
      go_wp2_with fail
      refine (timeout_ok HOK.out _).mono ?_
      rw [HL.out]
      rintro e w5 ⟨rfl, h5⟩
      have B5 := B4.below h5
      clear d0 d1 d2 d3 e0 e1 e2 e3
      go_wp2_with fail
      go_roundg (gk - 1)
      case measure => omega
      case rel => exact ⟨k + 1, _, _, _, L, by omega, rfl, by go_num, HI'.out, B5, b_step (b_step (b_step (b_alloc (b_store4 (b_step HB.out h2) HG.out) _) h3) h4) h5⟩
    · obtain rfl : k = 100 := by omega
      go_wp2_with fail
      refine (awake_any _).mono ?_
      rintro e w2 ⟨rfl, h2⟩
      by_cases hm : t ≤ 10000
      · have hq : last ≤ t + 3 ∧ 2 ≤ t + 3 := by
          rcases HI.out with ⟨h, _⟩ | ⟨_, _, _, _, _, h6, h7⟩
          · omega
          · have h8 : c ≤ most 99 := h7 hm
            have h9 := most_99
            omega
        obtain ⟨q1, q2⟩ := hq
        go_wp2_with fail
        go_ret
        exact ⟨rfl, b_step HB.out h2⟩
      · go_wp2_with fail
        go_ret
        exact ⟨rfl, b_step HB.out h2⟩
end Go.Proofs.Ytifmkikllbapiaa
