/- EstimatorExceeds returns true for every row of steps, and changes nothing that existed before the call. -/
import Derived.Test.YtifmkikllbapiaaXinv
namespace Go.Proofs.Ytifmkikllbapiaa
open Go.RowKit
theorem held_blk_next {w W W' : World} {g t : Nat} {cs : Array Value} {v0 v1 v2 v3 : Value} (h : (W.cell? ⟨g, 0, none⟩ = some v0 ∧ W.cell? ⟨g, 1, none⟩ = some v1 ∧ W.cell? ⟨g, 2, none⟩ = some v2 ∧ W.cell? ⟨g, 3, none⟩ = some v3) ∧ Blk W g cs t ∧ Below w.heap.size w W) (hb : Below W.heap.size W W') :
    (W'.cell? ⟨g, 0, none⟩ = some v0 ∧ W'.cell? ⟨g, 1, none⟩ = some v1 ∧ W'.cell? ⟨g, 2, none⟩ = some v2 ∧ W'.cell? ⟨g, 3, none⟩ = some v3) ∧ Blk W' g cs t ∧ Below w.heap.size w W' :=
  ⟨cells4_below h.1 hb, h.2.1.below hb, b_step h.2.2 hb⟩
theorem held_time_next {w W W' : World} {g t : Nat} {cs : Array Value} {x : Addr} {y v0 v1 v2 v3 : Value} (h : (W.cell? ⟨g, 0, none⟩ = some v0 ∧ W.cell? ⟨g, 1, none⟩ = some v1 ∧ W.cell? ⟨g, 2, none⟩ = some v2 ∧ W.cell? ⟨g, 3, none⟩ = some v3) ∧ W.cell? x = some y ∧ Blk W g cs t ∧ Below w.heap.size w W) (hb : Below W.heap.size W W') :
    (W'.cell? ⟨g, 0, none⟩ = some v0 ∧ W'.cell? ⟨g, 1, none⟩ = some v1 ∧ W'.cell? ⟨g, 2, none⟩ = some v2 ∧ W'.cell? ⟨g, 3, none⟩ = some v3) ∧ W'.cell? x = some y ∧ Blk W' g cs t ∧ Below w.heap.size w W' :=
  ⟨cells4_below h.1 hb, cell_below h.2.1 hb, h.2.2.1.below hb, b_step h.2.2.2 hb⟩
set_option maxHeartbeats 8000000 in
theorem exceeds_some (b off len cap : Nat) (X : Nat → Bool) (T : Nat → Int) (w : World) (hs : StepAt w b off len X T) (hl : len ≤ 200) :
    Calls Try.prog 6 #[.slice (some ⟨b, off, none⟩) len cap] w fun e w' => e = .returned (.bool true) ∧ Below w.heap.size w w' := by
  have HS := Lib.hid hs
  clear hs
  have hl' : decide (200 < (len : Int)) = false := by simp; omega
  go_enter Try.func6, Try.ntmps6
  go_wp2_with (go_at_call 15; refine (new_any _).mono ?_; rintro e w1 ⟨rfl, h1⟩)
  have HG : Hid (w.heap.size ≤ w1.heap.size) := h1.size
  go_loopg [4] len (fun n i wr => ∃ (k : Nat) (a b' c d : Int), k + n = len ∧ i = .int .i64 k ∧ XInv a b' c d ∧ a ≤ k ∧
    Blk wr w1.heap.size #[.int .i64 a, .int .i64 b', .int .i64 c, .int .i64 d] 23 ∧ Below w.heap.size w wr)
  case atStart => exact ⟨0, 0, 0, 0, 0, by omega, rfl, xinv_new, by omega, Blk.new _ _ _, b_alloc h1 _⟩
  case round =>
    obtain ⟨k, a, b', c, d, hk, rfl, hI, ha, B, hb⟩ := hrel
    have HI := Lib.hid hI
    have HB := Lib.hid hb
    clear hI hb h1
    obtain ⟨c0, c1, c2, c3, f0, f1, f2, f3⟩ := B.four
    by_cases hlt : k < len
    · have hst := (HS.out.below HB.out) k hlt
      obtain ⟨x0, x1, t0, t1⟩ := hst
      cases hx : X k with
      | true =>
        rw [hx] at x0
        clear hx t0 t1
        go_wp2_with fail
        refine (expired_ok HI.out.ok _).mono ?_
        rintro e w2 ⟨rfl, h2⟩
        have B2 := B.below h2
        clear c0 c1 c2 c3 f0 f1 f2 f3 x0 x1
        obtain ⟨d0, d1, d2, d3, e0, e1, e2, e3⟩ := B2.four
        have BX := B2.store4 (a' := .int .i64 a) (b' := .int .i64 b') (c' := .int .i64 c) (d' := .int .i64 (min (d + 1) 12))
        have HBX := Lib.hid (b_store4 (a := .int .i64 a) (b := .int .i64 b') (c := .int .i64 c) (d := .int .i64 (min (d + 1) 12)) (b_step HB.out h2) HG.out)
        have HI2 := Lib.hid HI.out.expired
        have hz := HI.out.ok.2.2.2.1
        have hz' : 0 ≤ min (d + 1) 12 ∧ min (d + 1) 12 ≤ 12 := by omega
        generalize min (d + 1) 12 = dd at *
        clear hz h2
        have hok := HI2.out.ok
        have HOK := Lib.hid hok
        obtain ⟨t1, t2, t3, t4, t5⟩ := tmo_facts hok
        obtain ⟨u, hr⟩ : ∃ u, tmo a b' c (min (dd + 1) 12) = u := ⟨_, rfl⟩
        obtain ⟨t, hq⟩ : ∃ t, tmo a b' c dd = t := ⟨_, rfl⟩
        rw [hr] at t2 t4 t5
        rw [hq] at t2 t4 t5
        rw [hq] at t1 t3
        have HQ := Lib.hid hq
        have HR := Lib.hid hr
        have HOK2 := Lib.hid HI2.out.expired.ok
        clear hok hq hr
        go_upto_region 13 with fail
        go_cut [7, 8] (fun s7 s8 wc => s7 = .int .i64 t ∧ s8 = .int .i64 u ∧ Blk wc w1.heap.size #[.int .i64 a, .int .i64 b', .int .i64 c, .int .i64 dd] 23 ∧ Below w.heap.size w wc)
        case first =>
          go_region_held3 (fun w' => (w'.cell? ⟨w1.heap.size, 0, none⟩ = some (.int .i64 a) ∧ w'.cell? ⟨w1.heap.size, 1, none⟩ = some (.int .i64 b') ∧ w'.cell? ⟨w1.heap.size, 2, none⟩ = some (.int .i64 c) ∧ w'.cell? ⟨w1.heap.size, 3, none⟩ = some (.int .i64 dd)) ∧ Blk w' w1.heap.size #[.int .i64 a, .int .i64 b', .int .i64 c, .int .i64 dd] 23 ∧ Below w.heap.size w w')
            (first | with_reducible exact ⟨BX.drew.cells4, BX.drew, b_drew HBX.out⟩ | with_reducible exact held_blk_next (by assumption) hb)
            (first
              | (go_at_call 17; (with_reducible refine (timeout_ok HOK.out _).mono ?_); rw [HQ.out]; rintro e w4 ⟨rfl, hb⟩)
              | (go_at_call 21; refine (expired_ok HOK.out _).mono ?_; rintro e w4 ⟨rfl, hb⟩)
              | (go_at_call 17; (with_reducible refine (timeout_ok HOK2.out _).mono ?_); rw [HR.out]; rintro e w4 ⟨rfl, hb⟩))
          rename_i hh
          go_wp2_with fail
          go_meet
          exact ⟨rfl, rfl, hh.2.1, hh.2.2⟩
        case rest =>
          obtain ⟨rfl, rfl, BC, hbc⟩ := hcut
          have HBC := Lib.hid hbc
          clear hbc HBX BX
          obtain ⟨d0, d1, d2, d3, e0, e1, e2, e3⟩ := BC.four
          go_wp2_with fail
          refine (mean_ok HOK.out _).mono ?_
          rintro e w5 ⟨rfl, h5⟩
          have B5 := BC.below h5
          clear d0 d1 d2 d3 e0 e1 e2 e3
          obtain ⟨d0, d1, d2, d3, e0, e1, e2, e3⟩ := B5.four
          have HB5 := Lib.hid (b_step HBC.out h5)
          have hcase : (u = 2 * t ∧ u ≤ 65536 ∧ dd < 12) ∨ (12 ≤ dd ∧ u ≤ 65536) ∨ (12 ≤ dd ∧ u ≤ t) ∨ (65536 < 2 * t ∧ u ≤ t) ∨ (65536 < 2 * t ∧ u ≤ 65536) := by omega
          clear t4 t5 h5
          rcases hcase with ⟨rfl, g1, g2⟩ | ⟨g1, g2⟩ | ⟨g1, g2⟩ | ⟨g1, g2⟩ | ⟨g1, g2⟩
          all_goals
            go_wp2_with fail
            all_goals
              go_roundg (gk - 1)
              case measure => omega
              case rel => exact ⟨k + 1, _, _, _, _, by omega, by go_num, HI2.out, by omega, B5, HB5.out⟩

      | false =>
        rw [hx] at x0
        clear hx
        obtain ⟨p2, q2, r2, s2, hS, hI2, ha2, hd0, hd1⟩ := HI.out.step t0 t1 (by omega)
        have HC := Lib.hid hS
        have HI2 := Lib.hid hI2
        have HA2 := Lib.hid ha2
        clear hS hI2 ha2
        have hwr : IntKind.i64.wrap (T k) = T k := IntWalk.i64_in _ ⟨by omega, by omega⟩
        have SD : Hid ((wr.drew.cell? ⟨w1.heap.size, 0, none⟩ = some (.int .i64 a) ∧ wr.drew.cell? ⟨w1.heap.size, 1, none⟩ = some (.int .i64 b') ∧ wr.drew.cell? ⟨w1.heap.size, 2, none⟩ = some (.int .i64 c) ∧ wr.drew.cell? ⟨w1.heap.size, 3, none⟩ = some (.int .i64 d)) ∧ wr.drew.cell? ⟨b, off + k * 2 + 1, none⟩ = some (.int .u16 (T k)) ∧ Blk wr.drew w1.heap.size #[.int .i64 a, .int .i64 b', .int .i64 c, .int .i64 d] 23 ∧ Below w.heap.size w wr.drew) := ⟨B.drew.cells4, x1, B.drew, b_drew HB.out⟩
        have HX : Hid (Below wr.drew.heap.size wr.drew (wr.alloc (.cells #[.int .i64 0, .int .i64 0, .int .i64 0, .int .i64 0] 23)).drew) := b_alloc (Below.refl _ _) _
        have BZ : Hid (Blk (wr.alloc (.cells #[.int .i64 0, .int .i64 0, .int .i64 0, .int .i64 0] 23)).drew wr.heap.size #[.int .i64 0, .int .i64 0, .int .i64 0, .int .i64 0] 23) := (Blk.new _ _ _).drew
        go_upto_region 9 with fail
        go_cut [5, 6] (fun s5 s6 wc => ∃ gx, s5 = .pointer (some ⟨gx, 0, none⟩) ∧ s6 = .int .i64 0 ∧ Blk wc gx #[.int .i64 p2, .int .i64 q2, .int .i64 r2, .int .i64 s2] 23 ∧ Blk wc w1.heap.size #[.int .i64 a, .int .i64 b', .int .i64 c, .int .i64 d] 23 ∧ Below w.heap.size w wc)
        case first =>
          go_region_held3 (fun w' => (w'.cell? ⟨w1.heap.size, 0, none⟩ = some (.int .i64 a) ∧ w'.cell? ⟨w1.heap.size, 1, none⟩ = some (.int .i64 b') ∧ w'.cell? ⟨w1.heap.size, 2, none⟩ = some (.int .i64 c) ∧ w'.cell? ⟨w1.heap.size, 3, none⟩ = some (.int .i64 d)) ∧ w'.cell? ⟨b, off + k * 2 + 1, none⟩ = some (.int .u16 (T k)) ∧ Blk w' w1.heap.size #[.int .i64 a, .int .i64 b', .int .i64 c, .int .i64 d] 23 ∧ Below w.heap.size w w')
            (first
              | with_reducible exact SD.out
              | with_reducible exact held_time_next SD.out (b_alloc (Below.refl _ _) _)
              | with_reducible exact held_time_next SD.out hb
              | with_reducible exact held_time_next SD.out (b_alloc hb _)
              | with_reducible exact held_time_next SD.out (b_step HX.out hb)
              | with_reducible exact held_time_next SD.out (b_store4 (b_step HX.out hb) (by simp)))
            (first | (go_at_call 10; refine (HC.out _).mono ?_; rintro e w2 ⟨rfl, hb⟩; try (have XB : Blk w2 wr.heap.size #[.int .i64 0, .int .i64 0, .int .i64 0, .int .i64 0] 23 := (by with_reducible exact BZ.out.below hb); obtain ⟨y0, y1, y2, y3, z0, z1, z2, z3⟩ := XB.four)))
          · rename_i hh
            go_wp2_with fail
            go_meet
            exact ⟨_, rfl, rfl, Blk.new _ _ _, hh.2.2.1, hh.2.2.2⟩
          · rename_i hh
            go_wp2_with fail
            go_meet
            exact ⟨_, rfl, rfl, XB.store4, hh.2.2.1, hh.2.2.2⟩
        case rest =>
          obtain ⟨gx, rfl, rfl, BQ, B2, hb2⟩ := hcut
          have HB2 := Lib.hid hb2
          clear hb2 c0 c1 c2 c3 f0 f1 f2 f3 x0 x1 hwr SD BZ HX B
          obtain ⟨d0, d1, d2, d3, e0, e1, e2, e3⟩ := B2.four
          obtain ⟨y0, y1, y2, y3, z0, z1, z2, z3⟩ := BQ.four
          have BX := B2.store4 (a' := .int .i64 p2) (b' := .int .i64 q2) (c' := .int .i64 r2) (d' := .int .i64 s2)
          have HBX := Lib.hid (b_store4 (a := .int .i64 p2) (b := .int .i64 q2) (c := .int .i64 r2) (d := .int .i64 s2) HB2.out HG.out)
          have hok := HI2.out.ok
          have HOK := Lib.hid hok
          obtain ⟨t1, t2, t3, t4, t5⟩ := tmo_facts hok
          obtain ⟨u, hr⟩ : ∃ u, tmo p2 q2 r2 (min (s2 + 1) 12) = u := ⟨_, rfl⟩
          obtain ⟨t, hq⟩ : ∃ t, tmo p2 q2 r2 s2 = t := ⟨_, rfl⟩
          rw [hr] at t2 t4 t5
          rw [hq] at t2 t4 t5
          rw [hq] at t1 t3
          have HQ := Lib.hid hq
          have HR := Lib.hid hr
          have HOK2 := Lib.hid HI2.out.expired.ok
          clear hok hq hr
          go_upto_region 13 with fail
          go_cut [7, 8] (fun s7 s8 wc => s7 = .int .i64 t ∧ s8 = .int .i64 u ∧ Blk wc w1.heap.size #[.int .i64 p2, .int .i64 q2, .int .i64 r2, .int .i64 s2] 23 ∧ Below w.heap.size w wc)
          case first =>
            go_region_held3 (fun w' => (w'.cell? ⟨w1.heap.size, 0, none⟩ = some (.int .i64 p2) ∧ w'.cell? ⟨w1.heap.size, 1, none⟩ = some (.int .i64 q2) ∧ w'.cell? ⟨w1.heap.size, 2, none⟩ = some (.int .i64 r2) ∧ w'.cell? ⟨w1.heap.size, 3, none⟩ = some (.int .i64 s2)) ∧ Blk w' w1.heap.size #[.int .i64 p2, .int .i64 q2, .int .i64 r2, .int .i64 s2] 23 ∧ Below w.heap.size w w')
              (first | with_reducible exact ⟨BX.drew.cells4, BX.drew, b_drew HBX.out⟩ | with_reducible exact held_blk_next (by assumption) hb)
              (first
                | (go_at_call 17; (with_reducible refine (timeout_ok HOK.out _).mono ?_); rw [HQ.out]; rintro e w4 ⟨rfl, hb⟩)
                | (go_at_call 21; refine (expired_ok HOK.out _).mono ?_; rintro e w4 ⟨rfl, hb⟩)
                | (go_at_call 17; (with_reducible refine (timeout_ok HOK2.out _).mono ?_); rw [HR.out]; rintro e w4 ⟨rfl, hb⟩))
            rename_i hh
            go_wp2_with fail
            go_meet
            exact ⟨rfl, rfl, hh.2.1, hh.2.2⟩
          case rest =>
            obtain ⟨rfl, rfl, BC, hbc⟩ := hcut
            have HBC := Lib.hid hbc
            clear hbc HBX BX
            obtain ⟨d0, d1, d2, d3, e0, e1, e2, e3⟩ := BC.four
            go_wp2_with fail
            refine (mean_ok HOK.out _).mono ?_
            rintro e w5 ⟨rfl, h5⟩
            have B5 := BC.below h5
            clear d0 d1 d2 d3 e0 e1 e2 e3
            obtain ⟨d0, d1, d2, d3, e0, e1, e2, e3⟩ := B5.four
            have HB5 := Lib.hid (b_step HBC.out h5)
            have hcase : (u = 2 * t ∧ u ≤ 65536 ∧ s2 < 12) ∨ (12 ≤ s2 ∧ u ≤ 65536) ∨ (12 ≤ s2 ∧ u ≤ t) ∨ (65536 < 2 * t ∧ u ≤ t) ∨ (65536 < 2 * t ∧ u ≤ 65536) := by omega
            clear t4 t5 h5
            rcases hcase with ⟨rfl, g1, g2⟩ | ⟨g1, g2⟩ | ⟨g1, g2⟩ | ⟨g1, g2⟩ | ⟨g1, g2⟩
            all_goals
              go_wp2_with fail
              all_goals
                go_roundg (gk - 1)
                case measure => omega
                case rel => exact ⟨k + 1, _, _, _, _, by omega, by go_num, HI2.out, by have := HA2.out; omega, B5, HB5.out⟩

    · go_wp2_with fail
      refine (awake_any _).mono ?_
      rintro e w2 ⟨rfl, h2⟩
      go_wp2_with fail
      go_ret
      exact ⟨rfl, b_step HB.out h2⟩
theorem exceeds_empty (A : Option Addr) (cap : Nat) (w : World) :
    Calls Try.prog 6 #[.slice A 0 cap] w fun e w' => e = .returned (.bool true) ∧ Below w.heap.size w w' := by
  go_enter Try.func6, Try.ntmps6
  go_wp2_with (go_at_call 15; refine (new_any _).mono ?_; rintro e w1 ⟨rfl, h1⟩)
  go_loopg [4] 0 (fun n i wr => n = 0 ∧ i = .int .i64 0 ∧ Below w.heap.size w wr)
  case atStart => exact ⟨rfl, rfl, b_alloc h1 _⟩
  case round =>
    obtain ⟨rfl, rfl, hb⟩ := hrel
    have HB := Lib.hid hb
    clear hb h1
    go_wp2_with fail
    refine (awake_any _).mono ?_
    rintro e w2 ⟨rfl, h2⟩
    go_wp2_with fail
    go_ret
    exact ⟨rfl, b_step HB.out h2⟩
theorem exceeds_many (A : Option Addr) (len cap : Nat) (h : 200 < len) (w : World) :
    Calls Try.prog 6 #[.slice A len cap] w fun e w' => e = .returned (.bool true) ∧ Below w.heap.size w w' := by
  go_enter Try.func6, Try.ntmps6
  go_wp2_with (go_at_call 12; refine (awake_any _).mono ?_; rintro e w1 ⟨rfl, h1⟩)
  go_ret
  exact ⟨rfl, h1⟩
theorem exceeds_any {v : Value} (w : World) (h : (∃ A cap, v = .slice A 0 cap) ∨ ∃ (b off len cap : Nat) (X : Nat → Bool) (T : Nat → Int), v = .slice (some ⟨b, off, none⟩) len cap ∧ StepAt w b off len X T) :
    Calls Try.prog 6 #[v] w fun e w' => e = .returned (.bool true) ∧ Below w.heap.size w w' := by
  rcases h with ⟨A, cap, rfl⟩ | ⟨b, off, len, cap, X, T, rfl, hs⟩
  · exact exceeds_empty A cap w
  · by_cases hl : len ≤ 200
    · exact exceeds_some b off len cap X T w hs hl
    · exact exceeds_many _ len cap (by omega) w
end Go.Proofs.Ytifmkikllbapiaa
