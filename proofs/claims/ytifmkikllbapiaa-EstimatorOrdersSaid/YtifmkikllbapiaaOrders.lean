/- EstimatorOrders returns true for every row of steps and all times, and changes nothing that existed before the call. -/
import Derived.Test.YtifmkikllbapiaaXinv
namespace Go.Proofs.Ytifmkikllbapiaa
open Go.RowKit
/-- Two samples to one estimator: the longer never makes the mean less. -/
theorem XInv.two {a b c d t u : Int} (h : XInv a b c d) (h0 : 0 ≤ t) (h1 : t ≤ u) (h2 : u ≤ 65535) (ha : a ≤ 200) :
    ∃ p q r p' q' r' : Int, (∀ w, Calls Try.prog 10 #[E4 a b c d, .int .i64 t] w fun e w' => e = .returned (.tuple #[E4 p q r 0, .int .i64 0]) ∧ Below w.heap.size w w') ∧
      (∀ w, Calls Try.prog 10 #[E4 a b c d, .int .i64 u] w fun e w' => e = .returned (.tuple #[E4 p' q' r' 0, .int .i64 0]) ∧ Below w.heap.size w w') ∧
      XInv p q r 0 ∧ XInv p' q' r' 0 ∧ p = a + 1 ∧ q / 8 ≤ q' / 8 := by
  have hok := h.ok
  rcases h with h | h
  · obtain ⟨rfl, rfl, rfl, _⟩ := h.2.1 rfl
    refine ⟨_, _, _, _, _, _, sample_first hok h0 (by omega), sample_first hok (by omega) (by omega), .inr ?_, .inr ?_, rfl, by omega⟩ <;> (unfold BInv; simp; omega)
  · have hI := (h.next h0 (by omega) ha).1
    have hJ := (h.next (t := u) (by omega) h2 ha).1
    have e1 : min 0 t = 0 := by omega
    have e2 : max 65535 t = 65535 := by omega
    have e3 : min 0 u = 0 := by omega
    have e4 : max 65535 u = 65535 := by omega
    rw [e1, e2] at hI
    rw [e3, e4] at hJ
    have ha := (h.2.2 rfl).1
    exact ⟨_, _, _, _, _, _, sample_next hok (by omega) h0 (by omega) rfl (n := a + 1) (by omega), sample_next hok (by omega) (by omega) (by omega) rfl (n := a + 1) (by omega), .inr hI, .inr hJ, rfl, by omega⟩
theorem held3k_next {w W W' : World} {g g' g'' : Nat} {v0 v1 v2 v3 x0 x1 x2 x3 y0 y1 y2 y3 : Value}
    (h : (W.cell? ⟨g, 0, none⟩ = some v0 ∧ W.cell? ⟨g, 1, none⟩ = some v1 ∧ W.cell? ⟨g, 2, none⟩ = some v2 ∧ W.cell? ⟨g, 3, none⟩ = some v3) ∧ (W.cell? ⟨g', 0, none⟩ = some x0 ∧ W.cell? ⟨g', 1, none⟩ = some x1 ∧ W.cell? ⟨g', 2, none⟩ = some x2 ∧ W.cell? ⟨g', 3, none⟩ = some x3) ∧ (W.cell? ⟨g'', 0, none⟩ = some y0 ∧ W.cell? ⟨g'', 1, none⟩ = some y1 ∧ W.cell? ⟨g'', 2, none⟩ = some y2 ∧ W.cell? ⟨g'', 3, none⟩ = some y3) ∧ Below w.heap.size w W) (hb : Below W.heap.size W W') :
    (W'.cell? ⟨g, 0, none⟩ = some v0 ∧ W'.cell? ⟨g, 1, none⟩ = some v1 ∧ W'.cell? ⟨g, 2, none⟩ = some v2 ∧ W'.cell? ⟨g, 3, none⟩ = some v3) ∧ (W'.cell? ⟨g', 0, none⟩ = some x0 ∧ W'.cell? ⟨g', 1, none⟩ = some x1 ∧ W'.cell? ⟨g', 2, none⟩ = some x2 ∧ W'.cell? ⟨g', 3, none⟩ = some x3) ∧ (W'.cell? ⟨g'', 0, none⟩ = some y0 ∧ W'.cell? ⟨g'', 1, none⟩ = some y1 ∧ W'.cell? ⟨g'', 2, none⟩ = some y2 ∧ W'.cell? ⟨g'', 3, none⟩ = some y3) ∧ Below w.heap.size w W' :=
  ⟨cells4_below h.1 hb, cells4_below h.2.1 hb, cells4_below h.2.2.1 hb, b_step h.2.2.2 hb⟩
set_option maxHeartbeats 4000000 in
theorem orders_some (b off len cap : Nat) (X : Nat → Bool) (T : Nat → Int) (p q : Int) (w : World) (hs : StepAt w b off len X T) (hl : len ≤ 100) (hp : 0 ≤ p ∧ p ≤ 65535) (hq : 0 ≤ q ∧ q ≤ 65535) :
    Calls Try.prog 9 #[.slice (some ⟨b, off, none⟩) len cap, .int .u16 p, .int .u16 q] w fun e w' => e = .returned (.bool true) ∧ Below w.heap.size w w' := by
  have HS := Lib.hid hs
  clear hs
  have hl' : decide (100 < (len : Int)) = false := by simp; omega
  go_enter Try.func9, Try.ntmps9
  go_wp2_with (go_at_call 15; refine (new_any _).mono ?_; rintro e w1 ⟨rfl, h1⟩)
  have HG : Hid (w.heap.size ≤ w1.heap.size) := h1.size
  go_loopg [8] len (fun n i wr => ∃ (k : Nat) (a b' c d : Int), k + n = len ∧ i = .int .i64 k ∧ XInv a b' c d ∧ a ≤ k ∧
    Blk wr w1.heap.size #[.int .i64 a, .int .i64 b', .int .i64 c, .int .i64 d] 23 ∧ Below w.heap.size w wr)
  case atStart => exact ⟨0, 0, 0, 0, 0, by omega, rfl, xinv_new, by omega, Blk.new _ _ _, b_alloc h1 _⟩
  case round =>
    obtain ⟨k, a, b', c, d, hk, rfl, hI, ha, B, hb⟩ := hrel
    have HI := Lib.hid hI
    have HB := Lib.hid hb
    clear hI hb h1
    by_cases hlt : k < len
    · have hst := (HS.out.below HB.out) k hlt
      obtain ⟨x0, x1, t0, t1⟩ := hst
      obtain ⟨p2, q2, r2, s2, hS, hI2, ha2, hd0, hd1⟩ := HI.out.step t0 t1 (by omega)
      have HC := Lib.hid hS
      have HI2 := Lib.hid hI2
      have HA2 := Lib.hid ha2
      clear hS hI2 ha2 x0
      have hwr : IntKind.i64.wrap (T k) = T k := IntWalk.i64_in _ ⟨by omega, by omega⟩
      have SD : Hid ((wr.drew.cell? ⟨w1.heap.size, 0, none⟩ = some (.int .i64 a) ∧ wr.drew.cell? ⟨w1.heap.size, 1, none⟩ = some (.int .i64 b') ∧ wr.drew.cell? ⟨w1.heap.size, 2, none⟩ = some (.int .i64 c) ∧ wr.drew.cell? ⟨w1.heap.size, 3, none⟩ = some (.int .i64 d)) ∧ wr.drew.cell? ⟨b, off + k * 2 + 1, none⟩ = some (.int .u16 (T k)) ∧ Keeps w [(w1.heap.size, #[.int .i64 a, .int .i64 b', .int .i64 c, .int .i64 d])] wr.drew) := ⟨B.drew.cells4, x1, Keeps.drew (keeps_cons B (keeps_nil HB.out))⟩
      have HX : Hid (Below wr.drew.heap.size wr.drew (wr.alloc (.cells #[.int .i64 0, .int .i64 0, .int .i64 0, .int .i64 0] 23)).drew) := b_alloc (Below.refl _ _) _
      have BZ : Hid (Blk (wr.alloc (.cells #[.int .i64 0, .int .i64 0, .int .i64 0, .int .i64 0] 23)).drew wr.heap.size #[.int .i64 0, .int .i64 0, .int .i64 0, .int .i64 0] 23) := (Blk.new _ _ _).drew
      go_upto_region 7 with fail
      go_cut [9, 10] (fun sx sf wc => ∃ gx, sx = .pointer (some ⟨gx, 0, none⟩) ∧ sf = .int .i64 0 ∧ Blk wc gx #[.int .i64 p2, .int .i64 q2, .int .i64 r2, .int .i64 s2] 23 ∧ Keeps w [(w1.heap.size, #[.int .i64 a, .int .i64 b', .int .i64 c, .int .i64 d])] wc)
      case first =>
        go_region_held3 (fun w' => (w'.cell? ⟨w1.heap.size, 0, none⟩ = some (.int .i64 a) ∧ w'.cell? ⟨w1.heap.size, 1, none⟩ = some (.int .i64 b') ∧ w'.cell? ⟨w1.heap.size, 2, none⟩ = some (.int .i64 c) ∧ w'.cell? ⟨w1.heap.size, 3, none⟩ = some (.int .i64 d)) ∧ w'.cell? ⟨b, off + k * 2 + 1, none⟩ = some (.int .u16 (T k)) ∧ Keeps w [(w1.heap.size, #[.int .i64 a, .int .i64 b', .int .i64 c, .int .i64 d])] w')
          (first
            | with_reducible exact SD.out
            | with_reducible exact held_k_next SD.out (b_alloc (Below.refl _ _) _)
            | with_reducible exact held_k_next SD.out hb
            | with_reducible exact held_k_next SD.out (b_alloc hb _)
            | with_reducible exact held_k_next SD.out (b_step HX.out hb)
            | with_reducible exact held_k_next SD.out (b_store4 (b_step HX.out hb) (by simp)))
          (first | (go_at_call 10; refine (HC.out _).mono ?_; rintro e w2 ⟨rfl, hb⟩; try (have XB : Blk w2 wr.heap.size #[.int .i64 0, .int .i64 0, .int .i64 0, .int .i64 0] 23 := (by with_reducible exact BZ.out.below hb); obtain ⟨y0, y1, y2, y3, z0, z1, z2, z3⟩ := XB.four)))
        · rename_i hh
          go_wp2_with fail
          go_meet
          exact ⟨_, rfl, rfl, Blk.new _ _ _, hh.2.2⟩
        · rename_i hh
          go_wp2_with fail
          go_meet
          exact ⟨_, rfl, rfl, XB.store4, hh.2.2⟩
      case rest =>
        obtain ⟨gx, rfl, rfl, BQ, hK2⟩ := hcut
        have B2 := hK2.head
        have HB2 := Lib.hid hK2.1
        clear hK2 x1 hwr SD BZ HX B
        obtain ⟨d0, d1, d2, d3, e0, e1, e2, e3⟩ := B2.four
        obtain ⟨y0, y1, y2, y3, z0, z1, z2, z3⟩ := BQ.four
        go_wp2_with fail
        go_roundg (gk - 1)
        case measure => omega
        case rel => exact ⟨k + 1, _, _, _, _, by omega, by go_num, HI2.out, by have := HA2.out; omega, B2.store4, b_store4 HB2.out HG.out⟩
    · obtain ⟨lo, hlo⟩ : ∃ lo, min p q = lo := ⟨_, rfl⟩
      obtain ⟨hi, hhi⟩ : ∃ hi, max p q = hi := ⟨_, rfl⟩
      have g0 : (if q < p then q else p) = lo := by omega
      have g1 : (if p < q then q else p) = hi := by omega
      have g2 : 0 ≤ lo ∧ lo ≤ hi ∧ hi ≤ 65535 := by omega
      clear hlo hhi
      obtain ⟨p1, q1, r1, p2, q2, r2, hS1, hS2, hI1, hI2, ha1, hle⟩ := HI.out.two g2.1 g2.2.1 g2.2.2 (by omega)
      obtain ⟨g3, g4, g5⟩ := g2
      have H1 := Lib.hid hS1
      have H2 := Lib.hid hS2
      have HI1 := Lib.hid hI1
      have HI2 := Lib.hid hI2
      clear hS1 hS2 hI1 hI2
      subst ha1
      obtain ⟨c0, c1, c2, c3, f0, f1, f2, f3⟩ := B.four
      have ha0 := HI.out.ok.1.1
      go_wp2_with fail
      refine (H1.out _).mono ?_
      rintro e w2 ⟨rfl, h2⟩
      clear c0 c1 c2 c3 f0 f1 f2 f3
      have B2 := B.below h2
      have l2 := B2.lt
      obtain ⟨c0, c1, c2, c3, f0, f1, f2, f3⟩ := B2.four
      go_wp2_with fail
      refine (H2.out _).mono ?_
      rintro e w3 ⟨rfl, h3⟩
      clear c0 c1 c2 c3 f0 f1 f2 f3
      have B3 := (B2.alloc _).below h3
      have X3 := (Blk.new w2 _ _).below h3
      have l3 := B3.lt
      have l4 := X3.lt
      go_wp2_with fail
      have A3 := (B3.alloc (.cells #[.int .i64 p2, .int .i64 q2, .int .i64 r2, .int .i64 0] 23)).drew.cells4
      have A4 := (X3.alloc (.cells #[.int .i64 p2, .int .i64 q2, .int .i64 r2, .int .i64 0] 23)).drew.cells4
      have A5 := (Blk.new w3 #[.int .i64 p2, .int .i64 q2, .int .i64 r2, .int .i64 0] 23).drew.cells4
      have K3 := Lib.hid (b_drew (b_alloc (b_step (b_alloc (b_step HB.out h2) _) h3) (.cells #[.int .i64 p2, .int .i64 q2, .int .i64 r2, .int .i64 0] 23)))
      clear B3 X3 B2 B h2 h3
      have hw : IntKind.i64.wrap (a + 1) = a + 1 := IntWalk.i64_in _ ⟨by omega, by omega⟩
      go_region_held3 (fun w' => (w'.cell? ⟨w1.heap.size, 0, none⟩ = some (.int .i64 a) ∧ w'.cell? ⟨w1.heap.size, 1, none⟩ = some (.int .i64 b') ∧ w'.cell? ⟨w1.heap.size, 2, none⟩ = some (.int .i64 c) ∧ w'.cell? ⟨w1.heap.size, 3, none⟩ = some (.int .i64 d)) ∧ (w'.cell? ⟨w2.heap.size, 0, none⟩ = some (.int .i64 (a + 1)) ∧ w'.cell? ⟨w2.heap.size, 1, none⟩ = some (.int .i64 q1) ∧ w'.cell? ⟨w2.heap.size, 2, none⟩ = some (.int .i64 r1) ∧ w'.cell? ⟨w2.heap.size, 3, none⟩ = some (.int .i64 0)) ∧ (w'.cell? ⟨w3.heap.size, 0, none⟩ = some (.int .i64 p2) ∧ w'.cell? ⟨w3.heap.size, 1, none⟩ = some (.int .i64 q2) ∧ w'.cell? ⟨w3.heap.size, 2, none⟩ = some (.int .i64 r2) ∧ w'.cell? ⟨w3.heap.size, 3, none⟩ = some (.int .i64 0)) ∧ Below w.heap.size w w')
        (first | with_reducible exact ⟨A3, A4, A5, K3.out⟩ | with_reducible exact held3k_next (by assumption) hb)
        (first
          | (go_at_call 12; refine (awake_any _).mono ?_; rintro e w4 ⟨rfl, hb⟩)
          | (go_at_call 19; (with_reducible refine (mean_ok HI1.out.ok _).mono ?_); rintro e w4 ⟨rfl, hb⟩)
          | (go_at_call 19; (with_reducible refine (mean_ok HI2.out.ok _).mono ?_); rintro e w4 ⟨rfl, hb⟩))
      rename_i hh
      go_wp2_with fail
      go_ret
      exact ⟨rfl, hh.2.2.2⟩
set_option maxHeartbeats 4000000 in
theorem orders_empty (A : Option Addr) (cap : Nat) (p q : Int) (w : World) (hp : 0 ≤ p ∧ p ≤ 65535) (hq : 0 ≤ q ∧ q ≤ 65535) :
    Calls Try.prog 9 #[.slice A 0 cap, .int .u16 p, .int .u16 q] w fun e w' => e = .returned (.bool true) ∧ Below w.heap.size w w' := by
  go_enter Try.func9, Try.ntmps9
  go_wp2_with (go_at_call 15; refine (new_any _).mono ?_; rintro e w1 ⟨rfl, h1⟩)
  go_loopg [8] 0 (fun n i wr => ∃ (k : Nat) (a b' c d : Int), k ≤ 0 ∧ i = .int .i64 k ∧ XInv a b' c d ∧ a ≤ k ∧
    Blk wr w1.heap.size #[.int .i64 a, .int .i64 b', .int .i64 c, .int .i64 d] 23 ∧ Below w.heap.size w wr)
  case atStart => exact ⟨0, 0, 0, 0, 0, by omega, rfl, xinv_new, by omega, Blk.new _ _ _, b_alloc h1 _⟩
  case round =>
    obtain ⟨k, a, b', c, d, hk, rfl, hI, ha, B, hb⟩ := hrel
    have HI := Lib.hid hI
    have HB := Lib.hid hb
    clear hI hb h1
    obtain ⟨lo, hlo⟩ : ∃ lo, min p q = lo := ⟨_, rfl⟩
    obtain ⟨hi, hhi⟩ : ∃ hi, max p q = hi := ⟨_, rfl⟩
    have g0 : (if q < p then q else p) = lo := by omega
    have g1 : (if p < q then q else p) = hi := by omega
    have g2 : 0 ≤ lo ∧ lo ≤ hi ∧ hi ≤ 65535 := by omega
    clear hlo hhi
    obtain ⟨p1, q1, r1, p2, q2, r2, hS1, hS2, hI1, hI2, ha1, hle⟩ := HI.out.two g2.1 g2.2.1 g2.2.2 (by omega)
    obtain ⟨g3, g4, g5⟩ := g2
    have H1 := Lib.hid hS1
    have H2 := Lib.hid hS2
    have HI1 := Lib.hid hI1
    have HI2 := Lib.hid hI2
    clear hS1 hS2 hI1 hI2
    subst ha1
    obtain ⟨c0, c1, c2, c3, f0, f1, f2, f3⟩ := B.four
    have ha0 := HI.out.ok.1.1
    go_wp2_with fail
    refine (H1.out _).mono ?_
    rintro e w2 ⟨rfl, h2⟩
    clear c0 c1 c2 c3 f0 f1 f2 f3
    have B2 := B.below h2
    have l2 := B2.lt
    obtain ⟨c0, c1, c2, c3, f0, f1, f2, f3⟩ := B2.four
    go_wp2_with fail
    refine (H2.out _).mono ?_
    rintro e w3 ⟨rfl, h3⟩
    clear c0 c1 c2 c3 f0 f1 f2 f3
    have B3 := (B2.alloc _).below h3
    have X3 := (Blk.new w2 _ _).below h3
    have l3 := B3.lt
    have l4 := X3.lt
    go_wp2_with fail
    have A3 := (B3.alloc (.cells #[.int .i64 p2, .int .i64 q2, .int .i64 r2, .int .i64 0] 23)).drew.cells4
    have A4 := (X3.alloc (.cells #[.int .i64 p2, .int .i64 q2, .int .i64 r2, .int .i64 0] 23)).drew.cells4
    have A5 := (Blk.new w3 #[.int .i64 p2, .int .i64 q2, .int .i64 r2, .int .i64 0] 23).drew.cells4
    have K3 := Lib.hid (b_drew (b_alloc (b_step (b_alloc (b_step HB.out h2) _) h3) (.cells #[.int .i64 p2, .int .i64 q2, .int .i64 r2, .int .i64 0] 23)))
    clear B3 X3 B2 B h2 h3
    have hw : IntKind.i64.wrap (a + 1) = a + 1 := IntWalk.i64_in _ ⟨by omega, by omega⟩
    go_region_held3 (fun w' => (w'.cell? ⟨w1.heap.size, 0, none⟩ = some (.int .i64 a) ∧ w'.cell? ⟨w1.heap.size, 1, none⟩ = some (.int .i64 b') ∧ w'.cell? ⟨w1.heap.size, 2, none⟩ = some (.int .i64 c) ∧ w'.cell? ⟨w1.heap.size, 3, none⟩ = some (.int .i64 d)) ∧ (w'.cell? ⟨w2.heap.size, 0, none⟩ = some (.int .i64 (a + 1)) ∧ w'.cell? ⟨w2.heap.size, 1, none⟩ = some (.int .i64 q1) ∧ w'.cell? ⟨w2.heap.size, 2, none⟩ = some (.int .i64 r1) ∧ w'.cell? ⟨w2.heap.size, 3, none⟩ = some (.int .i64 0)) ∧ (w'.cell? ⟨w3.heap.size, 0, none⟩ = some (.int .i64 p2) ∧ w'.cell? ⟨w3.heap.size, 1, none⟩ = some (.int .i64 q2) ∧ w'.cell? ⟨w3.heap.size, 2, none⟩ = some (.int .i64 r2) ∧ w'.cell? ⟨w3.heap.size, 3, none⟩ = some (.int .i64 0)) ∧ Below w.heap.size w w')
      (first | with_reducible exact ⟨A3, A4, A5, K3.out⟩ | with_reducible exact held3k_next (by assumption) hb)
      (first
        | (go_at_call 12; refine (awake_any _).mono ?_; rintro e w4 ⟨rfl, hb⟩)
        | (go_at_call 19; (with_reducible refine (mean_ok HI1.out.ok _).mono ?_); rintro e w4 ⟨rfl, hb⟩)
        | (go_at_call 19; (with_reducible refine (mean_ok HI2.out.ok _).mono ?_); rintro e w4 ⟨rfl, hb⟩))
    rename_i hh
    go_wp2_with fail
    go_ret
    exact ⟨rfl, hh.2.2.2⟩
theorem orders_many (A : Option Addr) (len cap : Nat) (p q : Int) (h : 100 < len) (w : World) :
    Calls Try.prog 9 #[.slice A len cap, .int .u16 p, .int .u16 q] w fun e w' => e = .returned (.bool true) ∧ Below w.heap.size w w' := by
  go_enter Try.func9, Try.ntmps9
  go_wp2_with (go_at_call 12; refine (awake_any _).mono ?_; rintro e w1 ⟨rfl, h1⟩)
  go_ret
  exact ⟨rfl, h1⟩
theorem orders_any {v : Value} {p q : Int} (w : World) (h : (∃ A cap, v = .slice A 0 cap) ∨ ∃ (b off len cap : Nat) (X : Nat → Bool) (T : Nat → Int), v = .slice (some ⟨b, off, none⟩) len cap ∧ StepAt w b off len X T) (hp : 0 ≤ p ∧ p ≤ 65535) (hq : 0 ≤ q ∧ q ≤ 65535) :
    Calls Try.prog 9 #[v, .int .u16 p, .int .u16 q] w fun e w' => e = .returned (.bool true) ∧ Below w.heap.size w w' := by
  rcases h with ⟨A, cap, rfl⟩ | ⟨b, off, len, cap, X, T, rfl, hs⟩
  · exact orders_empty A cap p q w hp hq
  · by_cases hl : len ≤ 100
    · exact orders_some b off len cap X T p q w hs hl hp hq
    · exact orders_many _ len cap p q (by omega) w
end Go.Proofs.Ytifmkikllbapiaa
