/- EstimatorForgets returns true for every row of steps and all times, and changes nothing that existed before the call. -/
import Derived.Test.YtifmkikllbapiaaXinv
namespace Go.Proofs.Ytifmkikllbapiaa
open Go.RowKit
theorem XInv.zero {a b c d : Int} (h : XInv a b c d) : XInv a b c 0 := by
  rcases h with ⟨h1, h2⟩ | ⟨h1, h2⟩
  · exact .inl ⟨by omega, h2⟩
  · exact .inr ⟨by omega, h2⟩
/-- What a sample leaves does not hang on the timeouts that have passed. -/
theorem XInv.twice {a b c d t : Int} (h : XInv a b c d) (h0 : 0 ≤ t) (h1 : t ≤ 65535) (ha : a ≤ 200) :
    ∃ p q r : Int, (∀ w, Calls Try.prog 10 #[E4 a b c d, .int .i64 t] w fun e w' => e = .returned (.tuple #[E4 p q r 0, .int .i64 0]) ∧ Below w.heap.size w w') ∧
      (∀ w, Calls Try.prog 10 #[E4 a b c 0, .int .i64 t] w fun e w' => e = .returned (.tuple #[E4 p q r 0, .int .i64 0]) ∧ Below w.heap.size w w') ∧
      XInv p q r 0 ∧ p = a + 1 := by
  have hok := h.ok
  have hok0 := h.zero.ok
  rcases h with h | h
  · obtain ⟨rfl, rfl, rfl, _⟩ := h.2.1 rfl
    refine ⟨_, _, _, sample_first hok h0 (by omega), sample_first hok0 h0 (by omega), .inr ?_, rfl⟩
    unfold BInv
    simp
    omega
  · have hI := (h.next h0 h1 ha).1
    have e1 : min 0 t = 0 := by omega
    have e2 : max 65535 t = 65535 := by omega
    rw [e1, e2] at hI
    have ha := (h.2.2 rfl).1
    exact ⟨_, _, _, sample_next hok (by omega) h0 (by omega) rfl (n := a + 1) (by omega), sample_next hok0 (by omega) h0 (by omega) rfl (n := a + 1) (by omega), .inr hI, rfl⟩
theorem Blk.far4 {w : World} {g g' t : Nat} {cs : Array Value} {a b c d : Value} (h : Blk w g cs t) (hne : g ≠ g') : Blk ((((w.setCell ⟨g', 0, none⟩ a).setCell ⟨g', 1, none⟩ b).setCell ⟨g', 2, none⟩ c).setCell ⟨g', 3, none⟩ d) g cs t :=
  (((h.far hne a).far hne b).far hne c).far hne d
theorem held2_next {w W W' : World} {g g' : Nat} {v0 v1 v2 v3 x0 x1 x2 x3 : Value}
    (h : (W.cell? ⟨g, 0, none⟩ = some v0 ∧ W.cell? ⟨g, 1, none⟩ = some v1 ∧ W.cell? ⟨g, 2, none⟩ = some v2 ∧ W.cell? ⟨g, 3, none⟩ = some v3) ∧ (W.cell? ⟨g', 0, none⟩ = some x0 ∧ W.cell? ⟨g', 1, none⟩ = some x1 ∧ W.cell? ⟨g', 2, none⟩ = some x2 ∧ W.cell? ⟨g', 3, none⟩ = some x3) ∧ Below w.heap.size w W) (hb : Below W.heap.size W W') :
    (W'.cell? ⟨g, 0, none⟩ = some v0 ∧ W'.cell? ⟨g, 1, none⟩ = some v1 ∧ W'.cell? ⟨g, 2, none⟩ = some v2 ∧ W'.cell? ⟨g, 3, none⟩ = some v3) ∧ (W'.cell? ⟨g', 0, none⟩ = some x0 ∧ W'.cell? ⟨g', 1, none⟩ = some x1 ∧ W'.cell? ⟨g', 2, none⟩ = some x2 ∧ W'.cell? ⟨g', 3, none⟩ = some x3) ∧ Below w.heap.size w W' :=
  ⟨cells4_below h.1 hb, cells4_below h.2.1 hb, b_step h.2.2 hb⟩
set_option maxHeartbeats 8000000 in
theorem forgets_some (b off len cap : Nat) (X : Nat → Bool) (T : Nat → Int) (u : Int) (w : World) (hs : StepAt w b off len X T) (hl : len ≤ 100) (hu : 0 ≤ u ∧ u ≤ 65535) :
    Calls Try.prog 8 #[.slice (some ⟨b, off, none⟩) len cap, .int .u16 u] w fun e w' => e = .returned (.bool true) ∧ Below w.heap.size w w' := by
  have HS := Lib.hid hs
  clear hs
  have hl' : decide (100 < (len : Int)) = false := by simp; omega
  go_enter Try.func8, Try.ntmps8
  go_wp2_with fail
  refine (new_any _).mono ?_
  rintro e w1 ⟨rfl, h1⟩
  go_wp2_with fail
  refine (new_any _).mono ?_
  rintro e w2 ⟨rfl, h2⟩
  have h3 := b_step h1 h2
  go_wp2_with fail
  have HG : Hid (w.heap.size ≤ w2.heap.size) := h3.size
  have HG' : Hid (w.heap.size ≤ w2.heap.size + 1) := Nat.le_succ_of_le h3.size
  go_loopg [7] len (fun n i wr => ∃ (k : Nat) (a b' c d : Int), k + n = len ∧ i = .int .i64 k ∧ XInv a b' c d ∧ a ≤ k ∧
    Blk wr w2.heap.size #[.int .i64 a, .int .i64 b', .int .i64 c, .int .i64 d] 23 ∧ Blk wr (w2.heap.size + 1) #[.int .i64 a, .int .i64 b', .int .i64 c, .int .i64 0] 23 ∧ Below w.heap.size w wr)
  case atStart =>
    refine ⟨0, 0, 0, 0, 0, by omega, rfl, xinv_new, by omega, (Blk.new _ _ _).alloc _, ?_, b_alloc (b_alloc h3 _) _⟩
    have := Blk.new (w2.alloc (.cells #[.int .i64 0, .int .i64 0, .int .i64 0, .int .i64 0] 23)) #[.int .i64 0, .int .i64 0, .int .i64 0, .int .i64 0] 23
    rwa [World.size_alloc] at this
  case round =>
    obtain ⟨k, a, b', c, d, hk, rfl, hI, ha, B, D, hb⟩ := hrel
    have HI := Lib.hid hI
    have HB := Lib.hid hb
    clear hI hb h1 h2 h3
    have l1 := B.lt
    have l2 := D.lt
    by_cases hlt : k < len
    · have hst := (HS.out.below HB.out) k hlt
      obtain ⟨x0, x1, t0, t1⟩ := hst
      cases hx : X k with
      | true =>
        rw [hx] at x0
        clear hx t0 t1 x1
        obtain ⟨c0, c1, c2, c3, f0, f1, f2, f3⟩ := B.four
        go_wp2_with fail
        refine (expired_ok HI.out.ok _).mono ?_
        rintro e w3 ⟨rfl, h4⟩
        have B2 := B.below h4
        have D2 := D.below h4
        clear c0 c1 c2 c3 f0 f1 f2 f3 x0
        obtain ⟨d0, d1, d2, d3, e0, e1, e2, e3⟩ := B2.four
        go_wp2_with fail
        go_roundg (gk - 1)
        case measure => omega
        case rel => exact ⟨k + 1, _, _, _, _, by omega, by go_num, HI.out.expired, by omega, B2.store4, D2.far4 (by omega), b_store4 (b_step HB.out h4) HG.out⟩
      | false =>
        rw [hx] at x0
        clear hx
        obtain ⟨p2, q2, r2, hS1, hS2, hI2, ha2⟩ := HI.out.twice t0 t1 (by omega)
        have HC := Lib.hid hS1
        have HC2 := Lib.hid hS2
        have HI2 := Lib.hid hI2
        have HA2 := Lib.hid ha2
        clear hS1 hS2 hI2 ha2
        obtain ⟨c0, c1, c2, c3, f0, f1, f2, f3⟩ := B.four
        have hwr : IntKind.i64.wrap (T k) = T k := IntWalk.i64_in _ ⟨by omega, by omega⟩
        have SD : Hid ((wr.drew.cell? ⟨w2.heap.size, 0, none⟩ = some (.int .i64 a) ∧ wr.drew.cell? ⟨w2.heap.size, 1, none⟩ = some (.int .i64 b') ∧ wr.drew.cell? ⟨w2.heap.size, 2, none⟩ = some (.int .i64 c) ∧ wr.drew.cell? ⟨w2.heap.size, 3, none⟩ = some (.int .i64 d)) ∧ wr.drew.cell? ⟨b, off + k * 2 + 1, none⟩ = some (.int .u16 (T k)) ∧ Keeps w [(w2.heap.size, #[.int .i64 a, .int .i64 b', .int .i64 c, .int .i64 d]), ((w2.heap.size + 1), #[.int .i64 a, .int .i64 b', .int .i64 c, .int .i64 0])] wr.drew) := ⟨B.drew.cells4, x1, Keeps.drew (keeps_cons B (keeps_cons D (keeps_nil HB.out)))⟩
        have HX : Hid (Below wr.drew.heap.size wr.drew (wr.alloc (.cells #[.int .i64 0, .int .i64 0, .int .i64 0, .int .i64 0] 23)).drew) := b_alloc (Below.refl _ _) _
        have BZ : Hid (Blk (wr.alloc (.cells #[.int .i64 0, .int .i64 0, .int .i64 0, .int .i64 0] 23)).drew wr.heap.size #[.int .i64 0, .int .i64 0, .int .i64 0, .int .i64 0] 23) := (Blk.new _ _ _).drew
        go_upto_region 9 with fail
        go_cut [8, 9] (fun sx sf wc => ∃ gz, sx = .pointer (some ⟨gz, 0, none⟩) ∧ sf = .int .i64 0 ∧ Blk wc gz #[.int .i64 p2, .int .i64 q2, .int .i64 r2, .int .i64 0] 23 ∧ Keeps w [(w2.heap.size, #[.int .i64 a, .int .i64 b', .int .i64 c, .int .i64 d]), ((w2.heap.size + 1), #[.int .i64 a, .int .i64 b', .int .i64 c, .int .i64 0])] wc ∧ wr.heap.size ≤ gz)
        case first =>
          go_region_held3 (fun w' => (w'.cell? ⟨w2.heap.size, 0, none⟩ = some (.int .i64 a) ∧ w'.cell? ⟨w2.heap.size, 1, none⟩ = some (.int .i64 b') ∧ w'.cell? ⟨w2.heap.size, 2, none⟩ = some (.int .i64 c) ∧ w'.cell? ⟨w2.heap.size, 3, none⟩ = some (.int .i64 d)) ∧ w'.cell? ⟨b, off + k * 2 + 1, none⟩ = some (.int .u16 (T k)) ∧ Keeps w [(w2.heap.size, #[.int .i64 a, .int .i64 b', .int .i64 c, .int .i64 d]), ((w2.heap.size + 1), #[.int .i64 a, .int .i64 b', .int .i64 c, .int .i64 0])] w')
            (first
              | with_reducible exact SD.out
              | with_reducible exact held_k_next SD.out (b_alloc (Below.refl _ _) _)
              | with_reducible exact held_k_next SD.out hb
              | with_reducible exact held_k_next SD.out (b_alloc hb _)
              | with_reducible exact held_k_next SD.out (b_step HX.out hb)
              | with_reducible exact held_k_next SD.out (b_store4 (b_step HX.out hb) (by simp)))
            (first | (go_at_call 10; refine (HC.out _).mono ?_; rintro e wz ⟨rfl, hb⟩; try (have XB : Blk wz wr.heap.size #[.int .i64 0, .int .i64 0, .int .i64 0, .int .i64 0] 23 := (by with_reducible exact BZ.out.below hb); obtain ⟨y0, y1, y2, y3, z0, z1, z2, z3⟩ := XB.four)))
          · rename_i hh
            go_wp2_with fail
            go_meet
            exact ⟨_, rfl, rfl, Blk.new _ _ _, hh.2.2, hb.size⟩
          · rename_i hh
            go_wp2_with fail
            go_meet
            exact ⟨_, rfl, rfl, XB.store4, hh.2.2, Nat.le_refl _⟩
        case rest =>
          obtain ⟨gx, rfl, rfl, BX, hK2, hgx⟩ := hcut
          have HNX : Hid (gx ≠ w2.heap.size ∧ gx ≠ w2.heap.size + 1) := ⟨by omega, by omega⟩
          clear hgx
          obtain ⟨wq, hwq⟩ : ∃ wq : World, wq = wc := ⟨_, rfl⟩
          subst hwq
          have B2 := hK2.head
          have D2 := hK2.tail.head
          have HB2 := Lib.hid hK2.1
          have x2 : wq.cell? ⟨b, off + k * 2 + 1, none⟩ = some (.int .u16 (T k)) := ((HS.out.below HB2.out) k hlt).2.1
          clear hK2 x1 hwr SD BZ HX B c0 c1 c2 c3 f0 f1 f2 f3 x0
          obtain ⟨c0, c1, c2, c3, f0, f1, f2, f3⟩ := D2.four
          have hwr : IntKind.i64.wrap (T k) = T k := IntWalk.i64_in _ ⟨by omega, by omega⟩
          have SD : Hid ((wq.drew.cell? ⟨(w2.heap.size + 1), 0, none⟩ = some (.int .i64 a) ∧ wq.drew.cell? ⟨(w2.heap.size + 1), 1, none⟩ = some (.int .i64 b') ∧ wq.drew.cell? ⟨(w2.heap.size + 1), 2, none⟩ = some (.int .i64 c) ∧ wq.drew.cell? ⟨(w2.heap.size + 1), 3, none⟩ = some (.int .i64 0)) ∧ wq.drew.cell? ⟨b, off + k * 2 + 1, none⟩ = some (.int .u16 (T k)) ∧ Keeps w [(gx, #[.int .i64 p2, .int .i64 q2, .int .i64 r2, .int .i64 0]), (w2.heap.size, #[.int .i64 a, .int .i64 b', .int .i64 c, .int .i64 d]), ((w2.heap.size + 1), #[.int .i64 a, .int .i64 b', .int .i64 c, .int .i64 0])] wq.drew) := ⟨D2.drew.cells4, x2, Keeps.drew (keeps_cons BX (keeps_cons B2 (keeps_cons D2 (keeps_nil HB2.out))))⟩
          have HX : Hid (Below wq.drew.heap.size wq.drew (wq.alloc (.cells #[.int .i64 0, .int .i64 0, .int .i64 0, .int .i64 0] 23)).drew) := b_alloc (Below.refl _ _) _
          have BZ : Hid (Blk (wq.alloc (.cells #[.int .i64 0, .int .i64 0, .int .i64 0, .int .i64 0] 23)).drew wq.heap.size #[.int .i64 0, .int .i64 0, .int .i64 0, .int .i64 0] 23) := (Blk.new _ _ _).drew
          go_upto_region 10 with fail
          go_cut [10, 11] (fun sx sf wc => ∃ gz, sx = .pointer (some ⟨gz, 0, none⟩) ∧ sf = .int .i64 0 ∧ Blk wc gz #[.int .i64 p2, .int .i64 q2, .int .i64 r2, .int .i64 0] 23 ∧ Keeps w [(gx, #[.int .i64 p2, .int .i64 q2, .int .i64 r2, .int .i64 0]), (w2.heap.size, #[.int .i64 a, .int .i64 b', .int .i64 c, .int .i64 d]), ((w2.heap.size + 1), #[.int .i64 a, .int .i64 b', .int .i64 c, .int .i64 0])] wc ∧ wq.heap.size ≤ gz)
          case first =>
            go_region_held3 (fun w' => (w'.cell? ⟨(w2.heap.size + 1), 0, none⟩ = some (.int .i64 a) ∧ w'.cell? ⟨(w2.heap.size + 1), 1, none⟩ = some (.int .i64 b') ∧ w'.cell? ⟨(w2.heap.size + 1), 2, none⟩ = some (.int .i64 c) ∧ w'.cell? ⟨(w2.heap.size + 1), 3, none⟩ = some (.int .i64 0)) ∧ w'.cell? ⟨b, off + k * 2 + 1, none⟩ = some (.int .u16 (T k)) ∧ Keeps w [(gx, #[.int .i64 p2, .int .i64 q2, .int .i64 r2, .int .i64 0]), (w2.heap.size, #[.int .i64 a, .int .i64 b', .int .i64 c, .int .i64 d]), ((w2.heap.size + 1), #[.int .i64 a, .int .i64 b', .int .i64 c, .int .i64 0])] w')
              (first
                | with_reducible exact SD.out
                | with_reducible exact held_k_next SD.out (b_alloc (Below.refl _ _) _)
                | with_reducible exact held_k_next SD.out hb
                | with_reducible exact held_k_next SD.out (b_alloc hb _)
                | with_reducible exact held_k_next SD.out (b_step HX.out hb)
                | with_reducible exact held_k_next SD.out (b_store4 (b_step HX.out hb) (by simp)))
              (first | (go_at_call 10; refine (HC2.out _).mono ?_; rintro e wz ⟨rfl, hb⟩; try (have XB : Blk wz wq.heap.size #[.int .i64 0, .int .i64 0, .int .i64 0, .int .i64 0] 23 := (by with_reducible exact BZ.out.below hb); obtain ⟨y0, y1, y2, y3, z0, z1, z2, z3⟩ := XB.four)))
            · rename_i hh
              go_wp2_with fail
              go_meet
              exact ⟨_, rfl, rfl, Blk.new _ _ _, hh.2.2, hb.size⟩
            · rename_i hh
              go_wp2_with fail
              go_meet
              exact ⟨_, rfl, rfl, XB.store4, hh.2.2, Nat.le_refl _⟩
          case rest =>
            obtain ⟨gy, rfl, rfl, BY, hK3, hgy⟩ := hcut
            have BX3 := hK3.head
            have B3 := hK3.tail.head
            have D3 := hK3.tail.tail.head
            have HB3 := Lib.hid hK3.1
            have n1 : gx ≠ w2.heap.size := HNX.out.1
            have n2 : gx ≠ w2.heap.size + 1 := HNX.out.2
            have n3 : gy ≠ w2.heap.size := by have := B2.lt; omega
            have n4 : gy ≠ w2.heap.size + 1 := by have := D2.lt; omega
            clear hgy
            clear hK3 x2 hwr SD BZ HX c0 c1 c2 c3 f0 f1 f2 f3 B2 D2 BX
            obtain ⟨c0, c1, c2, c3, f0, f1, f2, f3⟩ := B3.four
            obtain ⟨d0, d1, d2, d3, e0, e1, e2, e3⟩ := D3.four
            go_upto_region 13 with fail
            go_region_held3 (fun w' => (w'.cell? ⟨gx, 0, none⟩ = some (.int .i64 p2) ∧ w'.cell? ⟨gx, 1, none⟩ = some (.int .i64 q2) ∧ w'.cell? ⟨gx, 2, none⟩ = some (.int .i64 r2) ∧ w'.cell? ⟨gx, 3, none⟩ = some (.int .i64 0)) ∧ (w'.cell? ⟨gy, 0, none⟩ = some (.int .i64 p2) ∧ w'.cell? ⟨gy, 1, none⟩ = some (.int .i64 q2) ∧ w'.cell? ⟨gy, 2, none⟩ = some (.int .i64 r2) ∧ w'.cell? ⟨gy, 3, none⟩ = some (.int .i64 0)))
              (first
                | with_reducible exact ⟨BX3.drew.cells4, BY.drew.cells4⟩
                | with_reducible exact ⟨(BX3.far4 n1).drew.cells4, (BY.far4 n3).drew.cells4⟩
                | with_reducible exact ⟨((BX3.far4 n1).far4 n2).drew.cells4, ((BY.far4 n3).far4 n4).drew.cells4⟩)
              (fail)
            go_wp2_with fail
            go_roundg (gk - 1)
            case measure => omega
            case rel => exact ⟨k + 1, _, _, _, 0, by omega, by go_num, HI2.out, by have := HA2.out; omega, (B3.store4.far4 (by omega)).drew, ((D3.far4 (by omega)).store4).drew, b_drew (b_store4 (b_store4 HB3.out HG.out) HG'.out)⟩
    · obtain ⟨p2, q2, r2, hS1, hS2, hI2, ha2⟩ := HI.out.twice hu.1 hu.2 (by omega)
      have HC := Lib.hid hS1
      have HC2 := Lib.hid hS2
      have HOK := Lib.hid hI2.ok
      clear hS1 hS2 hI2 ha2
      obtain ⟨u0, u1⟩ := hu
      obtain ⟨c0, c1, c2, c3, f0, f1, f2, f3⟩ := B.four
      go_wp2_with fail
      refine (HC.out _).mono ?_
      rintro e w3 ⟨rfl, h3⟩
      clear c0 c1 c2 c3 f0 f1 f2 f3
      have D2 := D.below h3
      have l3 := D2.lt
      obtain ⟨c0, c1, c2, c3, f0, f1, f2, f3⟩ := D2.four
      go_wp2_with fail
      refine (HC2.out _).mono ?_
      rintro e w4 ⟨rfl, h4⟩
      clear c0 c1 c2 c3 f0 f1 f2 f3
      have X4 := (Blk.new w3 _ _).below h4
      have l4 := X4.lt
      go_wp2_with fail
      have A4 := (X4.alloc (.cells #[.int .i64 p2, .int .i64 q2, .int .i64 r2, .int .i64 0] 23)).drew.cells4
      have A5 := (Blk.new w4 #[.int .i64 p2, .int .i64 q2, .int .i64 r2, .int .i64 0] 23).drew.cells4
      have K4 := Lib.hid (b_drew (b_alloc (b_step (b_alloc (b_step HB.out h3) _) h4) (.cells #[.int .i64 p2, .int .i64 q2, .int .i64 r2, .int .i64 0] 23)))
      clear X4 D2 B D h3 h4
      go_region_held3 (fun w' => (w'.cell? ⟨w3.heap.size, 0, none⟩ = some (.int .i64 p2) ∧ w'.cell? ⟨w3.heap.size, 1, none⟩ = some (.int .i64 q2) ∧ w'.cell? ⟨w3.heap.size, 2, none⟩ = some (.int .i64 r2) ∧ w'.cell? ⟨w3.heap.size, 3, none⟩ = some (.int .i64 0)) ∧ (w'.cell? ⟨w4.heap.size, 0, none⟩ = some (.int .i64 p2) ∧ w'.cell? ⟨w4.heap.size, 1, none⟩ = some (.int .i64 q2) ∧ w'.cell? ⟨w4.heap.size, 2, none⟩ = some (.int .i64 r2) ∧ w'.cell? ⟨w4.heap.size, 3, none⟩ = some (.int .i64 0)) ∧ Below w.heap.size w w')
        (first | with_reducible exact ⟨A4, A5, K4.out⟩ | with_reducible exact held2_next (by assumption) hb)
        (first
          | (go_at_call 12; refine (awake_any _).mono ?_; rintro e w5 ⟨rfl, hb⟩)
          | (go_at_call 17; refine (timeout_ok HOK.out _).mono ?_; rintro e w5 ⟨rfl, hb⟩))
      rename_i hh
      go_wp2_with fail
      go_ret
      exact ⟨rfl, hh.2.2⟩
set_option maxHeartbeats 4000000 in
theorem forgets_empty (A : Option Addr) (cap : Nat) (u : Int) (w : World) (hu : 0 ≤ u ∧ u ≤ 65535) :
    Calls Try.prog 8 #[.slice A 0 cap, .int .u16 u] w fun e w' => e = .returned (.bool true) ∧ Below w.heap.size w w' := by
  go_enter Try.func8, Try.ntmps8
  go_wp2_with fail
  refine (new_any _).mono ?_
  rintro e w1 ⟨rfl, h1⟩
  go_wp2_with fail
  refine (new_any _).mono ?_
  rintro e w2 ⟨rfl, h2⟩
  have h3 := b_step h1 h2
  go_wp2_with fail
  go_loopg [7] 0 (fun n i wr => ∃ (k : Nat) (a b' c d : Int), k ≤ 0 ∧ i = .int .i64 k ∧ XInv a b' c d ∧ a ≤ k ∧
    Blk wr w2.heap.size #[.int .i64 a, .int .i64 b', .int .i64 c, .int .i64 d] 23 ∧ Blk wr (w2.heap.size + 1) #[.int .i64 a, .int .i64 b', .int .i64 c, .int .i64 0] 23 ∧ Below w.heap.size w wr)
  case atStart =>
    refine ⟨0, 0, 0, 0, 0, by omega, rfl, xinv_new, by omega, (Blk.new _ _ _).alloc _, ?_, b_alloc (b_alloc h3 _) _⟩
    have := Blk.new (w2.alloc (.cells #[.int .i64 0, .int .i64 0, .int .i64 0, .int .i64 0] 23)) #[.int .i64 0, .int .i64 0, .int .i64 0, .int .i64 0] 23
    rwa [World.size_alloc] at this
  case round =>
    obtain ⟨k, a, b', c, d, hk, rfl, hI, ha, B, D, hb⟩ := hrel
    have HI := Lib.hid hI
    have HB := Lib.hid hb
    clear hI hb h1 h2 h3
    have l1 := B.lt
    have l2 := D.lt
    obtain ⟨p2, q2, r2, hS1, hS2, hI2, ha2⟩ := HI.out.twice hu.1 hu.2 (by omega)
    have HC := Lib.hid hS1
    have HC2 := Lib.hid hS2
    have HOK := Lib.hid hI2.ok
    clear hS1 hS2 hI2 ha2
    obtain ⟨u0, u1⟩ := hu
    obtain ⟨c0, c1, c2, c3, f0, f1, f2, f3⟩ := B.four
    go_wp2_with fail
    refine (HC.out _).mono ?_
    rintro e w3 ⟨rfl, h3⟩
    clear c0 c1 c2 c3 f0 f1 f2 f3
    have D2 := D.below h3
    have l3 := D2.lt
    obtain ⟨c0, c1, c2, c3, f0, f1, f2, f3⟩ := D2.four
    go_wp2_with fail
    refine (HC2.out _).mono ?_
    rintro e w4 ⟨rfl, h4⟩
    clear c0 c1 c2 c3 f0 f1 f2 f3
    have X4 := (Blk.new w3 _ _).below h4
    have l4 := X4.lt
    go_wp2_with fail
    have A4 := (X4.alloc (.cells #[.int .i64 p2, .int .i64 q2, .int .i64 r2, .int .i64 0] 23)).drew.cells4
    have A5 := (Blk.new w4 #[.int .i64 p2, .int .i64 q2, .int .i64 r2, .int .i64 0] 23).drew.cells4
    have K4 := Lib.hid (b_drew (b_alloc (b_step (b_alloc (b_step HB.out h3) _) h4) (.cells #[.int .i64 p2, .int .i64 q2, .int .i64 r2, .int .i64 0] 23)))
    clear X4 D2 B D h3 h4
    go_region_held3 (fun w' => (w'.cell? ⟨w3.heap.size, 0, none⟩ = some (.int .i64 p2) ∧ w'.cell? ⟨w3.heap.size, 1, none⟩ = some (.int .i64 q2) ∧ w'.cell? ⟨w3.heap.size, 2, none⟩ = some (.int .i64 r2) ∧ w'.cell? ⟨w3.heap.size, 3, none⟩ = some (.int .i64 0)) ∧ (w'.cell? ⟨w4.heap.size, 0, none⟩ = some (.int .i64 p2) ∧ w'.cell? ⟨w4.heap.size, 1, none⟩ = some (.int .i64 q2) ∧ w'.cell? ⟨w4.heap.size, 2, none⟩ = some (.int .i64 r2) ∧ w'.cell? ⟨w4.heap.size, 3, none⟩ = some (.int .i64 0)) ∧ Below w.heap.size w w')
      (first | with_reducible exact ⟨A4, A5, K4.out⟩ | with_reducible exact held2_next (by assumption) hb)
      (first
        | (go_at_call 12; refine (awake_any _).mono ?_; rintro e w5 ⟨rfl, hb⟩)
        | (go_at_call 17; refine (timeout_ok HOK.out _).mono ?_; rintro e w5 ⟨rfl, hb⟩))
    rename_i hh
    go_wp2_with fail
    go_ret
    exact ⟨rfl, hh.2.2⟩
theorem forgets_many (A : Option Addr) (len cap : Nat) (u : Int) (h : 100 < len) (w : World) :
    Calls Try.prog 8 #[.slice A len cap, .int .u16 u] w fun e w' => e = .returned (.bool true) ∧ Below w.heap.size w w' := by
  go_enter Try.func8, Try.ntmps8
  go_wp2_with (go_at_call 12; refine (awake_any _).mono ?_; rintro e w1 ⟨rfl, h1⟩)
  go_ret
  exact ⟨rfl, h1⟩
theorem forgets_any {v : Value} {u : Int} (w : World) (h : (∃ A cap, v = .slice A 0 cap) ∨ ∃ (b off len cap : Nat) (X : Nat → Bool) (T : Nat → Int), v = .slice (some ⟨b, off, none⟩) len cap ∧ StepAt w b off len X T) (hu : 0 ≤ u ∧ u ≤ 65535) :
    Calls Try.prog 8 #[v, .int .u16 u] w fun e w' => e = .returned (.bool true) ∧ Below w.heap.size w w' := by
  rcases h with ⟨A, cap, rfl⟩ | ⟨b, off, len, cap, X, T, rfl, hs⟩
  · exact forgets_empty A cap u w hu
  · by_cases hl : len ≤ 100
    · exact forgets_some b off len cap X T u w hs hl hu
    · exact forgets_many _ len cap u (by omega) w
end Go.Proofs.Ytifmkikllbapiaa
