/- EstimatorSamples returns true for all estimators and times, and changes nothing that existed before the call. -/
import Derived.Test.YtifmkikllbapiaaTimes
namespace Go.Proofs.Ytifmkikllbapiaa
open Go.RowKit
theorem held3_next {w W W' : World} {g g' g'' : Nat} {v0 v1 v2 v3 x0 x1 x2 x3 y0 y1 y2 y3 : Value}
    (h : (W.cell? ⟨g, 0, none⟩ = some v0 ∧ W.cell? ⟨g, 1, none⟩ = some v1 ∧ W.cell? ⟨g, 2, none⟩ = some v2 ∧ W.cell? ⟨g, 3, none⟩ = some v3) ∧ (W.cell? ⟨g', 0, none⟩ = some x0 ∧ W.cell? ⟨g', 1, none⟩ = some x1 ∧ W.cell? ⟨g', 2, none⟩ = some x2 ∧ W.cell? ⟨g', 3, none⟩ = some x3) ∧ (W.cell? ⟨g'', 0, none⟩ = some y0 ∧ W.cell? ⟨g'', 1, none⟩ = some y1 ∧ W.cell? ⟨g'', 2, none⟩ = some y2 ∧ W.cell? ⟨g'', 3, none⟩ = some y3) ∧ Below w.heap.size w W) (hb : Below W.heap.size W W') :
    (W'.cell? ⟨g, 0, none⟩ = some v0 ∧ W'.cell? ⟨g, 1, none⟩ = some v1 ∧ W'.cell? ⟨g, 2, none⟩ = some v2 ∧ W'.cell? ⟨g, 3, none⟩ = some v3) ∧ (W'.cell? ⟨g', 0, none⟩ = some x0 ∧ W'.cell? ⟨g', 1, none⟩ = some x1 ∧ W'.cell? ⟨g', 2, none⟩ = some x2 ∧ W'.cell? ⟨g', 3, none⟩ = some x3) ∧ (W'.cell? ⟨g'', 0, none⟩ = some y0 ∧ W'.cell? ⟨g'', 1, none⟩ = some y1 ∧ W'.cell? ⟨g'', 2, none⟩ = some y2 ∧ W'.cell? ⟨g'', 3, none⟩ = some y3) ∧ Below w.heap.size w W' :=
  ⟨cells4_below h.1 hb, cells4_below h.2.1 hb, cells4_below h.2.2.1 hb, b_step h.2.2.2 hb⟩
set_option maxHeartbeats 4000000 in
theorem samples_walk (a b c d t p q r s f z : Int) (w : World)
    (hS : ∀ w, Calls Try.prog 10 #[E4 a b c d, .int .i64 t] w fun e w' => e = .returned (.tuple #[E4 p q r s, .int .i64 f]) ∧ Below w.heap.size w w')
    (hR : ∀ w, Calls Try.prog 11 #[E4 a b c d, .int .i64 t] w fun e w' => e = .returned (.tuple #[E4 p q r s, .int .i64 f]) ∧ Below w.heap.size w w')
    (hC : ∀ w, Calls Try.prog 13 #[E4 a b c d] w fun e w' => e = .returned (.int .i64 z) ∧ Below w.heap.size w w')
    (hD : ∀ w, Calls Try.prog 14 #[E4 a b c d] w fun e w' => e = .returned (.int .i64 z) ∧ Below w.heap.size w w') :
    Calls Try.prog 3 #[E4 a b c d, .int .i64 t] w fun e w' => e = .returned (.bool true) ∧ Below w.heap.size w w' := by
  have HS := Lib.hid hS
  have HR := Lib.hid hR
  have HC := Lib.hid hC
  have HD := Lib.hid hD
  clear hS hR hC hD
  go_enter Try.func3, Try.ntmps3
  unfold E4
  go_wp2_with fail
  refine (HS.out _).mono ?_
  rintro e w1 ⟨rfl, h1⟩
  have A1 := (Blk.new w _ _).below h1
  have l1 := A1.lt
  obtain ⟨c0, c1, c2, c3, f0, f1, f2, f3⟩ := A1.four
  go_wp2_with fail
  refine (HR.out _).mono ?_
  rintro e w2 ⟨rfl, h2⟩
  clear c0 c1 c2 c3 f0 f1 f2 f3
  have A2 := (A1.alloc _).below h2
  have B2 := (Blk.new w1 _ _).below h2
  have l2 := A2.lt
  have l3 := B2.lt
  have k2 := b_step (b_alloc (b_step (b_alloc (Below.refl _ _) _) h1) _) h2
  go_wp2_with fail
  have A3 := (A2.alloc (.cells #[.int .i64 p, .int .i64 q, .int .i64 r, .int .i64 s] 23)).drew.cells4
  have B3 := (B2.alloc (.cells #[.int .i64 p, .int .i64 q, .int .i64 r, .int .i64 s] 23)).drew.cells4
  have C3 := (Blk.new w2 #[.int .i64 p, .int .i64 q, .int .i64 r, .int .i64 s] 23).drew.cells4
  have K3 := Lib.hid (b_drew (b_alloc k2 (.cells #[.int .i64 p, .int .i64 q, .int .i64 r, .int .i64 s] 23)))
  clear k2 h1 h2 A1 A2 B2
  go_region_held3 (fun w' => (w'.cell? ⟨w.heap.size, 0, none⟩ = some (.int .i64 a) ∧ w'.cell? ⟨w.heap.size, 1, none⟩ = some (.int .i64 b) ∧ w'.cell? ⟨w.heap.size, 2, none⟩ = some (.int .i64 c) ∧ w'.cell? ⟨w.heap.size, 3, none⟩ = some (.int .i64 d)) ∧ (w'.cell? ⟨w1.heap.size, 0, none⟩ = some (.int .i64 p) ∧ w'.cell? ⟨w1.heap.size, 1, none⟩ = some (.int .i64 q) ∧ w'.cell? ⟨w1.heap.size, 2, none⟩ = some (.int .i64 r) ∧ w'.cell? ⟨w1.heap.size, 3, none⟩ = some (.int .i64 s)) ∧ (w'.cell? ⟨w2.heap.size, 0, none⟩ = some (.int .i64 p) ∧ w'.cell? ⟨w2.heap.size, 1, none⟩ = some (.int .i64 q) ∧ w'.cell? ⟨w2.heap.size, 2, none⟩ = some (.int .i64 r) ∧ w'.cell? ⟨w2.heap.size, 3, none⟩ = some (.int .i64 s)) ∧ Below w.heap.size w w')
    (first | exact ⟨A3, B3, C3, K3.out⟩ | exact held3_next (by assumption) hb)
    (first
      | (go_at_call 12; refine (awake_any _).mono ?_; rintro e w4 ⟨rfl, hb⟩)
      | (go_at_call 13; refine (HC.out _).mono ?_; rintro e w4 ⟨rfl, hb⟩)
      | (go_at_call 14; refine (HD.out _).mono ?_; rintro e w4 ⟨rfl, hb⟩)
      | (go_at_call 15; refine (new_any _).mono ?_; rintro e w4 ⟨rfl, hb⟩)
      | (go_at_call 16; refine (rnew_any _).mono ?_; rintro e w4 ⟨rfl, hb⟩))
  rename_i hh
  go_wp2_with fail
  go_ret
  exact ⟨rfl, hh.2.2.2⟩
theorem samples_any (a b c d t : Int) (w : World) :
    Calls Try.prog 3 #[E4 a b c d, .int .i64 t] w fun e w' => e = .returned (.bool true) ∧ Below w.heap.size w w' := by
  by_cases h : Ok a b c d
  · by_cases ht : 0 ≤ t ∧ t ≤ 1073741824
    · by_cases ha : a = 0
      · subst ha
        exact samples_walk 0 b c d t _ _ _ _ _ _ w (sample_first h ht.1 ht.2) (rsample_first h ht.1 ht.2) (chk_ok h) (rchk_ok h)
      · refine samples_walk a b c d t _ _ _ _ _ _ w (sample_next h ha ht.1 ht.2 rfl rfl) ?_ (chk_ok h) (rchk_ok h)
        rw [show c + (ab (t - b / 8) - c / 4) = c - c / 4 + ab (t - b / 8) from by omega]
        exact rsample_next h ha ht.1 ht.2 rfl rfl
    · exact samples_walk a b c d t _ _ _ _ _ _ w (sample_late h ht) (rsample_late h ht) (chk_ok h) (rchk_ok h)
  · exact samples_walk a b c d t _ _ _ _ _ _ w (sample_no h t) (rsample_no h t) (chk_no h) (rchk_no h)
end Go.Proofs.Ytifmkikllbapiaa
