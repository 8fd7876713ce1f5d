/- EstimatorTimes returns true for all estimators, and changes nothing that existed before the call. -/
import Derived.Test.YtifmkikllbapiaaC
import Derived.Test.YtifmkikllbapiaaR
import Derived.Deep.RegionHeld3
namespace Go.Proofs.Ytifmkikllbapiaa
open Go.RowKit
theorem cell_below {w w1 : World} {a : Addr} {v : Value} (h : w.cell? a = some v) (hb : Below w.heap.size w w1) : w1.cell? a = some v :=
  (hb.cell (World.block_lt_of_cell? w a h)).trans h
theorem Blk.cells4 {w : World} {g t : Nat} {v0 v1 v2 v3 : Value} (h : Blk w g #[v0, v1, v2, v3] t) : w.cell? ⟨g, 0, none⟩ = some v0 ∧ w.cell? ⟨g, 1, none⟩ = some v1 ∧ w.cell? ⟨g, 2, none⟩ = some v2 ∧ w.cell? ⟨g, 3, none⟩ = some v3 :=
  ⟨h.cell 0, h.cell 1, h.cell 2, h.cell 3⟩
theorem cells4_below {w w1 : World} {g : Nat} {v0 v1 v2 v3 : Value} (h : w.cell? ⟨g, 0, none⟩ = some v0 ∧ w.cell? ⟨g, 1, none⟩ = some v1 ∧ w.cell? ⟨g, 2, none⟩ = some v2 ∧ w.cell? ⟨g, 3, none⟩ = some v3) (hb : Below w.heap.size w w1) :
    w1.cell? ⟨g, 0, none⟩ = some v0 ∧ w1.cell? ⟨g, 1, none⟩ = some v1 ∧ w1.cell? ⟨g, 2, none⟩ = some v2 ∧ w1.cell? ⟨g, 3, none⟩ = some v3 :=
  ⟨cell_below h.1 hb, cell_below h.2.1 hb, cell_below h.2.2.1 hb, cell_below h.2.2.2 hb⟩
theorem held_next {w W W' : World} {g : Nat} {v0 v1 v2 v3 : Value} (h : (W.cell? ⟨g, 0, none⟩ = some v0 ∧ W.cell? ⟨g, 1, none⟩ = some v1 ∧ W.cell? ⟨g, 2, none⟩ = some v2 ∧ W.cell? ⟨g, 3, none⟩ = some v3) ∧ Below w.heap.size w W) (hb : Below W.heap.size W W') :
    (W'.cell? ⟨g, 0, none⟩ = some v0 ∧ W'.cell? ⟨g, 1, none⟩ = some v1 ∧ W'.cell? ⟨g, 2, none⟩ = some v2 ∧ W'.cell? ⟨g, 3, none⟩ = some v3) ∧ Below w.heap.size w W' :=
  ⟨cells4_below h.1 hb, b_step h.2 hb⟩
set_option maxHeartbeats 2000000 in
theorem times_ok {a b c d : Int} (h : Ok a b c d) (w : World) :
    Calls Try.prog 4 #[E4 a b c d] w fun e w' => e = .returned (.bool true) ∧ Below w.heap.size w w' := by
  have H := Lib.hid h
  clear h
  go_enter Try.func4, Try.ntmps4
  unfold E4
  go_wp2_with fail
  go_region_held3 (fun w' => (w'.cell? ⟨w.heap.size, 0, none⟩ = some (.int .i64 a) ∧ w'.cell? ⟨w.heap.size, 1, none⟩ = some (.int .i64 b) ∧ w'.cell? ⟨w.heap.size, 2, none⟩ = some (.int .i64 c) ∧ w'.cell? ⟨w.heap.size, 3, none⟩ = some (.int .i64 d)) ∧ Below w.heap.size w w')
    (first | exact ⟨(Blk.new w _ _).drew.cells4, b_drew (b_alloc (Below.refl _ _) _)⟩ | exact held_next (by assumption) hb)
    (first
      | (go_at_call 12; refine (awake_any _).mono ?_; rintro e w2 ⟨rfl, hb⟩)
      | (go_at_call 17; refine (timeout_ok H.out _).mono ?_; rintro e w2 ⟨rfl, hb⟩)
      | (go_at_call 18; refine (rtimeout_ok H.out _).mono ?_; rintro e w2 ⟨rfl, hb⟩)
      | (go_at_call 19; refine (mean_ok H.out _).mono ?_; rintro e w2 ⟨rfl, hb⟩)
      | (go_at_call 20; refine (rmean_ok H.out _).mono ?_; rintro e w2 ⟨rfl, hb⟩)
      | (go_at_call 21; refine (expired_ok H.out _).mono ?_; rintro e w2 ⟨rfl, hb⟩)
      | (go_at_call 22; refine (rexpired_ok H.out _).mono ?_; rintro e w2 ⟨rfl, hb⟩))
  rename_i hh
  go_wp2_with fail
  go_ret
  exact ⟨rfl, hh.2⟩
set_option maxHeartbeats 2000000 in
theorem times_no {a b c d : Int} (h : ¬ Ok a b c d) (w : World) :
    Calls Try.prog 4 #[E4 a b c d] w fun e w' => e = .returned (.bool true) ∧ Below w.heap.size w w' := by
  have H := Lib.hid h
  clear h
  go_enter Try.func4, Try.ntmps4
  unfold E4
  go_wp2_with fail
  go_region_held3 (fun w' => (w'.cell? ⟨w.heap.size, 0, none⟩ = some (.int .i64 a) ∧ w'.cell? ⟨w.heap.size, 1, none⟩ = some (.int .i64 b) ∧ w'.cell? ⟨w.heap.size, 2, none⟩ = some (.int .i64 c) ∧ w'.cell? ⟨w.heap.size, 3, none⟩ = some (.int .i64 d)) ∧ Below w.heap.size w w')
    (first | exact ⟨(Blk.new w _ _).drew.cells4, b_drew (b_alloc (Below.refl _ _) _)⟩ | exact held_next (by assumption) hb)
    (first
      | (go_at_call 12; refine (awake_any _).mono ?_; rintro e w2 ⟨rfl, hb⟩)
      | (go_at_call 17; refine (timeout_no H.out _).mono ?_; rintro e w2 ⟨rfl, hb⟩)
      | (go_at_call 18; refine (rtimeout_no H.out _).mono ?_; rintro e w2 ⟨rfl, hb⟩)
      | (go_at_call 19; refine (mean_no H.out _).mono ?_; rintro e w2 ⟨rfl, hb⟩)
      | (go_at_call 20; refine (rmean_no H.out _).mono ?_; rintro e w2 ⟨rfl, hb⟩)
      | (go_at_call 21; refine (expired_no H.out _).mono ?_; rintro e w2 ⟨rfl, hb⟩)
      | (go_at_call 22; refine (rexpired_no H.out _).mono ?_; rintro e w2 ⟨rfl, hb⟩))
  rename_i hh
  go_wp2_with fail
  go_ret
  exact ⟨rfl, hh.2⟩
theorem times_any (a b c d : Int) (w : World) :
    Calls Try.prog 4 #[E4 a b c d] w fun e w' => e = .returned (.bool true) ∧ Below w.heap.size w w' := by
  by_cases h : Ok a b c d
  · exact times_ok h w
  · exact times_no h w
end Go.Proofs.Ytifmkikllbapiaa
