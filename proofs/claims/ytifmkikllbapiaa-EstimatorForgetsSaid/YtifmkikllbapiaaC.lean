/- The law-s own check of the chapter-s examples returns true. -/
import Derived.Test.YtifmkikllbapiaaB
namespace Go.Proofs.Ytifmkikllbapiaa
open Go.RowKit
set_option maxHeartbeats 2000000 in
theorem awake_any (w : World) : Calls Try.prog 12 #[] w fun e w' => e = .returned (.bool true) ∧ Below w.heap.size w w' := by
  go_enter Try.func12, Try.ntmps12
  go_wp2_with fail
  refine (new_any _).mono ?_
  rintro e w1 ⟨rfl, h1⟩
  go_wp2_with fail
  refine (sample_first (by decide) (by omega) (by omega) _).mono ?_
  rintro e w2 ⟨rfl, h2⟩
  go_wp2_with fail
  refine (sample_next (m := 8) (n := 2) (by decide) (by omega) (by omega) (by omega) (by decide) (by decide) _).mono ?_
  rintro e w3 ⟨rfl, h3⟩
  go_wp2_with fail
  refine (expired_ok (a := 2) (b := 88) (c := 23) (d := 0) (by decide) _).mono ?_
  have q4 : min (0 + 1 : Int) 12 = 1 := by decide
  rw [q4]
  rintro e w4 ⟨rfl, h4⟩
  clear q4
  have C4 := (Blk.new w3 _ _).below h4
  go_wp2_with fail
  refine (sample_next (a := 2) (b := 88) (c := 23) (d := 1) (m := 0) (n := 3) (by decide) (by omega) (by omega) (by omega) (by decide) (by decide) _).mono ?_
  rintro e w5 ⟨rfl, h5⟩
  have C5 := (C4.alloc _).below h5
  have D5 := (Blk.new w4 _ _).below h5
  have l5 := C5.lt
  have l5' := D5.lt
  obtain ⟨c0, c1, c2, c3, _, _, _, _⟩ := C5.four
  go_wp2_with fail
  refine (mean_ok (a := 2) (b := 88) (c := 23) (d := 0) (by decide) _).mono ?_
  rintro e w6 ⟨rfl, h6⟩
  clear c0 c1 c2 c3
  have C6 := (C5.alloc _).below h6
  have D6 := (D5.alloc _).below h6
  have E6 := (Blk.new w5 _ _).below h6
  obtain ⟨c0, c1, c2, c3, _, _, _, _⟩ := C6.four
  go_wp2_with fail
  refine (timeout_ok (a := 2) (b := 88) (c := 23) (d := 0) (by decide) _).mono ?_
  rintro e w7 ⟨rfl, h7⟩
  clear c0 c1 c2 c3
  have t7 : tmo 2 88 23 0 = 34 := by decide
  rw [t7]
  clear t7
  have D7 := D6.below h7
  have E7 := E6.below h7
  obtain ⟨c0, c1, c2, c3, _, _, _, _⟩ := D7.four
  go_wp2_with fail
  refine (timeout_ok (a := 2) (b := 88) (c := 23) (d := 1) (by decide) _).mono ?_
  rintro e w8 ⟨rfl, h8⟩
  clear c0 c1 c2 c3
  have t8 : tmo 2 88 23 1 = 68 := by decide
  rw [t8]
  clear t8
  have E8 := E7.below h8
  obtain ⟨c0, c1, c2, c3, _, _, _, _⟩ := E8.four
  go_wp2_with fail
  refine (timeout_ok (a := 3) (b := 88) (c := 18) (d := 0) (by decide) _).mono ?_
  rintro e w9 ⟨rfl, h9⟩
  have t9 : tmo 3 88 18 0 = 29 := by decide
  rw [t9]
  clear t9
  go_wp2_with fail
  refine (new_any _).mono ?_
  rintro e w10 ⟨rfl, h10⟩
  go_wp2_with fail
  refine (timeout_ok (a := 0) (b := 0) (c := 0) (d := 0) (by decide) _).mono ?_
  rintro e w11 ⟨rfl, h11⟩
  have t11 : tmo 0 0 0 0 = 64 := by decide
  rw [t11]
  clear t11
  go_wp2_with fail
  go_ret
  refine ⟨rfl, ?_⟩
  exact b_step (b_step (b_step (b_step (b_step (b_step (b_alloc (b_step (b_alloc (b_step (b_alloc (b_step (b_alloc (b_step h1 h2) _) h3) _) h4) _) h5) _) h6) h7) h8) h9) h10) h11
end Go.Proofs.Ytifmkikllbapiaa
