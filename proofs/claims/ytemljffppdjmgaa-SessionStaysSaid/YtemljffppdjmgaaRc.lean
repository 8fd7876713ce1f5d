/- Contracts of Receive, where nothing is handled. -/
import Derived.Test.YtemljffppdjmgaaRb
namespace Go.Proofs.Ytemljffppdjmgaa
open Go.RowKit
set_option maxHeartbeats 2000000 in
theorem recv_same_chk {l r e n p d mk mf mt mn me x now : Int} {va ba : Option Addr} {vl vc bl bc : Nat} (hk : ¬ Ok ⟨l, r, e, n, p, d⟩) (w : World) :
    Calls Try.prog 17 #[S6 ⟨l, r, e, n, p, d⟩, .int .i64 now, MV ⟨mk, mf, mt, mn, me⟩ x (.slice va vl vc) (.slice ba bl bc)] w (Gave ⟨l, r, e, n, p, d⟩ [] w) := by
  obtain ⟨c, hc, _, hz⟩ := chk_no hk
  have HC := Lib.hid (fun w => chk_c hz w)
  clear hk hz
  go_enter Try.func17, Try.ntmps17
  go_wp2_with fail
  refine (HC.out _).mono ?_
  rintro e0 w1 ⟨rfl, h1⟩
  have A1 := (((Blk.new w _ _).alloc _).alloc _).below h1
  have M1 := ((Blk.new (w.alloc _) _ _).alloc _).below h1
  have D1 := (Blk.new ((w.alloc _).alloc _) _ _).below h1
  simp only [World.size_alloc] at M1 D1
  have l1 := A1.lt
  have l2 := M1.lt
  have l3 := D1.lt
  have HK1 := Lib.hid (b_step (b_alloc (b_alloc (b_alloc (Below.refl _ _) _) _) _) h1)
  obtain ⟨c0, c1, c2, c3, c4, c5, f0, f1, f2, f3, f4, f5⟩ := A1.six
  obtain ⟨d0, d1, d2, d3, d4, d5, d6, d7⟩ := M1.eight
  have hmf' := hmf
  obtain ⟨z0, z1, z2, z3, z4, z5, y0, y1, y2, y3, y4, y5⟩ := D1.six
  go_wp2_with (fail)
  exact bodyPost_ret (results_ct rfl _ _ (w.heap.size + 1 + 1) 28 (c6 ⟨l, r, e, n, p, d⟩) _ rfl D1.store6 Try.underlying28 rfl (by kernel_rfl)) rfl ⟨_, rfl, row_nil _ _, b_store6 HK1.out (by omega)⟩
set_option maxHeartbeats 2000000 in
theorem recv_same_from {l r e n p d mk mf mt mn me x now : Int} {va ba : Option Addr} {vl vc bl bc : Nat} (hk : Ok ⟨l, r, e, n, p, d⟩) (hf : (mf != r) = true) (w : World) :
    Calls Try.prog 17 #[S6 ⟨l, r, e, n, p, d⟩, .int .i64 now, MV ⟨mk, mf, mt, mn, me⟩ x (.slice va vl vc) (.slice ba bl bc)] w (Gave ⟨l, r, e, n, p, d⟩ [] w) := by
  have HC := Lib.hid (chk_ok hk)
  clear hk
  go_enter Try.func17, Try.ntmps17
  go_wp2_with fail
  refine (HC.out _).mono ?_
  rintro e0 w1 ⟨rfl, h1⟩
  have A1 := (((Blk.new w _ _).alloc _).alloc _).below h1
  have M1 := ((Blk.new (w.alloc _) _ _).alloc _).below h1
  have D1 := (Blk.new ((w.alloc _).alloc _) _ _).below h1
  simp only [World.size_alloc] at M1 D1
  have l1 := A1.lt
  have l2 := M1.lt
  have l3 := D1.lt
  have HK1 := Lib.hid (b_step (b_alloc (b_alloc (b_alloc (Below.refl _ _) _) _) _) h1)
  obtain ⟨c0, c1, c2, c3, c4, c5, f0, f1, f2, f3, f4, f5⟩ := A1.six
  obtain ⟨d0, d1, d2, d3, d4, d5, d6, d7⟩ := M1.eight
  have hmf' := hmf
  obtain ⟨z0, z1, z2, z3, z4, z5, y0, y1, y2, y3, y4, y5⟩ := D1.six
  go_wp2_with (fail)
  exact bodyPost_ret (results_ct rfl _ _ (w.heap.size + 1 + 1) 28 (c6 ⟨l, r, e, n, p, d⟩) _ rfl D1.store6 Try.underlying28 rfl (by kernel_rfl)) rfl ⟨_, rfl, row_nil _ _, b_store6 HK1.out (by omega)⟩
set_option maxHeartbeats 2000000 in
theorem recv_same_to {l r e n p d mk mf mt mn me x now : Int} {va ba : Option Addr} {vl vc bl bc : Nat} (hk : Ok ⟨l, r, e, n, p, d⟩) (hf : (mf != r) = false) (ht : (mt != l) = true) (w : World) :
    Calls Try.prog 17 #[S6 ⟨l, r, e, n, p, d⟩, .int .i64 now, MV ⟨mk, mf, mt, mn, me⟩ x (.slice va vl vc) (.slice ba bl bc)] w (Gave ⟨l, r, e, n, p, d⟩ [] w) := by
  have HC := Lib.hid (chk_ok hk)
  clear hk
  go_enter Try.func17, Try.ntmps17
  go_wp2_with fail
  refine (HC.out _).mono ?_
  rintro e0 w1 ⟨rfl, h1⟩
  have A1 := (((Blk.new w _ _).alloc _).alloc _).below h1
  have M1 := ((Blk.new (w.alloc _) _ _).alloc _).below h1
  have D1 := (Blk.new ((w.alloc _).alloc _) _ _).below h1
  simp only [World.size_alloc] at M1 D1
  have l1 := A1.lt
  have l2 := M1.lt
  have l3 := D1.lt
  have HK1 := Lib.hid (b_step (b_alloc (b_alloc (b_alloc (Below.refl _ _) _) _) _) h1)
  obtain ⟨c0, c1, c2, c3, c4, c5, f0, f1, f2, f3, f4, f5⟩ := A1.six
  obtain ⟨d0, d1, d2, d3, d4, d5, d6, d7⟩ := M1.eight
  have hmf' := hmf
  obtain ⟨z0, z1, z2, z3, z4, z5, y0, y1, y2, y3, y4, y5⟩ := D1.six
  go_wp2_with (fail)
  exact bodyPost_ret (results_ct rfl _ _ (w.heap.size + 1 + 1) 28 (c6 ⟨l, r, e, n, p, d⟩) _ rfl D1.store6 Try.underlying28 rfl (by kernel_rfl)) rfl ⟨_, rfl, row_nil _ _, b_store6 HK1.out (by omega)⟩
set_option maxHeartbeats 2000000 in
theorem recv_same_epoch {l r e n p d mk mf mt mn me x now : Int} {va ba : Option Addr} {vl vc bl bc : Nat} (hk : Ok ⟨l, r, e, n, p, d⟩) (hf : (mf != r) = false) (ht : (mt != l) = false) (he : ¬ (0 ≤ me ∧ me ≤ 1073741824)) (w : World) :
    Calls Try.prog 17 #[S6 ⟨l, r, e, n, p, d⟩, .int .i64 now, MV ⟨mk, mf, mt, mn, me⟩ x (.slice va vl vc) (.slice ba bl bc)] w (Gave ⟨l, r, e, n, p, d⟩ [] w) := by
  have HC := Lib.hid (chk_ok hk)
  clear hk
  have HE := Lib.hid he
  clear he
  go_enter Try.func17, Try.ntmps17
  go_wp2_with fail
  refine (HC.out _).mono ?_
  rintro e0 w1 ⟨rfl, h1⟩
  have A1 := (((Blk.new w _ _).alloc _).alloc _).below h1
  have M1 := ((Blk.new (w.alloc _) _ _).alloc _).below h1
  have D1 := (Blk.new ((w.alloc _).alloc _) _ _).below h1
  simp only [World.size_alloc] at M1 D1
  have l1 := A1.lt
  have l2 := M1.lt
  have l3 := D1.lt
  have HK1 := Lib.hid (b_step (b_alloc (b_alloc (b_alloc (Below.refl _ _) _) _) _) h1)
  obtain ⟨c0, c1, c2, c3, c4, c5, f0, f1, f2, f3, f4, f5⟩ := A1.six
  obtain ⟨d0, d1, d2, d3, d4, d5, d6, d7⟩ := M1.eight
  have hmf' := hmf
  obtain ⟨z0, z1, z2, z3, z4, z5, y0, y1, y2, y3, y4, y5⟩ := D1.six
  go_wp2_with (go_at_call 33; (with_reducible refine (time_no HE.out _).mono ?_); rintro e w' ⟨rfl, rfl⟩)
  exact bodyPost_ret (results_ct rfl _ _ (w.heap.size + 1 + 1) 28 (c6 ⟨l, r, e, n, p, d⟩) _ rfl D1.store6 Try.underlying28 rfl (by kernel_rfl)) rfl ⟨_, rfl, row_nil _ _, b_store6 HK1.out (by omega)⟩
set_option maxHeartbeats 2000000 in
theorem recv_same_number {l r e n p d mk mf mt mn me x now : Int} {va ba : Option Addr} {vl vc bl bc : Nat} (hk : Ok ⟨l, r, e, n, p, d⟩) (hf : (mf != r) = false) (ht : (mt != l) = false) (he0 : 0 ≤ me) (he1 : me ≤ 1073741824) (hn : ¬ (0 ≤ mn ∧ mn ≤ 1073741824)) (w : World) :
    Calls Try.prog 17 #[S6 ⟨l, r, e, n, p, d⟩, .int .i64 now, MV ⟨mk, mf, mt, mn, me⟩ x (.slice va vl vc) (.slice ba bl bc)] w (Gave ⟨l, r, e, n, p, d⟩ [] w) := by
  have HC := Lib.hid (chk_ok hk)
  clear hk
  have HN := Lib.hid hn
  clear hn
  go_enter Try.func17, Try.ntmps17
  go_wp2_with fail
  refine (HC.out _).mono ?_
  rintro e0 w1 ⟨rfl, h1⟩
  have A1 := (((Blk.new w _ _).alloc _).alloc _).below h1
  have M1 := ((Blk.new (w.alloc _) _ _).alloc _).below h1
  have D1 := (Blk.new ((w.alloc _).alloc _) _ _).below h1
  simp only [World.size_alloc] at M1 D1
  have l1 := A1.lt
  have l2 := M1.lt
  have l3 := D1.lt
  have HK1 := Lib.hid (b_step (b_alloc (b_alloc (b_alloc (Below.refl _ _) _) _) _) h1)
  obtain ⟨c0, c1, c2, c3, c4, c5, f0, f1, f2, f3, f4, f5⟩ := A1.six
  obtain ⟨d0, d1, d2, d3, d4, d5, d6, d7⟩ := M1.eight
  have hmf' := hmf
  obtain ⟨z0, z1, z2, z3, z4, z5, y0, y1, y2, y3, y4, y5⟩ := D1.six
  go_wp2_with (go_at_call 33; (first | (with_reducible refine (time_no HN.out _).mono ?_) | refine (time_yes (by omega) _).mono ?_); rintro e w' ⟨rfl, rfl⟩)
  exact bodyPost_ret (results_ct rfl _ _ (w.heap.size + 1 + 1) 28 (c6 ⟨l, r, e, n, p, d⟩) _ rfl D1.store6 Try.underlying28 rfl (by kernel_rfl)) rfl ⟨_, rfl, row_nil _ _, b_store6 HK1.out (by omega)⟩
set_option maxHeartbeats 2000000 in
theorem recv_same_low {l r e n p d mk mf mt mn me x now : Int} {va ba : Option Addr} {vl vc bl bc : Nat} (hk : Ok ⟨l, r, e, n, p, d⟩) (hf : (mf != r) = false) (ht : (mt != l) = false) (he0 : 0 ≤ me) (he1 : me ≤ 1073741824) (hn0 : 0 ≤ mn) (hn1 : mn ≤ 1073741824) (hw : wrap64 (mk - 5) < 0) (w : World) :
    Calls Try.prog 17 #[S6 ⟨l, r, e, n, p, d⟩, .int .i64 now, MV ⟨mk, mf, mt, mn, me⟩ x (.slice va vl vc) (.slice ba bl bc)] w (Gave ⟨l, r, e, n, p, d⟩ [] w) := by
  have HC := Lib.hid (chk_ok hk)
  clear hk
  go_enter Try.func17, Try.ntmps17
  go_wp2_with fail
  refine (HC.out _).mono ?_
  rintro e0 w1 ⟨rfl, h1⟩
  have A1 := (((Blk.new w _ _).alloc _).alloc _).below h1
  have M1 := ((Blk.new (w.alloc _) _ _).alloc _).below h1
  have D1 := (Blk.new ((w.alloc _).alloc _) _ _).below h1
  simp only [World.size_alloc] at M1 D1
  have l1 := A1.lt
  have l2 := M1.lt
  have l3 := D1.lt
  have HK1 := Lib.hid (b_step (b_alloc (b_alloc (b_alloc (Below.refl _ _) _) _) _) h1)
  obtain ⟨c0, c1, c2, c3, c4, c5, f0, f1, f2, f3, f4, f5⟩ := A1.six
  obtain ⟨d0, d1, d2, d3, d4, d5, d6, d7⟩ := M1.eight
  have hmf' := hmf
  obtain ⟨z0, z1, z2, z3, z4, z5, y0, y1, y2, y3, y4, y5⟩ := D1.six
  go_wp2_with (go_at_call 33; refine (time_yes (by omega) _).mono ?_; rintro e w' ⟨rfl, rfl⟩)
  exact bodyPost_ret (results_ct rfl _ _ (w.heap.size + 1 + 1) 28 (c6 ⟨l, r, e, n, p, d⟩) _ rfl D1.store6 Try.underlying28 rfl (by kernel_rfl)) rfl ⟨_, rfl, row_nil _ _, b_store6 HK1.out (by omega)⟩
set_option maxHeartbeats 2000000 in
theorem recv_same_high {l r e n p d mk mf mt mn me x now : Int} {va ba : Option Addr} {vl vc bl bc : Nat} (hk : Ok ⟨l, r, e, n, p, d⟩) (hf : (mf != r) = false) (ht : (mt != l) = false) (he0 : 0 ≤ me) (he1 : me ≤ 1073741824) (hn0 : 0 ≤ mn) (hn1 : mn ≤ 1073741824) (hw0 : 0 ≤ wrap64 (mk - 5)) (hw : 2 < wrap64 (mk - 5)) (w : World) :
    Calls Try.prog 17 #[S6 ⟨l, r, e, n, p, d⟩, .int .i64 now, MV ⟨mk, mf, mt, mn, me⟩ x (.slice va vl vc) (.slice ba bl bc)] w (Gave ⟨l, r, e, n, p, d⟩ [] w) := by
  have HC := Lib.hid (chk_ok hk)
  clear hk
  go_enter Try.func17, Try.ntmps17
  go_wp2_with fail
  refine (HC.out _).mono ?_
  rintro e0 w1 ⟨rfl, h1⟩
  have A1 := (((Blk.new w _ _).alloc _).alloc _).below h1
  have M1 := ((Blk.new (w.alloc _) _ _).alloc _).below h1
  have D1 := (Blk.new ((w.alloc _).alloc _) _ _).below h1
  simp only [World.size_alloc] at M1 D1
  have l1 := A1.lt
  have l2 := M1.lt
  have l3 := D1.lt
  have HK1 := Lib.hid (b_step (b_alloc (b_alloc (b_alloc (Below.refl _ _) _) _) _) h1)
  obtain ⟨c0, c1, c2, c3, c4, c5, f0, f1, f2, f3, f4, f5⟩ := A1.six
  obtain ⟨d0, d1, d2, d3, d4, d5, d6, d7⟩ := M1.eight
  have hmf' := hmf
  obtain ⟨z0, z1, z2, z3, z4, z5, y0, y1, y2, y3, y4, y5⟩ := D1.six
  go_wp2_with (go_at_call 33; refine (time_yes (by omega) _).mono ?_; rintro e w' ⟨rfl, rfl⟩)
  exact bodyPost_ret (results_ct rfl _ _ (w.heap.size + 1 + 1) 28 (c6 ⟨l, r, e, n, p, d⟩) _ rfl D1.store6 Try.underlying28 rfl (by kernel_rfl)) rfl ⟨_, rfl, row_nil _ _, b_store6 HK1.out (by omega)⟩
end Go.Proofs.Ytemljffppdjmgaa
