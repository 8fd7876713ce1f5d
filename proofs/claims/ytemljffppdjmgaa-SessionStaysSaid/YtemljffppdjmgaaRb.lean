/- Contracts of Receive, where the epochs differ. -/
import Derived.Test.YtemljffppdjmgaaRa
namespace Go.Proofs.Ytemljffppdjmgaa
open Go.RowKit
set_option maxHeartbeats 2000000 in
theorem recv_gt0 {l r e n p d mn me x now : Int} {va ba : Option Addr} {vl vc bl bc : Nat} {t : Ses} {ms : List Msg} (hk : Ok ⟨l, r, e, n, p, d⟩) (m0 : 0 ≤ mn) (m1 : mn ≤ 1073741824) (me0 : e < me) (me1 : me ≤ 1073741824)
    (hm : ∀ (w : World) (g : Nat), Blk w g (c7 ⟨l, r, me, n, 0, 0⟩ (.slice none 0 0)) 70 → Calls Try.prog 34 #[.pointer (some ⟨g, 0, none⟩), .int .i64 mn] w (Acted g t ms w)) (w : World) :
    Calls Try.prog 17 #[S6 ⟨l, r, e, n, p, d⟩, .int .i64 now, MV ⟨5, r, l, mn, me⟩ x (.slice va vl vc) (.slice ba bl bc)] w (Gave t ms w) := by
  have HC := Lib.hid (chk_ok hk)
  have HM := Lib.hid hm
  have e0 : 0 ≤ e := hk.e0
  clear hk hm
  go_enter Try.func17, Try.ntmps17
  go_wp2_with fail
  refine (HC.out _).mono ?_
  rintro e0 w1 ⟨rfl, h1⟩
  have A1 := (((Blk.new w _ _).alloc _).alloc _).below h1
  have M1 := ((Blk.new (w.alloc _) _ _).alloc _).below h1
  have D1 := (Blk.new ((w.alloc _).alloc _) _ _).below h1
  simp only [World.size_alloc] at M1 D1
  have l1 := A1.lt
  have l2 := M1.lt
  have l3 := D1.lt
  have HK1 := Lib.hid (b_step (b_alloc (b_alloc (b_alloc (Below.refl _ _) _) _) _) h1)
  obtain ⟨c0, c1, c2, c3, c4, c5, f0, f1, f2, f3, f4, f5⟩ := A1.six
  obtain ⟨d0, d1, d2, d3, d4, d5, d6, d7⟩ := M1.eight
  have hmf' := hmf
  go_wp2_with (first | (go_at_call 33; refine (time_yes (by omega) _).mono ?_; rintro e w' ⟨rfl, rfl⟩))
  have XX := (Blk.new w1 #[.int .i64 l, .int .i64 r, .int .i64 me, .int .i64 n, .int .i64 p, .int .i64 d, .slice none 0 0] 70).alloc (.cells #[.func (Fn.func 34) #[.pointer (some ⟨w1.heap.size, 0, none⟩)] #[], .func (Fn.func 35) #[.pointer (some ⟨w1.heap.size, 0, none⟩)] #[], .func (Fn.func 36) #[.pointer (some ⟨w1.heap.size, 0, none⟩)] #[]] 76)
  have HH := Blk.new (w1.alloc (.cells #[.int .i64 l, .int .i64 r, .int .i64 me, .int .i64 n, .int .i64 p, .int .i64 d, .slice none 0 0] 70)) #[.func (Fn.func 34) #[.pointer (some ⟨w1.heap.size, 0, none⟩)] #[], .func (Fn.func 35) #[.pointer (some ⟨w1.heap.size, 0, none⟩)] #[], .func (Fn.func 36) #[.pointer (some ⟨w1.heap.size, 0, none⟩)] #[]] 76
  rw [World.size_alloc] at HH
  have MM := (M1.alloc (.cells #[.int .i64 l, .int .i64 r, .int .i64 me, .int .i64 n, .int .i64 p, .int .i64 d, .slice none 0 0] 70)).alloc (.cells #[.func (Fn.func 34) #[.pointer (some ⟨w1.heap.size, 0, none⟩)] #[], .func (Fn.func 35) #[.pointer (some ⟨w1.heap.size, 0, none⟩)] #[], .func (Fn.func 36) #[.pointer (some ⟨w1.heap.size, 0, none⟩)] #[]] 76)
  have DD := (D1.alloc (.cells #[.int .i64 l, .int .i64 r, .int .i64 me, .int .i64 n, .int .i64 p, .int .i64 d, .slice none 0 0] 70)).alloc (.cells #[.func (Fn.func 34) #[.pointer (some ⟨w1.heap.size, 0, none⟩)] #[], .func (Fn.func 35) #[.pointer (some ⟨w1.heap.size, 0, none⟩)] #[], .func (Fn.func 36) #[.pointer (some ⟨w1.heap.size, 0, none⟩)] #[]] 76)
  have KK := Lib.hid (b_alloc (b_alloc HK1.out (.cells #[.int .i64 l, .int .i64 r, .int .i64 me, .int .i64 n, .int .i64 p, .int .i64 d, .slice none 0 0] 70)) (.cells #[.func (Fn.func 34) #[.pointer (some ⟨w1.heap.size, 0, none⟩)] #[], .func (Fn.func 35) #[.pointer (some ⟨w1.heap.size, 0, none⟩)] #[], .func (Fn.func 36) #[.pointer (some ⟨w1.heap.size, 0, none⟩)] #[]] 76))
  have n1 : some (w1.heap.size + 1) ≠ some w1.heap.size := by simp
  have n2 : some (w.heap.size + 1) ≠ some w1.heap.size := by simp; omega
  have n3 : some (w.heap.size + 1 + 1) ≠ some w1.heap.size := by simp; omega
  clear A1 M1 D1 h1 c0 c1 c2 c3 c4 c5 f0 f1 f2 f3 f4 f5 d0 d1 d2 d3 d4 d5 d6 d7 hmf'
  refine (become_any _ ⟨l, r, me, n, p, d⟩ _ 0 _ XX).mono ?_
  rintro e0 w3 ⟨rfl, h3, X3⟩
  have hbase3 := h3.size
  have H3 := HH.grown h3 n1
  have M3 := MM.grown h3 n2
  have D3 := DD.grown h3 n3
  have K3 := Lib.hid (b_grown KK.out h3 (fun j hj => by simp at hj; omega))
  have hbase : w1.heap.size ≤ w3.drew.heap.size := by simp at hbase3 ⊢; omega
  clear XX HH MM DD KK h3 hbase3
  obtain ⟨c0, c1, c2, c3, c4, c5, c6, f0, f1, f2, f3, f4, f5, f6⟩ := X3.seven
  obtain ⟨d0, d1, d2, d3, d4, d5, d6, d7⟩ := M3.eight
  have l4 := M3.lt
  have l5 := X3.lt
  have l6 := H3.lt
  go_wp2_with fail
  have hc1 : w3.drew.cell? ⟨w1.heap.size + 1, 0, none⟩ = some (.func (Fn.func 34) #[.pointer (some ⟨w1.heap.size, 0, none⟩)] #[]) := H3.drew.cell 0
  have hc2 : w3.drew.cell? ⟨w.heap.size + 1, 3, none⟩ = some (.int .i64 mn) := M3.drew.cell 3
  clear H3 M3 c0 c1 c2 c3 c4 c5 c6 f0 f1 f2 f3 f4 f5 f6 d0 d1 d2 d3 d4 d5 d6 d7
  go_region_held3 (fun w' => w'.cell? ⟨w1.heap.size + 1, 0, none⟩ = some (.func (Fn.func 34) #[.pointer (some ⟨w1.heap.size, 0, none⟩)] #[]) ∧ w'.cell? ⟨w.heap.size + 1, 3, none⟩ = some (.int .i64 mn))
    (first | with_reducible exact ⟨hc1, hc2⟩ | with_reducible exact ⟨cell_grown hc1 h2 n1, cell_grown hc2 h2 n2⟩)
    (first | (go_at_call 34; refine (HM.out _ _ X3.drew).mono ?_; rintro e w2 ⟨rfl, v, h2, X2, R2⟩))
  have D2 := D3.drew.grown h2 n3
  have K2 := b_grown (b_drew K3.out) h2 (fun j hj => by simp at hj; omega)
  have R3 := R2.lower hbase
  clear h2 R2
  go_wp2_with fail
  refine (result_any _ _ _ _ X2).mono ?_
  rintro e0 w4 ⟨rfl, h4⟩
  have D5 := D2.below h4
  have R4 := R3.below h4
  have K4 := b_step K2 h4
  clear D2 X2 h4 K2
  obtain ⟨c0, c1, c2, c3, c4, c5, f0, f1, f2, f3, f4, f5⟩ := D5.six
  go_wp2_with fail
  exact bodyPost_ret (results_ct rfl _ _ (w.heap.size + 1 + 1) 28 (c6 t) _ rfl D5.store6 Try.underlying28 rfl (by kernel_rfl)) rfl ⟨_, rfl, (R4.far6 (by omega)).lower (by omega), b_store6 K4 (by omega)⟩
set_option maxHeartbeats 2000000 in
theorem recv_gt1 {l r e n p d mn me x now : Int} {va ba : Option Addr} {vl vc bl bc : Nat} {t : Ses} {ms : List Msg} (hk : Ok ⟨l, r, e, n, p, d⟩) (m0 : 0 ≤ mn) (m1 : mn ≤ 1073741824) (me0 : e < me) (me1 : me ≤ 1073741824)
    (hm : ∀ (w : World) (g : Nat), Blk w g (c7 ⟨l, r, me, n, 0, 0⟩ (.slice none 0 0)) 70 → Calls Try.prog 35 #[.pointer (some ⟨g, 0, none⟩), .int .i64 mn] w (Acted g t ms w)) (w : World) :
    Calls Try.prog 17 #[S6 ⟨l, r, e, n, p, d⟩, .int .i64 now, MV ⟨6, r, l, mn, me⟩ x (.slice va vl vc) (.slice ba bl bc)] w (Gave t ms w) := by
  have HC := Lib.hid (chk_ok hk)
  have HM := Lib.hid hm
  have e0 : 0 ≤ e := hk.e0
  clear hk hm
  go_enter Try.func17, Try.ntmps17
  go_wp2_with fail
  refine (HC.out _).mono ?_
  rintro e0 w1 ⟨rfl, h1⟩
  have A1 := (((Blk.new w _ _).alloc _).alloc _).below h1
  have M1 := ((Blk.new (w.alloc _) _ _).alloc _).below h1
  have D1 := (Blk.new ((w.alloc _).alloc _) _ _).below h1
  simp only [World.size_alloc] at M1 D1
  have l1 := A1.lt
  have l2 := M1.lt
  have l3 := D1.lt
  have HK1 := Lib.hid (b_step (b_alloc (b_alloc (b_alloc (Below.refl _ _) _) _) _) h1)
  obtain ⟨c0, c1, c2, c3, c4, c5, f0, f1, f2, f3, f4, f5⟩ := A1.six
  obtain ⟨d0, d1, d2, d3, d4, d5, d6, d7⟩ := M1.eight
  have hmf' := hmf
  go_wp2_with (first | (go_at_call 33; refine (time_yes (by omega) _).mono ?_; rintro e w' ⟨rfl, rfl⟩))
  have XX := (Blk.new w1 #[.int .i64 l, .int .i64 r, .int .i64 me, .int .i64 n, .int .i64 p, .int .i64 d, .slice none 0 0] 70).alloc (.cells #[.func (Fn.func 34) #[.pointer (some ⟨w1.heap.size, 0, none⟩)] #[], .func (Fn.func 35) #[.pointer (some ⟨w1.heap.size, 0, none⟩)] #[], .func (Fn.func 36) #[.pointer (some ⟨w1.heap.size, 0, none⟩)] #[]] 76)
  have HH := Blk.new (w1.alloc (.cells #[.int .i64 l, .int .i64 r, .int .i64 me, .int .i64 n, .int .i64 p, .int .i64 d, .slice none 0 0] 70)) #[.func (Fn.func 34) #[.pointer (some ⟨w1.heap.size, 0, none⟩)] #[], .func (Fn.func 35) #[.pointer (some ⟨w1.heap.size, 0, none⟩)] #[], .func (Fn.func 36) #[.pointer (some ⟨w1.heap.size, 0, none⟩)] #[]] 76
  rw [World.size_alloc] at HH
  have MM := (M1.alloc (.cells #[.int .i64 l, .int .i64 r, .int .i64 me, .int .i64 n, .int .i64 p, .int .i64 d, .slice none 0 0] 70)).alloc (.cells #[.func (Fn.func 34) #[.pointer (some ⟨w1.heap.size, 0, none⟩)] #[], .func (Fn.func 35) #[.pointer (some ⟨w1.heap.size, 0, none⟩)] #[], .func (Fn.func 36) #[.pointer (some ⟨w1.heap.size, 0, none⟩)] #[]] 76)
  have DD := (D1.alloc (.cells #[.int .i64 l, .int .i64 r, .int .i64 me, .int .i64 n, .int .i64 p, .int .i64 d, .slice none 0 0] 70)).alloc (.cells #[.func (Fn.func 34) #[.pointer (some ⟨w1.heap.size, 0, none⟩)] #[], .func (Fn.func 35) #[.pointer (some ⟨w1.heap.size, 0, none⟩)] #[], .func (Fn.func 36) #[.pointer (some ⟨w1.heap.size, 0, none⟩)] #[]] 76)
  have KK := Lib.hid (b_alloc (b_alloc HK1.out (.cells #[.int .i64 l, .int .i64 r, .int .i64 me, .int .i64 n, .int .i64 p, .int .i64 d, .slice none 0 0] 70)) (.cells #[.func (Fn.func 34) #[.pointer (some ⟨w1.heap.size, 0, none⟩)] #[], .func (Fn.func 35) #[.pointer (some ⟨w1.heap.size, 0, none⟩)] #[], .func (Fn.func 36) #[.pointer (some ⟨w1.heap.size, 0, none⟩)] #[]] 76))
  have n1 : some (w1.heap.size + 1) ≠ some w1.heap.size := by simp
  have n2 : some (w.heap.size + 1) ≠ some w1.heap.size := by simp; omega
  have n3 : some (w.heap.size + 1 + 1) ≠ some w1.heap.size := by simp; omega
  clear A1 M1 D1 h1 c0 c1 c2 c3 c4 c5 f0 f1 f2 f3 f4 f5 d0 d1 d2 d3 d4 d5 d6 d7 hmf'
  refine (become_any _ ⟨l, r, me, n, p, d⟩ _ 0 _ XX).mono ?_
  rintro e0 w3 ⟨rfl, h3, X3⟩
  have hbase3 := h3.size
  have H3 := HH.grown h3 n1
  have M3 := MM.grown h3 n2
  have D3 := DD.grown h3 n3
  have K3 := Lib.hid (b_grown KK.out h3 (fun j hj => by simp at hj; omega))
  have hbase : w1.heap.size ≤ w3.drew.heap.size := by simp at hbase3 ⊢; omega
  clear XX HH MM DD KK h3 hbase3
  obtain ⟨c0, c1, c2, c3, c4, c5, c6, f0, f1, f2, f3, f4, f5, f6⟩ := X3.seven
  obtain ⟨d0, d1, d2, d3, d4, d5, d6, d7⟩ := M3.eight
  have l4 := M3.lt
  have l5 := X3.lt
  have l6 := H3.lt
  go_wp2_with fail
  have hc1 : w3.drew.cell? ⟨w1.heap.size + 1, 1, none⟩ = some (.func (Fn.func 35) #[.pointer (some ⟨w1.heap.size, 0, none⟩)] #[]) := H3.drew.cell 1
  have hc2 : w3.drew.cell? ⟨w.heap.size + 1, 3, none⟩ = some (.int .i64 mn) := M3.drew.cell 3
  clear H3 M3 c0 c1 c2 c3 c4 c5 c6 f0 f1 f2 f3 f4 f5 f6 d0 d1 d2 d3 d4 d5 d6 d7
  go_region_held3 (fun w' => w'.cell? ⟨w1.heap.size + 1, 1, none⟩ = some (.func (Fn.func 35) #[.pointer (some ⟨w1.heap.size, 0, none⟩)] #[]) ∧ w'.cell? ⟨w.heap.size + 1, 3, none⟩ = some (.int .i64 mn))
    (first | with_reducible exact ⟨hc1, hc2⟩ | with_reducible exact ⟨cell_grown hc1 h2 n1, cell_grown hc2 h2 n2⟩)
    (first | (go_at_call 35; refine (HM.out _ _ X3.drew).mono ?_; rintro e w2 ⟨rfl, v, h2, X2, R2⟩))
  have D2 := D3.drew.grown h2 n3
  have K2 := b_grown (b_drew K3.out) h2 (fun j hj => by simp at hj; omega)
  have R3 := R2.lower hbase
  clear h2 R2
  go_wp2_with fail
  refine (result_any _ _ _ _ X2).mono ?_
  rintro e0 w4 ⟨rfl, h4⟩
  have D5 := D2.below h4
  have R4 := R3.below h4
  have K4 := b_step K2 h4
  clear D2 X2 h4 K2
  obtain ⟨c0, c1, c2, c3, c4, c5, f0, f1, f2, f3, f4, f5⟩ := D5.six
  go_wp2_with fail
  exact bodyPost_ret (results_ct rfl _ _ (w.heap.size + 1 + 1) 28 (c6 t) _ rfl D5.store6 Try.underlying28 rfl (by kernel_rfl)) rfl ⟨_, rfl, (R4.far6 (by omega)).lower (by omega), b_store6 K4 (by omega)⟩
set_option maxHeartbeats 2000000 in
theorem recv_gt2 {l r e n p d mn me x now : Int} {va ba : Option Addr} {vl vc bl bc : Nat} {t : Ses} {ms : List Msg} (hk : Ok ⟨l, r, e, n, p, d⟩) (m0 : 0 ≤ mn) (m1 : mn ≤ 1073741824) (me0 : e < me) (me1 : me ≤ 1073741824)
    (hm : ∀ (w : World) (g : Nat), Blk w g (c7 ⟨l, r, me, n, 0, 0⟩ (.slice none 0 0)) 70 → Calls Try.prog 36 #[.pointer (some ⟨g, 0, none⟩), .int .i64 mn] w (Acted g t ms w)) (w : World) :
    Calls Try.prog 17 #[S6 ⟨l, r, e, n, p, d⟩, .int .i64 now, MV ⟨7, r, l, mn, me⟩ x (.slice va vl vc) (.slice ba bl bc)] w (Gave t ms w) := by
  have HC := Lib.hid (chk_ok hk)
  have HM := Lib.hid hm
  have e0 : 0 ≤ e := hk.e0
  clear hk hm
  go_enter Try.func17, Try.ntmps17
  go_wp2_with fail
  refine (HC.out _).mono ?_
  rintro e0 w1 ⟨rfl, h1⟩
  have A1 := (((Blk.new w _ _).alloc _).alloc _).below h1
  have M1 := ((Blk.new (w.alloc _) _ _).alloc _).below h1
  have D1 := (Blk.new ((w.alloc _).alloc _) _ _).below h1
  simp only [World.size_alloc] at M1 D1
  have l1 := A1.lt
  have l2 := M1.lt
  have l3 := D1.lt
  have HK1 := Lib.hid (b_step (b_alloc (b_alloc (b_alloc (Below.refl _ _) _) _) _) h1)
  obtain ⟨c0, c1, c2, c3, c4, c5, f0, f1, f2, f3, f4, f5⟩ := A1.six
  obtain ⟨d0, d1, d2, d3, d4, d5, d6, d7⟩ := M1.eight
  have hmf' := hmf
  go_wp2_with (first | (go_at_call 33; refine (time_yes (by omega) _).mono ?_; rintro e w' ⟨rfl, rfl⟩))
  have XX := (Blk.new w1 #[.int .i64 l, .int .i64 r, .int .i64 me, .int .i64 n, .int .i64 p, .int .i64 d, .slice none 0 0] 70).alloc (.cells #[.func (Fn.func 34) #[.pointer (some ⟨w1.heap.size, 0, none⟩)] #[], .func (Fn.func 35) #[.pointer (some ⟨w1.heap.size, 0, none⟩)] #[], .func (Fn.func 36) #[.pointer (some ⟨w1.heap.size, 0, none⟩)] #[]] 76)
  have HH := Blk.new (w1.alloc (.cells #[.int .i64 l, .int .i64 r, .int .i64 me, .int .i64 n, .int .i64 p, .int .i64 d, .slice none 0 0] 70)) #[.func (Fn.func 34) #[.pointer (some ⟨w1.heap.size, 0, none⟩)] #[], .func (Fn.func 35) #[.pointer (some ⟨w1.heap.size, 0, none⟩)] #[], .func (Fn.func 36) #[.pointer (some ⟨w1.heap.size, 0, none⟩)] #[]] 76
  rw [World.size_alloc] at HH
  have MM := (M1.alloc (.cells #[.int .i64 l, .int .i64 r, .int .i64 me, .int .i64 n, .int .i64 p, .int .i64 d, .slice none 0 0] 70)).alloc (.cells #[.func (Fn.func 34) #[.pointer (some ⟨w1.heap.size, 0, none⟩)] #[], .func (Fn.func 35) #[.pointer (some ⟨w1.heap.size, 0, none⟩)] #[], .func (Fn.func 36) #[.pointer (some ⟨w1.heap.size, 0, none⟩)] #[]] 76)
  have DD := (D1.alloc (.cells #[.int .i64 l, .int .i64 r, .int .i64 me, .int .i64 n, .int .i64 p, .int .i64 d, .slice none 0 0] 70)).alloc (.cells #[.func (Fn.func 34) #[.pointer (some ⟨w1.heap.size, 0, none⟩)] #[], .func (Fn.func 35) #[.pointer (some ⟨w1.heap.size, 0, none⟩)] #[], .func (Fn.func 36) #[.pointer (some ⟨w1.heap.size, 0, none⟩)] #[]] 76)
  have KK := Lib.hid (b_alloc (b_alloc HK1.out (.cells #[.int .i64 l, .int .i64 r, .int .i64 me, .int .i64 n, .int .i64 p, .int .i64 d, .slice none 0 0] 70)) (.cells #[.func (Fn.func 34) #[.pointer (some ⟨w1.heap.size, 0, none⟩)] #[], .func (Fn.func 35) #[.pointer (some ⟨w1.heap.size, 0, none⟩)] #[], .func (Fn.func 36) #[.pointer (some ⟨w1.heap.size, 0, none⟩)] #[]] 76))
  have n1 : some (w1.heap.size + 1) ≠ some w1.heap.size := by simp
  have n2 : some (w.heap.size + 1) ≠ some w1.heap.size := by simp; omega
  have n3 : some (w.heap.size + 1 + 1) ≠ some w1.heap.size := by simp; omega
  clear A1 M1 D1 h1 c0 c1 c2 c3 c4 c5 f0 f1 f2 f3 f4 f5 d0 d1 d2 d3 d4 d5 d6 d7 hmf'
  refine (become_any _ ⟨l, r, me, n, p, d⟩ _ 0 _ XX).mono ?_
  rintro e0 w3 ⟨rfl, h3, X3⟩
  have hbase3 := h3.size
  have H3 := HH.grown h3 n1
  have M3 := MM.grown h3 n2
  have D3 := DD.grown h3 n3
  have K3 := Lib.hid (b_grown KK.out h3 (fun j hj => by simp at hj; omega))
  have hbase : w1.heap.size ≤ w3.drew.heap.size := by simp at hbase3 ⊢; omega
  clear XX HH MM DD KK h3 hbase3
  obtain ⟨c0, c1, c2, c3, c4, c5, c6, f0, f1, f2, f3, f4, f5, f6⟩ := X3.seven
  obtain ⟨d0, d1, d2, d3, d4, d5, d6, d7⟩ := M3.eight
  have l4 := M3.lt
  have l5 := X3.lt
  have l6 := H3.lt
  go_wp2_with fail
  have hc1 : w3.drew.cell? ⟨w1.heap.size + 1, 2, none⟩ = some (.func (Fn.func 36) #[.pointer (some ⟨w1.heap.size, 0, none⟩)] #[]) := H3.drew.cell 2
  have hc2 : w3.drew.cell? ⟨w.heap.size + 1, 3, none⟩ = some (.int .i64 mn) := M3.drew.cell 3
  clear H3 M3 c0 c1 c2 c3 c4 c5 c6 f0 f1 f2 f3 f4 f5 f6 d0 d1 d2 d3 d4 d5 d6 d7
  go_region_held3 (fun w' => w'.cell? ⟨w1.heap.size + 1, 2, none⟩ = some (.func (Fn.func 36) #[.pointer (some ⟨w1.heap.size, 0, none⟩)] #[]) ∧ w'.cell? ⟨w.heap.size + 1, 3, none⟩ = some (.int .i64 mn))
    (first | with_reducible exact ⟨hc1, hc2⟩ | with_reducible exact ⟨cell_grown hc1 h2 n1, cell_grown hc2 h2 n2⟩)
    (first | (go_at_call 36; refine (HM.out _ _ X3.drew).mono ?_; rintro e w2 ⟨rfl, v, h2, X2, R2⟩))
  have D2 := D3.drew.grown h2 n3
  have K2 := b_grown (b_drew K3.out) h2 (fun j hj => by simp at hj; omega)
  have R3 := R2.lower hbase
  clear h2 R2
  go_wp2_with fail
  refine (result_any _ _ _ _ X2).mono ?_
  rintro e0 w4 ⟨rfl, h4⟩
  have D5 := D2.below h4
  have R4 := R3.below h4
  have K4 := b_step K2 h4
  clear D2 X2 h4 K2
  obtain ⟨c0, c1, c2, c3, c4, c5, f0, f1, f2, f3, f4, f5⟩ := D5.six
  go_wp2_with fail
  exact bodyPost_ret (results_ct rfl _ _ (w.heap.size + 1 + 1) 28 (c6 t) _ rfl D5.store6 Try.underlying28 rfl (by kernel_rfl)) rfl ⟨_, rfl, (R4.far6 (by omega)).lower (by omega), b_store6 K4 (by omega)⟩
set_option maxHeartbeats 2000000 in
theorem recv_old5 {l r e n p d mn me x now : Int} {va ba : Option Addr} {vl vc bl bc : Nat} (hk : Ok ⟨l, r, e, n, p, d⟩) (m0 : 0 ≤ mn) (m1 : mn ≤ 1073741824) (me0 : 0 ≤ me) (me1 : me < e) (w : World) :
    Calls Try.prog 17 #[S6 ⟨l, r, e, n, p, d⟩, .int .i64 now, MV ⟨5, r, l, mn, me⟩ x (.slice va vl vc) (.slice ba bl bc)] w (Gave ⟨l, r, e, n, p, d⟩ [⟨7, l, r, n, e⟩] w) := by
  have HC := Lib.hid (chk_ok hk)
  have e1 : e ≤ 1073741824 := hk.e1
  clear hk
  go_enter Try.func17, Try.ntmps17
  go_wp2_with fail
  refine (HC.out _).mono ?_
  rintro e0 w1 ⟨rfl, h1⟩
  have A1 := (((Blk.new w _ _).alloc _).alloc _).below h1
  have M1 := ((Blk.new (w.alloc _) _ _).alloc _).below h1
  have D1 := (Blk.new ((w.alloc _).alloc _) _ _).below h1
  simp only [World.size_alloc] at M1 D1
  have l1 := A1.lt
  have l2 := M1.lt
  have l3 := D1.lt
  have HK1 := Lib.hid (b_step (b_alloc (b_alloc (b_alloc (Below.refl _ _) _) _) _) h1)
  obtain ⟨c0, c1, c2, c3, c4, c5, f0, f1, f2, f3, f4, f5⟩ := A1.six
  obtain ⟨d0, d1, d2, d3, d4, d5, d6, d7⟩ := M1.eight
  have hmf' := hmf
  go_wp2_with (first | (go_at_call 33; refine (time_yes (by omega) _).mono ?_; rintro e w' ⟨rfl, rfl⟩))
  have XX := (Blk.new w1 #[.int .i64 l, .int .i64 r, .int .i64 e, .int .i64 n, .int .i64 p, .int .i64 d, .slice none 0 0] 70).alloc (.cells #[.func (Fn.func 34) #[.pointer (some ⟨w1.heap.size, 0, none⟩)] #[], .func (Fn.func 35) #[.pointer (some ⟨w1.heap.size, 0, none⟩)] #[], .func (Fn.func 36) #[.pointer (some ⟨w1.heap.size, 0, none⟩)] #[]] 76)
  have HH := Blk.new (w1.alloc (.cells #[.int .i64 l, .int .i64 r, .int .i64 e, .int .i64 n, .int .i64 p, .int .i64 d, .slice none 0 0] 70)) #[.func (Fn.func 34) #[.pointer (some ⟨w1.heap.size, 0, none⟩)] #[], .func (Fn.func 35) #[.pointer (some ⟨w1.heap.size, 0, none⟩)] #[], .func (Fn.func 36) #[.pointer (some ⟨w1.heap.size, 0, none⟩)] #[]] 76
  rw [World.size_alloc] at HH
  have MM := (M1.alloc (.cells #[.int .i64 l, .int .i64 r, .int .i64 e, .int .i64 n, .int .i64 p, .int .i64 d, .slice none 0 0] 70)).alloc (.cells #[.func (Fn.func 34) #[.pointer (some ⟨w1.heap.size, 0, none⟩)] #[], .func (Fn.func 35) #[.pointer (some ⟨w1.heap.size, 0, none⟩)] #[], .func (Fn.func 36) #[.pointer (some ⟨w1.heap.size, 0, none⟩)] #[]] 76)
  have DD := (D1.alloc (.cells #[.int .i64 l, .int .i64 r, .int .i64 e, .int .i64 n, .int .i64 p, .int .i64 d, .slice none 0 0] 70)).alloc (.cells #[.func (Fn.func 34) #[.pointer (some ⟨w1.heap.size, 0, none⟩)] #[], .func (Fn.func 35) #[.pointer (some ⟨w1.heap.size, 0, none⟩)] #[], .func (Fn.func 36) #[.pointer (some ⟨w1.heap.size, 0, none⟩)] #[]] 76)
  have KK := Lib.hid (b_alloc (b_alloc HK1.out (.cells #[.int .i64 l, .int .i64 r, .int .i64 e, .int .i64 n, .int .i64 p, .int .i64 d, .slice none 0 0] 70)) (.cells #[.func (Fn.func 34) #[.pointer (some ⟨w1.heap.size, 0, none⟩)] #[], .func (Fn.func 35) #[.pointer (some ⟨w1.heap.size, 0, none⟩)] #[], .func (Fn.func 36) #[.pointer (some ⟨w1.heap.size, 0, none⟩)] #[]] 76))
  have n1 : some (w1.heap.size + 1) ≠ some w1.heap.size := by simp
  have n2 : some (w.heap.size + 1) ≠ some w1.heap.size := by simp; omega
  have n3 : some (w.heap.size + 1 + 1) ≠ some w1.heap.size := by simp; omega
  clear A1 M1 D1 h1 c0 c1 c2 c3 c4 c5 f0 f1 f2 f3 f4 f5 d0 d1 d2 d3 d4 d5 d6 d7 hmf'
  refine (send_any _ ⟨l, r, e, n, p, d⟩ 7 _ XX).mono ?_
  rintro e0 w3 ⟨rfl, v, h3, X3, R3⟩
  have hbase3 : w1.heap.size ≤ ((w1.alloc (.cells #[.int .i64 l, .int .i64 r, .int .i64 e, .int .i64 n, .int .i64 p, .int .i64 d, .slice none 0 0] 70)).alloc (.cells #[.func (Fn.func 34) #[.pointer (some ⟨w1.heap.size, 0, none⟩)] #[], .func (Fn.func 35) #[.pointer (some ⟨w1.heap.size, 0, none⟩)] #[], .func (Fn.func 36) #[.pointer (some ⟨w1.heap.size, 0, none⟩)] #[]] 76)).heap.size := by simp; omega
  have D3 := DD.grown h3 n3
  have K3 := b_grown KK.out h3 (fun j hj => by simp at hj; omega)
  have R3' := R3.lower hbase3
  clear XX HH MM DD KK h3 hbase3 R3
  go_wp2_with fail
  refine (result_any _ ⟨l, r, e, n, p, d⟩ _ _ X3).mono ?_
  rintro e0 w4 ⟨rfl, h4⟩
  have D5 := D3.below h4
  have R4 := R3'.below h4
  have K4 := b_step K3 h4
  clear X3 D3 h4
  obtain ⟨c0, c1, c2, c3, c4, c5, f0, f1, f2, f3, f4, f5⟩ := D5.six
  go_wp2_with fail
  exact bodyPost_ret (results_ct rfl _ _ (w.heap.size + 1 + 1) 28 (c6 ⟨l, r, e, n, p, d⟩) _ rfl D5.store6 Try.underlying28 rfl (by kernel_rfl)) rfl ⟨_, rfl, (R4.far6 (by omega)).lower (by omega), b_store6 K4 (by omega)⟩
set_option maxHeartbeats 2000000 in
theorem recv_old6 {l r e n p d mn me x now : Int} {va ba : Option Addr} {vl vc bl bc : Nat} (hk : Ok ⟨l, r, e, n, p, d⟩) (m0 : 0 ≤ mn) (m1 : mn ≤ 1073741824) (me0 : 0 ≤ me) (me1 : me < e) (w : World) :
    Calls Try.prog 17 #[S6 ⟨l, r, e, n, p, d⟩, .int .i64 now, MV ⟨6, r, l, mn, me⟩ x (.slice va vl vc) (.slice ba bl bc)] w (Gave ⟨l, r, e, n, p, d⟩ [] w) := by
  have HC := Lib.hid (chk_ok hk)
  have e1 : e ≤ 1073741824 := hk.e1
  clear hk
  go_enter Try.func17, Try.ntmps17
  go_wp2_with fail
  refine (HC.out _).mono ?_
  rintro e0 w1 ⟨rfl, h1⟩
  have A1 := (((Blk.new w _ _).alloc _).alloc _).below h1
  have M1 := ((Blk.new (w.alloc _) _ _).alloc _).below h1
  have D1 := (Blk.new ((w.alloc _).alloc _) _ _).below h1
  simp only [World.size_alloc] at M1 D1
  have l1 := A1.lt
  have l2 := M1.lt
  have l3 := D1.lt
  have HK1 := Lib.hid (b_step (b_alloc (b_alloc (b_alloc (Below.refl _ _) _) _) _) h1)
  obtain ⟨c0, c1, c2, c3, c4, c5, f0, f1, f2, f3, f4, f5⟩ := A1.six
  obtain ⟨d0, d1, d2, d3, d4, d5, d6, d7⟩ := M1.eight
  have hmf' := hmf
  go_wp2_with (first | (go_at_call 33; refine (time_yes (by omega) _).mono ?_; rintro e w' ⟨rfl, rfl⟩))
  have XX := (Blk.new w1 #[.int .i64 l, .int .i64 r, .int .i64 e, .int .i64 n, .int .i64 p, .int .i64 d, .slice none 0 0] 70).alloc (.cells #[.func (Fn.func 34) #[.pointer (some ⟨w1.heap.size, 0, none⟩)] #[], .func (Fn.func 35) #[.pointer (some ⟨w1.heap.size, 0, none⟩)] #[], .func (Fn.func 36) #[.pointer (some ⟨w1.heap.size, 0, none⟩)] #[]] 76)
  have HH := Blk.new (w1.alloc (.cells #[.int .i64 l, .int .i64 r, .int .i64 e, .int .i64 n, .int .i64 p, .int .i64 d, .slice none 0 0] 70)) #[.func (Fn.func 34) #[.pointer (some ⟨w1.heap.size, 0, none⟩)] #[], .func (Fn.func 35) #[.pointer (some ⟨w1.heap.size, 0, none⟩)] #[], .func (Fn.func 36) #[.pointer (some ⟨w1.heap.size, 0, none⟩)] #[]] 76
  rw [World.size_alloc] at HH
  have MM := (M1.alloc (.cells #[.int .i64 l, .int .i64 r, .int .i64 e, .int .i64 n, .int .i64 p, .int .i64 d, .slice none 0 0] 70)).alloc (.cells #[.func (Fn.func 34) #[.pointer (some ⟨w1.heap.size, 0, none⟩)] #[], .func (Fn.func 35) #[.pointer (some ⟨w1.heap.size, 0, none⟩)] #[], .func (Fn.func 36) #[.pointer (some ⟨w1.heap.size, 0, none⟩)] #[]] 76)
  have DD := (D1.alloc (.cells #[.int .i64 l, .int .i64 r, .int .i64 e, .int .i64 n, .int .i64 p, .int .i64 d, .slice none 0 0] 70)).alloc (.cells #[.func (Fn.func 34) #[.pointer (some ⟨w1.heap.size, 0, none⟩)] #[], .func (Fn.func 35) #[.pointer (some ⟨w1.heap.size, 0, none⟩)] #[], .func (Fn.func 36) #[.pointer (some ⟨w1.heap.size, 0, none⟩)] #[]] 76)
  have KK := Lib.hid (b_alloc (b_alloc HK1.out (.cells #[.int .i64 l, .int .i64 r, .int .i64 e, .int .i64 n, .int .i64 p, .int .i64 d, .slice none 0 0] 70)) (.cells #[.func (Fn.func 34) #[.pointer (some ⟨w1.heap.size, 0, none⟩)] #[], .func (Fn.func 35) #[.pointer (some ⟨w1.heap.size, 0, none⟩)] #[], .func (Fn.func 36) #[.pointer (some ⟨w1.heap.size, 0, none⟩)] #[]] 76))
  have n1 : some (w1.heap.size + 1) ≠ some w1.heap.size := by simp
  have n2 : some (w.heap.size + 1) ≠ some w1.heap.size := by simp; omega
  have n3 : some (w.heap.size + 1 + 1) ≠ some w1.heap.size := by simp; omega
  clear A1 M1 D1 h1 c0 c1 c2 c3 c4 c5 f0 f1 f2 f3 f4 f5 d0 d1 d2 d3 d4 d5 d6 d7 hmf'
  have R3 := row_nil ((w1.alloc (.cells #[.int .i64 l, .int .i64 r, .int .i64 e, .int .i64 n, .int .i64 p, .int .i64 d, .slice none 0 0] 70)).alloc (.cells #[.func (Fn.func 34) #[.pointer (some ⟨w1.heap.size, 0, none⟩)] #[], .func (Fn.func 35) #[.pointer (some ⟨w1.heap.size, 0, none⟩)] #[], .func (Fn.func 36) #[.pointer (some ⟨w1.heap.size, 0, none⟩)] #[]] 76)) w1.heap.size
  refine (result_any _ ⟨l, r, e, n, p, d⟩ _ _ XX).mono ?_
  rintro e0 w4 ⟨rfl, h4⟩
  have D5 := DD.below h4
  have R4 := R3.below h4
  have K4 := b_step KK.out h4
  clear XX DD h4
  obtain ⟨c0, c1, c2, c3, c4, c5, f0, f1, f2, f3, f4, f5⟩ := D5.six
  go_wp2_with fail
  exact bodyPost_ret (results_ct rfl _ _ (w.heap.size + 1 + 1) 28 (c6 ⟨l, r, e, n, p, d⟩) _ rfl D5.store6 Try.underlying28 rfl (by kernel_rfl)) rfl ⟨_, rfl, (R4.far6 (by omega)).lower (by omega), b_store6 K4 (by omega)⟩
set_option maxHeartbeats 2000000 in
theorem recv_old7 {l r e n p d mn me x now : Int} {va ba : Option Addr} {vl vc bl bc : Nat} (hk : Ok ⟨l, r, e, n, p, d⟩) (m0 : 0 ≤ mn) (m1 : mn ≤ 1073741824) (me0 : 0 ≤ me) (me1 : me < e) (w : World) :
    Calls Try.prog 17 #[S6 ⟨l, r, e, n, p, d⟩, .int .i64 now, MV ⟨7, r, l, mn, me⟩ x (.slice va vl vc) (.slice ba bl bc)] w (Gave ⟨l, r, e, n, p, d⟩ [] w) := by
  have HC := Lib.hid (chk_ok hk)
  have e1 : e ≤ 1073741824 := hk.e1
  clear hk
  go_enter Try.func17, Try.ntmps17
  go_wp2_with fail
  refine (HC.out _).mono ?_
  rintro e0 w1 ⟨rfl, h1⟩
  have A1 := (((Blk.new w _ _).alloc _).alloc _).below h1
  have M1 := ((Blk.new (w.alloc _) _ _).alloc _).below h1
  have D1 := (Blk.new ((w.alloc _).alloc _) _ _).below h1
  simp only [World.size_alloc] at M1 D1
  have l1 := A1.lt
  have l2 := M1.lt
  have l3 := D1.lt
  have HK1 := Lib.hid (b_step (b_alloc (b_alloc (b_alloc (Below.refl _ _) _) _) _) h1)
  obtain ⟨c0, c1, c2, c3, c4, c5, f0, f1, f2, f3, f4, f5⟩ := A1.six
  obtain ⟨d0, d1, d2, d3, d4, d5, d6, d7⟩ := M1.eight
  have hmf' := hmf
  go_wp2_with (first | (go_at_call 33; refine (time_yes (by omega) _).mono ?_; rintro e w' ⟨rfl, rfl⟩))
  have XX := (Blk.new w1 #[.int .i64 l, .int .i64 r, .int .i64 e, .int .i64 n, .int .i64 p, .int .i64 d, .slice none 0 0] 70).alloc (.cells #[.func (Fn.func 34) #[.pointer (some ⟨w1.heap.size, 0, none⟩)] #[], .func (Fn.func 35) #[.pointer (some ⟨w1.heap.size, 0, none⟩)] #[], .func (Fn.func 36) #[.pointer (some ⟨w1.heap.size, 0, none⟩)] #[]] 76)
  have HH := Blk.new (w1.alloc (.cells #[.int .i64 l, .int .i64 r, .int .i64 e, .int .i64 n, .int .i64 p, .int .i64 d, .slice none 0 0] 70)) #[.func (Fn.func 34) #[.pointer (some ⟨w1.heap.size, 0, none⟩)] #[], .func (Fn.func 35) #[.pointer (some ⟨w1.heap.size, 0, none⟩)] #[], .func (Fn.func 36) #[.pointer (some ⟨w1.heap.size, 0, none⟩)] #[]] 76
  rw [World.size_alloc] at HH
  have MM := (M1.alloc (.cells #[.int .i64 l, .int .i64 r, .int .i64 e, .int .i64 n, .int .i64 p, .int .i64 d, .slice none 0 0] 70)).alloc (.cells #[.func (Fn.func 34) #[.pointer (some ⟨w1.heap.size, 0, none⟩)] #[], .func (Fn.func 35) #[.pointer (some ⟨w1.heap.size, 0, none⟩)] #[], .func (Fn.func 36) #[.pointer (some ⟨w1.heap.size, 0, none⟩)] #[]] 76)
  have DD := (D1.alloc (.cells #[.int .i64 l, .int .i64 r, .int .i64 e, .int .i64 n, .int .i64 p, .int .i64 d, .slice none 0 0] 70)).alloc (.cells #[.func (Fn.func 34) #[.pointer (some ⟨w1.heap.size, 0, none⟩)] #[], .func (Fn.func 35) #[.pointer (some ⟨w1.heap.size, 0, none⟩)] #[], .func (Fn.func 36) #[.pointer (some ⟨w1.heap.size, 0, none⟩)] #[]] 76)
  have KK := Lib.hid (b_alloc (b_alloc HK1.out (.cells #[.int .i64 l, .int .i64 r, .int .i64 e, .int .i64 n, .int .i64 p, .int .i64 d, .slice none 0 0] 70)) (.cells #[.func (Fn.func 34) #[.pointer (some ⟨w1.heap.size, 0, none⟩)] #[], .func (Fn.func 35) #[.pointer (some ⟨w1.heap.size, 0, none⟩)] #[], .func (Fn.func 36) #[.pointer (some ⟨w1.heap.size, 0, none⟩)] #[]] 76))
  have n1 : some (w1.heap.size + 1) ≠ some w1.heap.size := by simp
  have n2 : some (w.heap.size + 1) ≠ some w1.heap.size := by simp; omega
  have n3 : some (w.heap.size + 1 + 1) ≠ some w1.heap.size := by simp; omega
  clear A1 M1 D1 h1 c0 c1 c2 c3 c4 c5 f0 f1 f2 f3 f4 f5 d0 d1 d2 d3 d4 d5 d6 d7 hmf'
  have R3 := row_nil ((w1.alloc (.cells #[.int .i64 l, .int .i64 r, .int .i64 e, .int .i64 n, .int .i64 p, .int .i64 d, .slice none 0 0] 70)).alloc (.cells #[.func (Fn.func 34) #[.pointer (some ⟨w1.heap.size, 0, none⟩)] #[], .func (Fn.func 35) #[.pointer (some ⟨w1.heap.size, 0, none⟩)] #[], .func (Fn.func 36) #[.pointer (some ⟨w1.heap.size, 0, none⟩)] #[]] 76)) w1.heap.size
  refine (result_any _ ⟨l, r, e, n, p, d⟩ _ _ XX).mono ?_
  rintro e0 w4 ⟨rfl, h4⟩
  have D5 := DD.below h4
  have R4 := R3.below h4
  have K4 := b_step KK.out h4
  clear XX DD h4
  obtain ⟨c0, c1, c2, c3, c4, c5, f0, f1, f2, f3, f4, f5⟩ := D5.six
  go_wp2_with fail
  exact bodyPost_ret (results_ct rfl _ _ (w.heap.size + 1 + 1) 28 (c6 ⟨l, r, e, n, p, d⟩) _ rfl D5.store6 Try.underlying28 rfl (by kernel_rfl)) rfl ⟨_, rfl, (R4.far6 (by omega)).lower (by omega), b_store6 K4 (by omega)⟩
end Go.Proofs.Ytemljffppdjmgaa
