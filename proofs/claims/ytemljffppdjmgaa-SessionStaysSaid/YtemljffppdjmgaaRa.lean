/- Contracts of Receive. -/
import Derived.Test.YtemljffppdjmgaaP
import Derived.Deep.DeepCutAuto
import Derived.Laws.EntriesVeiled
namespace Go.Proofs.Ytemljffppdjmgaa
open Go.RowKit
abbrev c8 (m : Msg) (x : Int) (vs bs : Value) : Array Value := #[.int .i64 m.k, .int .i64 m.f, .int .i64 m.t, .int .i64 m.n, .int .i64 x, .int .i64 m.e, vs, bs]
/-- A message by value. -/
abbrev MV (m : Msg) (x : Int) (vs bs : Value) : Value := .agg (c8 m x vs bs)
theorem Blk.eight {w : World} {gg t : Nat} {a b c d e f g h : Value} (B : Blk w gg #[a, b, c, d, e, f, g, h] t) :
    w.cell? ⟨gg, 0, none⟩ = some a ∧ w.cell? ⟨gg, 1, none⟩ = some b ∧ w.cell? ⟨gg, 2, none⟩ = some c ∧ w.cell? ⟨gg, 3, none⟩ = some d ∧ w.cell? ⟨gg, 4, none⟩ = some e ∧ w.cell? ⟨gg, 5, none⟩ = some f ∧ w.cell? ⟨gg, 6, none⟩ = some g ∧ w.cell? ⟨gg, 7, none⟩ = some h :=
  ⟨B.cell 0, B.cell 1, B.cell 2, B.cell 3, B.cell 4, B.cell 5, B.cell 6, B.cell 7⟩
theorem cell_grown {w w1 : World} {a : Addr} {v : Value} {row : Option Nat} (h : w.cell? a = some v) (k : w.grownBy w1 row) (hne : some a.block ≠ row) : w1.cell? a = some v :=
  (World.cell?_of_block (k.block a.block (World.block_lt_of_cell? w a h) hne)).trans h
theorem hmf : ∀ (fn : Fn) (first cap : Array Value) (w : World), (Instr.makeFunc fn first cap).run Try.prog w = .ok (.func fn first cap) w := fun _ _ _ _ => rfl
set_option maxHeartbeats 2000000 in
theorem recv_eq0 {l r e n p d mn x now : Int} {va ba : Option Addr} {vl vc bl bc : Nat} {t : Ses} {ms : List Msg} (hk : Ok ⟨l, r, e, n, p, d⟩) (m0 : 0 ≤ mn) (m1 : mn ≤ 1073741824)
    (hm : ∀ (w : World) (g : Nat), Blk w g (c7 ⟨l, r, e, n, p, d⟩ (.slice none 0 0)) 70 → Calls Try.prog 34 #[.pointer (some ⟨g, 0, none⟩), .int .i64 mn] w (Acted g t ms w)) (w : World) :
    Calls Try.prog 17 #[S6 ⟨l, r, e, n, p, d⟩, .int .i64 now, MV ⟨5, r, l, mn, e⟩ x (.slice va vl vc) (.slice ba bl bc)] w (Gave t ms w) := by
  have HC := Lib.hid (chk_ok hk)
  have HM := Lib.hid hm
  have e0 := hk.e0
  have e1 := hk.e1
  clear hk hm
  go_enter Try.func17, Try.ntmps17
  go_wp2_with fail
  refine (HC.out _).mono ?_
  rintro e0 w1 ⟨rfl, h1⟩
  have A1 := (((Blk.new w _ _).alloc _).alloc _).below h1
  have M1 := ((Blk.new (w.alloc _) _ _).alloc _).below h1
  have D1 := (Blk.new ((w.alloc _).alloc _) _ _).below h1
  simp only [World.size_alloc] at M1 D1
  have l1 := A1.lt
  have l2 := M1.lt
  have l3 := D1.lt
  have HK1 := Lib.hid (b_step (b_alloc (b_alloc (b_alloc (Below.refl _ _) _) _) _) h1)
  obtain ⟨c0, c1, c2, c3, c4, c5, f0, f1, f2, f3, f4, f5⟩ := A1.six
  obtain ⟨d0, d1, d2, d3, d4, d5, d6, d7⟩ := M1.eight
  have hmf' := hmf
  go_wp2_with (go_at_call 33; refine (time_yes (by omega) _).mono ?_; rintro e w' ⟨rfl, rfl⟩)
  have XX := (Blk.new w1 #[.int .i64 l, .int .i64 r, .int .i64 e, .int .i64 n, .int .i64 p, .int .i64 d, .slice none 0 0] 70).alloc (.cells #[.func (Fn.func 34) #[.pointer (some ⟨w1.heap.size, 0, none⟩)] #[], .func (Fn.func 35) #[.pointer (some ⟨w1.heap.size, 0, none⟩)] #[], .func (Fn.func 36) #[.pointer (some ⟨w1.heap.size, 0, none⟩)] #[]] 76)
  have HH := Blk.new (w1.alloc (.cells #[.int .i64 l, .int .i64 r, .int .i64 e, .int .i64 n, .int .i64 p, .int .i64 d, .slice none 0 0] 70)) #[.func (Fn.func 34) #[.pointer (some ⟨w1.heap.size, 0, none⟩)] #[], .func (Fn.func 35) #[.pointer (some ⟨w1.heap.size, 0, none⟩)] #[], .func (Fn.func 36) #[.pointer (some ⟨w1.heap.size, 0, none⟩)] #[]] 76
  rw [World.size_alloc] at HH
  have MM := (M1.alloc (.cells #[.int .i64 l, .int .i64 r, .int .i64 e, .int .i64 n, .int .i64 p, .int .i64 d, .slice none 0 0] 70)).alloc (.cells #[.func (Fn.func 34) #[.pointer (some ⟨w1.heap.size, 0, none⟩)] #[], .func (Fn.func 35) #[.pointer (some ⟨w1.heap.size, 0, none⟩)] #[], .func (Fn.func 36) #[.pointer (some ⟨w1.heap.size, 0, none⟩)] #[]] 76)
  have DD := (D1.alloc (.cells #[.int .i64 l, .int .i64 r, .int .i64 e, .int .i64 n, .int .i64 p, .int .i64 d, .slice none 0 0] 70)).alloc (.cells #[.func (Fn.func 34) #[.pointer (some ⟨w1.heap.size, 0, none⟩)] #[], .func (Fn.func 35) #[.pointer (some ⟨w1.heap.size, 0, none⟩)] #[], .func (Fn.func 36) #[.pointer (some ⟨w1.heap.size, 0, none⟩)] #[]] 76)
  have KK := Lib.hid (b_alloc (b_alloc HK1.out (.cells #[.int .i64 l, .int .i64 r, .int .i64 e, .int .i64 n, .int .i64 p, .int .i64 d, .slice none 0 0] 70)) (.cells #[.func (Fn.func 34) #[.pointer (some ⟨w1.heap.size, 0, none⟩)] #[], .func (Fn.func 35) #[.pointer (some ⟨w1.heap.size, 0, none⟩)] #[], .func (Fn.func 36) #[.pointer (some ⟨w1.heap.size, 0, none⟩)] #[]] 76))
  have n1 : some (w1.heap.size + 1) ≠ some w1.heap.size := by simp
  have n2 : some (w.heap.size + 1) ≠ some w1.heap.size := by simp; omega
  have n3 : some (w.heap.size + 1 + 1) ≠ some w1.heap.size := by simp; omega
  have hbase : w1.heap.size ≤ ((w1.alloc (.cells #[.int .i64 l, .int .i64 r, .int .i64 e, .int .i64 n, .int .i64 p, .int .i64 d, .slice none 0 0] 70)).alloc (.cells #[.func (Fn.func 34) #[.pointer (some ⟨w1.heap.size, 0, none⟩)] #[], .func (Fn.func 35) #[.pointer (some ⟨w1.heap.size, 0, none⟩)] #[], .func (Fn.func 36) #[.pointer (some ⟨w1.heap.size, 0, none⟩)] #[]] 76)).drew.heap.size := by simp; omega
  clear A1 M1 D1 h1 c0 c1 c2 c3 c4 c5 f0 f1 f2 f3 f4 f5 d0 d1 d2 d3 d4 d5 d6 d7 hmf'
  have hc1 : ((w1.alloc (.cells #[.int .i64 l, .int .i64 r, .int .i64 e, .int .i64 n, .int .i64 p, .int .i64 d, .slice none 0 0] 70)).alloc (.cells #[.func (Fn.func 34) #[.pointer (some ⟨w1.heap.size, 0, none⟩)] #[], .func (Fn.func 35) #[.pointer (some ⟨w1.heap.size, 0, none⟩)] #[], .func (Fn.func 36) #[.pointer (some ⟨w1.heap.size, 0, none⟩)] #[]] 76)).drew.cell? ⟨w1.heap.size + 1, 0, none⟩ = some (.func (Fn.func 34) #[.pointer (some ⟨w1.heap.size, 0, none⟩)] #[]) := HH.drew.cell 0
  have hc2 : ((w1.alloc (.cells #[.int .i64 l, .int .i64 r, .int .i64 e, .int .i64 n, .int .i64 p, .int .i64 d, .slice none 0 0] 70)).alloc (.cells #[.func (Fn.func 34) #[.pointer (some ⟨w1.heap.size, 0, none⟩)] #[], .func (Fn.func 35) #[.pointer (some ⟨w1.heap.size, 0, none⟩)] #[], .func (Fn.func 36) #[.pointer (some ⟨w1.heap.size, 0, none⟩)] #[]] 76)).drew.cell? ⟨w.heap.size + 1, 3, none⟩ = some (.int .i64 mn) := MM.drew.cell 3
  clear HH MM
  go_region_held3 (fun w' => w'.cell? ⟨w1.heap.size + 1, 0, none⟩ = some (.func (Fn.func 34) #[.pointer (some ⟨w1.heap.size, 0, none⟩)] #[]) ∧ w'.cell? ⟨w.heap.size + 1, 3, none⟩ = some (.int .i64 mn))
    (first | with_reducible exact ⟨hc1, hc2⟩ | with_reducible exact ⟨cell_grown hc1 h2 n1, cell_grown hc2 h2 n2⟩)
    (first | (go_at_call 34; refine (HM.out _ _ XX.drew).mono ?_; rintro e w2 ⟨rfl, v, h2, X2, R2⟩))
  have D2 := DD.drew.grown h2 n3
  have K2 := b_grown (b_drew KK.out) h2 (fun j hj => by simp at hj; omega)
  have R3 := R2.lower hbase
  clear h2 R2
  go_wp2_with fail
  refine (result_any _ _ _ _ X2).mono ?_
  rintro e0 w4 ⟨rfl, h4⟩
  have D5 := D2.below h4
  have R4 := R3.below h4
  have K4 := b_step K2 h4
  clear D2 X2 h4 K2
  obtain ⟨c0, c1, c2, c3, c4, c5, f0, f1, f2, f3, f4, f5⟩ := D5.six
  go_wp2_with fail
  exact bodyPost_ret (results_ct rfl _ _ (w.heap.size + 1 + 1) 28 (c6 t) _ rfl D5.store6 Try.underlying28 rfl (by kernel_rfl)) rfl ⟨_, rfl, (R4.far6 (by omega)).lower (by omega), b_store6 K4 (by omega)⟩
set_option maxHeartbeats 2000000 in
theorem recv_eq1 {l r e n p d mn x now : Int} {va ba : Option Addr} {vl vc bl bc : Nat} {t : Ses} {ms : List Msg} (hk : Ok ⟨l, r, e, n, p, d⟩) (m0 : 0 ≤ mn) (m1 : mn ≤ 1073741824)
    (hm : ∀ (w : World) (g : Nat), Blk w g (c7 ⟨l, r, e, n, p, d⟩ (.slice none 0 0)) 70 → Calls Try.prog 35 #[.pointer (some ⟨g, 0, none⟩), .int .i64 mn] w (Acted g t ms w)) (w : World) :
    Calls Try.prog 17 #[S6 ⟨l, r, e, n, p, d⟩, .int .i64 now, MV ⟨6, r, l, mn, e⟩ x (.slice va vl vc) (.slice ba bl bc)] w (Gave t ms w) := by
  have HC := Lib.hid (chk_ok hk)
  have HM := Lib.hid hm
  have e0 := hk.e0
  have e1 := hk.e1
  clear hk hm
  go_enter Try.func17, Try.ntmps17
  go_wp2_with fail
  refine (HC.out _).mono ?_
  rintro e0 w1 ⟨rfl, h1⟩
  have A1 := (((Blk.new w _ _).alloc _).alloc _).below h1
  have M1 := ((Blk.new (w.alloc _) _ _).alloc _).below h1
  have D1 := (Blk.new ((w.alloc _).alloc _) _ _).below h1
  simp only [World.size_alloc] at M1 D1
  have l1 := A1.lt
  have l2 := M1.lt
  have l3 := D1.lt
  have HK1 := Lib.hid (b_step (b_alloc (b_alloc (b_alloc (Below.refl _ _) _) _) _) h1)
  obtain ⟨c0, c1, c2, c3, c4, c5, f0, f1, f2, f3, f4, f5⟩ := A1.six
  obtain ⟨d0, d1, d2, d3, d4, d5, d6, d7⟩ := M1.eight
  have hmf' := hmf
  go_wp2_with (go_at_call 33; refine (time_yes (by omega) _).mono ?_; rintro e w' ⟨rfl, rfl⟩)
  have XX := (Blk.new w1 #[.int .i64 l, .int .i64 r, .int .i64 e, .int .i64 n, .int .i64 p, .int .i64 d, .slice none 0 0] 70).alloc (.cells #[.func (Fn.func 34) #[.pointer (some ⟨w1.heap.size, 0, none⟩)] #[], .func (Fn.func 35) #[.pointer (some ⟨w1.heap.size, 0, none⟩)] #[], .func (Fn.func 36) #[.pointer (some ⟨w1.heap.size, 0, none⟩)] #[]] 76)
  have HH := Blk.new (w1.alloc (.cells #[.int .i64 l, .int .i64 r, .int .i64 e, .int .i64 n, .int .i64 p, .int .i64 d, .slice none 0 0] 70)) #[.func (Fn.func 34) #[.pointer (some ⟨w1.heap.size, 0, none⟩)] #[], .func (Fn.func 35) #[.pointer (some ⟨w1.heap.size, 0, none⟩)] #[], .func (Fn.func 36) #[.pointer (some ⟨w1.heap.size, 0, none⟩)] #[]] 76
  rw [World.size_alloc] at HH
  have MM := (M1.alloc (.cells #[.int .i64 l, .int .i64 r, .int .i64 e, .int .i64 n, .int .i64 p, .int .i64 d, .slice none 0 0] 70)).alloc (.cells #[.func (Fn.func 34) #[.pointer (some ⟨w1.heap.size, 0, none⟩)] #[], .func (Fn.func 35) #[.pointer (some ⟨w1.heap.size, 0, none⟩)] #[], .func (Fn.func 36) #[.pointer (some ⟨w1.heap.size, 0, none⟩)] #[]] 76)
  have DD := (D1.alloc (.cells #[.int .i64 l, .int .i64 r, .int .i64 e, .int .i64 n, .int .i64 p, .int .i64 d, .slice none 0 0] 70)).alloc (.cells #[.func (Fn.func 34) #[.pointer (some ⟨w1.heap.size, 0, none⟩)] #[], .func (Fn.func 35) #[.pointer (some ⟨w1.heap.size, 0, none⟩)] #[], .func (Fn.func 36) #[.pointer (some ⟨w1.heap.size, 0, none⟩)] #[]] 76)
  have KK := Lib.hid (b_alloc (b_alloc HK1.out (.cells #[.int .i64 l, .int .i64 r, .int .i64 e, .int .i64 n, .int .i64 p, .int .i64 d, .slice none 0 0] 70)) (.cells #[.func (Fn.func 34) #[.pointer (some ⟨w1.heap.size, 0, none⟩)] #[], .func (Fn.func 35) #[.pointer (some ⟨w1.heap.size, 0, none⟩)] #[], .func (Fn.func 36) #[.pointer (some ⟨w1.heap.size, 0, none⟩)] #[]] 76))
  have n1 : some (w1.heap.size + 1) ≠ some w1.heap.size := by simp
  have n2 : some (w.heap.size + 1) ≠ some w1.heap.size := by simp; omega
  have n3 : some (w.heap.size + 1 + 1) ≠ some w1.heap.size := by simp; omega
  have hbase : w1.heap.size ≤ ((w1.alloc (.cells #[.int .i64 l, .int .i64 r, .int .i64 e, .int .i64 n, .int .i64 p, .int .i64 d, .slice none 0 0] 70)).alloc (.cells #[.func (Fn.func 34) #[.pointer (some ⟨w1.heap.size, 0, none⟩)] #[], .func (Fn.func 35) #[.pointer (some ⟨w1.heap.size, 0, none⟩)] #[], .func (Fn.func 36) #[.pointer (some ⟨w1.heap.size, 0, none⟩)] #[]] 76)).drew.heap.size := by simp; omega
  clear A1 M1 D1 h1 c0 c1 c2 c3 c4 c5 f0 f1 f2 f3 f4 f5 d0 d1 d2 d3 d4 d5 d6 d7 hmf'
  have hc1 : ((w1.alloc (.cells #[.int .i64 l, .int .i64 r, .int .i64 e, .int .i64 n, .int .i64 p, .int .i64 d, .slice none 0 0] 70)).alloc (.cells #[.func (Fn.func 34) #[.pointer (some ⟨w1.heap.size, 0, none⟩)] #[], .func (Fn.func 35) #[.pointer (some ⟨w1.heap.size, 0, none⟩)] #[], .func (Fn.func 36) #[.pointer (some ⟨w1.heap.size, 0, none⟩)] #[]] 76)).drew.cell? ⟨w1.heap.size + 1, 1, none⟩ = some (.func (Fn.func 35) #[.pointer (some ⟨w1.heap.size, 0, none⟩)] #[]) := HH.drew.cell 1
  have hc2 : ((w1.alloc (.cells #[.int .i64 l, .int .i64 r, .int .i64 e, .int .i64 n, .int .i64 p, .int .i64 d, .slice none 0 0] 70)).alloc (.cells #[.func (Fn.func 34) #[.pointer (some ⟨w1.heap.size, 0, none⟩)] #[], .func (Fn.func 35) #[.pointer (some ⟨w1.heap.size, 0, none⟩)] #[], .func (Fn.func 36) #[.pointer (some ⟨w1.heap.size, 0, none⟩)] #[]] 76)).drew.cell? ⟨w.heap.size + 1, 3, none⟩ = some (.int .i64 mn) := MM.drew.cell 3
  clear HH MM
  go_region_held3 (fun w' => w'.cell? ⟨w1.heap.size + 1, 1, none⟩ = some (.func (Fn.func 35) #[.pointer (some ⟨w1.heap.size, 0, none⟩)] #[]) ∧ w'.cell? ⟨w.heap.size + 1, 3, none⟩ = some (.int .i64 mn))
    (first | with_reducible exact ⟨hc1, hc2⟩ | with_reducible exact ⟨cell_grown hc1 h2 n1, cell_grown hc2 h2 n2⟩)
    (first | (go_at_call 35; refine (HM.out _ _ XX.drew).mono ?_; rintro e w2 ⟨rfl, v, h2, X2, R2⟩))
  have D2 := DD.drew.grown h2 n3
  have K2 := b_grown (b_drew KK.out) h2 (fun j hj => by simp at hj; omega)
  have R3 := R2.lower hbase
  clear h2 R2
  go_wp2_with fail
  refine (result_any _ _ _ _ X2).mono ?_
  rintro e0 w4 ⟨rfl, h4⟩
  have D5 := D2.below h4
  have R4 := R3.below h4
  have K4 := b_step K2 h4
  clear D2 X2 h4 K2
  obtain ⟨c0, c1, c2, c3, c4, c5, f0, f1, f2, f3, f4, f5⟩ := D5.six
  go_wp2_with fail
  exact bodyPost_ret (results_ct rfl _ _ (w.heap.size + 1 + 1) 28 (c6 t) _ rfl D5.store6 Try.underlying28 rfl (by kernel_rfl)) rfl ⟨_, rfl, (R4.far6 (by omega)).lower (by omega), b_store6 K4 (by omega)⟩
set_option maxHeartbeats 2000000 in
theorem recv_eq2 {l r e n p d mn x now : Int} {va ba : Option Addr} {vl vc bl bc : Nat} {t : Ses} {ms : List Msg} (hk : Ok ⟨l, r, e, n, p, d⟩) (m0 : 0 ≤ mn) (m1 : mn ≤ 1073741824)
    (hm : ∀ (w : World) (g : Nat), Blk w g (c7 ⟨l, r, e, n, p, d⟩ (.slice none 0 0)) 70 → Calls Try.prog 36 #[.pointer (some ⟨g, 0, none⟩), .int .i64 mn] w (Acted g t ms w)) (w : World) :
    Calls Try.prog 17 #[S6 ⟨l, r, e, n, p, d⟩, .int .i64 now, MV ⟨7, r, l, mn, e⟩ x (.slice va vl vc) (.slice ba bl bc)] w (Gave t ms w) := by
  have HC := Lib.hid (chk_ok hk)
  have HM := Lib.hid hm
  have e0 := hk.e0
  have e1 := hk.e1
  clear hk hm
  go_enter Try.func17, Try.ntmps17
  go_wp2_with fail
  refine (HC.out _).mono ?_
  rintro e0 w1 ⟨rfl, h1⟩
  have A1 := (((Blk.new w _ _).alloc _).alloc _).below h1
  have M1 := ((Blk.new (w.alloc _) _ _).alloc _).below h1
  have D1 := (Blk.new ((w.alloc _).alloc _) _ _).below h1
  simp only [World.size_alloc] at M1 D1
  have l1 := A1.lt
  have l2 := M1.lt
  have l3 := D1.lt
  have HK1 := Lib.hid (b_step (b_alloc (b_alloc (b_alloc (Below.refl _ _) _) _) _) h1)
  obtain ⟨c0, c1, c2, c3, c4, c5, f0, f1, f2, f3, f4, f5⟩ := A1.six
  obtain ⟨d0, d1, d2, d3, d4, d5, d6, d7⟩ := M1.eight
  have hmf' := hmf
  go_wp2_with (go_at_call 33; refine (time_yes (by omega) _).mono ?_; rintro e w' ⟨rfl, rfl⟩)
  have XX := (Blk.new w1 #[.int .i64 l, .int .i64 r, .int .i64 e, .int .i64 n, .int .i64 p, .int .i64 d, .slice none 0 0] 70).alloc (.cells #[.func (Fn.func 34) #[.pointer (some ⟨w1.heap.size, 0, none⟩)] #[], .func (Fn.func 35) #[.pointer (some ⟨w1.heap.size, 0, none⟩)] #[], .func (Fn.func 36) #[.pointer (some ⟨w1.heap.size, 0, none⟩)] #[]] 76)
  have HH := Blk.new (w1.alloc (.cells #[.int .i64 l, .int .i64 r, .int .i64 e, .int .i64 n, .int .i64 p, .int .i64 d, .slice none 0 0] 70)) #[.func (Fn.func 34) #[.pointer (some ⟨w1.heap.size, 0, none⟩)] #[], .func (Fn.func 35) #[.pointer (some ⟨w1.heap.size, 0, none⟩)] #[], .func (Fn.func 36) #[.pointer (some ⟨w1.heap.size, 0, none⟩)] #[]] 76
  rw [World.size_alloc] at HH
  have MM := (M1.alloc (.cells #[.int .i64 l, .int .i64 r, .int .i64 e, .int .i64 n, .int .i64 p, .int .i64 d, .slice none 0 0] 70)).alloc (.cells #[.func (Fn.func 34) #[.pointer (some ⟨w1.heap.size, 0, none⟩)] #[], .func (Fn.func 35) #[.pointer (some ⟨w1.heap.size, 0, none⟩)] #[], .func (Fn.func 36) #[.pointer (some ⟨w1.heap.size, 0, none⟩)] #[]] 76)
  have DD := (D1.alloc (.cells #[.int .i64 l, .int .i64 r, .int .i64 e, .int .i64 n, .int .i64 p, .int .i64 d, .slice none 0 0] 70)).alloc (.cells #[.func (Fn.func 34) #[.pointer (some ⟨w1.heap.size, 0, none⟩)] #[], .func (Fn.func 35) #[.pointer (some ⟨w1.heap.size, 0, none⟩)] #[], .func (Fn.func 36) #[.pointer (some ⟨w1.heap.size, 0, none⟩)] #[]] 76)
  have KK := Lib.hid (b_alloc (b_alloc HK1.out (.cells #[.int .i64 l, .int .i64 r, .int .i64 e, .int .i64 n, .int .i64 p, .int .i64 d, .slice none 0 0] 70)) (.cells #[.func (Fn.func 34) #[.pointer (some ⟨w1.heap.size, 0, none⟩)] #[], .func (Fn.func 35) #[.pointer (some ⟨w1.heap.size, 0, none⟩)] #[], .func (Fn.func 36) #[.pointer (some ⟨w1.heap.size, 0, none⟩)] #[]] 76))
  have n1 : some (w1.heap.size + 1) ≠ some w1.heap.size := by simp
  have n2 : some (w.heap.size + 1) ≠ some w1.heap.size := by simp; omega
  have n3 : some (w.heap.size + 1 + 1) ≠ some w1.heap.size := by simp; omega
  have hbase : w1.heap.size ≤ ((w1.alloc (.cells #[.int .i64 l, .int .i64 r, .int .i64 e, .int .i64 n, .int .i64 p, .int .i64 d, .slice none 0 0] 70)).alloc (.cells #[.func (Fn.func 34) #[.pointer (some ⟨w1.heap.size, 0, none⟩)] #[], .func (Fn.func 35) #[.pointer (some ⟨w1.heap.size, 0, none⟩)] #[], .func (Fn.func 36) #[.pointer (some ⟨w1.heap.size, 0, none⟩)] #[]] 76)).drew.heap.size := by simp; omega
  clear A1 M1 D1 h1 c0 c1 c2 c3 c4 c5 f0 f1 f2 f3 f4 f5 d0 d1 d2 d3 d4 d5 d6 d7 hmf'
  have hc1 : ((w1.alloc (.cells #[.int .i64 l, .int .i64 r, .int .i64 e, .int .i64 n, .int .i64 p, .int .i64 d, .slice none 0 0] 70)).alloc (.cells #[.func (Fn.func 34) #[.pointer (some ⟨w1.heap.size, 0, none⟩)] #[], .func (Fn.func 35) #[.pointer (some ⟨w1.heap.size, 0, none⟩)] #[], .func (Fn.func 36) #[.pointer (some ⟨w1.heap.size, 0, none⟩)] #[]] 76)).drew.cell? ⟨w1.heap.size + 1, 2, none⟩ = some (.func (Fn.func 36) #[.pointer (some ⟨w1.heap.size, 0, none⟩)] #[]) := HH.drew.cell 2
  have hc2 : ((w1.alloc (.cells #[.int .i64 l, .int .i64 r, .int .i64 e, .int .i64 n, .int .i64 p, .int .i64 d, .slice none 0 0] 70)).alloc (.cells #[.func (Fn.func 34) #[.pointer (some ⟨w1.heap.size, 0, none⟩)] #[], .func (Fn.func 35) #[.pointer (some ⟨w1.heap.size, 0, none⟩)] #[], .func (Fn.func 36) #[.pointer (some ⟨w1.heap.size, 0, none⟩)] #[]] 76)).drew.cell? ⟨w.heap.size + 1, 3, none⟩ = some (.int .i64 mn) := MM.drew.cell 3
  clear HH MM
  go_region_held3 (fun w' => w'.cell? ⟨w1.heap.size + 1, 2, none⟩ = some (.func (Fn.func 36) #[.pointer (some ⟨w1.heap.size, 0, none⟩)] #[]) ∧ w'.cell? ⟨w.heap.size + 1, 3, none⟩ = some (.int .i64 mn))
    (first | with_reducible exact ⟨hc1, hc2⟩ | with_reducible exact ⟨cell_grown hc1 h2 n1, cell_grown hc2 h2 n2⟩)
    (first | (go_at_call 36; refine (HM.out _ _ XX.drew).mono ?_; rintro e w2 ⟨rfl, v, h2, X2, R2⟩))
  have D2 := DD.drew.grown h2 n3
  have K2 := b_grown (b_drew KK.out) h2 (fun j hj => by simp at hj; omega)
  have R3 := R2.lower hbase
  clear h2 R2
  go_wp2_with fail
  refine (result_any _ _ _ _ X2).mono ?_
  rintro e0 w4 ⟨rfl, h4⟩
  have D5 := D2.below h4
  have R4 := R3.below h4
  have K4 := b_step K2 h4
  clear D2 X2 h4 K2
  obtain ⟨c0, c1, c2, c3, c4, c5, f0, f1, f2, f3, f4, f5⟩ := D5.six
  go_wp2_with fail
  exact bodyPost_ret (results_ct rfl _ _ (w.heap.size + 1 + 1) 28 (c6 t) _ rfl D5.store6 Try.underlying28 rfl (by kernel_rfl)) rfl ⟨_, rfl, (R4.far6 (by omega)).lower (by omega), b_store6 K4 (by omega)⟩
end Go.Proofs.Ytemljffppdjmgaa
