/- Contracts of Close, Expire and Dial. -/
import Derived.Test.YtemljffppdjmgaaN
namespace Go.Proofs.Ytemljffppdjmgaa
open Go.RowKit
/-- What a function that returns a session and messages leaves. -/
def Gave (t : Ses) (ms : List Msg) (w : World) (e : Ending) (w' : World) : Prop :=
  ∃ v, e = .returned (.tuple #[S6 t, v]) ∧ Row w' w.heap.size v ms ∧ Below w.heap.size w w'
theorem Row.below {w w' : World} {base : Nat} {v : Value} {ms : List Msg} (h : Row w base v ms) (hb : Below w.heap.size w w') : Row w' base v ms := by
  refine ⟨own_move h.1 fun k hk => ?_, h.2⟩
  have hlt : k < w.heap.size := by
    rcases h.1.2 with ⟨h1, _⟩ | ⟨g', cap, cur, h1, h2, h3, _⟩
    · rw [h1] at hk
      simp [Value.ownBlock] at hk
    · rw [h1] at hk
      simp [Value.ownBlock] at hk
      subst hk
      exact (Array.getElem?_eq_some_iff.1 h3).1
  exact hb.block k hlt
theorem Row.far6 {w : World} {base g : Nat} {v a b c d e f : Value} {ms : List Msg} (h : Row w base v ms) (hg : g < base) :
    Row ((((((w.setCell ⟨g, 0, none⟩ a).setCell ⟨g, 1, none⟩ b).setCell ⟨g, 2, none⟩ c).setCell ⟨g, 3, none⟩ d).setCell ⟨g, 4, none⟩ e).setCell ⟨g, 5, none⟩ f) base v ms :=
  (((((h.far hg).far hg).far hg).far hg).far hg).far hg
theorem deadline_yes {a b : Int} (h1 : 0 ≤ a) (h2 : a ≤ 1073741824) (h3 : 0 ≤ b) (h4 : b ≤ 1073741824) (h5 : a + b ≤ 1073741824) (w : World) :
    Calls Try.prog 32 #[.int .i64 a, .int .i64 b] w fun e w' => e = .returned (.tuple #[.int .i64 (a + b), .bool true]) ∧ w = w' := by
  go_enter Try.func32, Try.ntmps32
  go_wp2_with (go_at_call 33; refine (time_yes (by omega) _).mono ?_; rintro e w' ⟨rfl, rfl⟩)
  go_ret2
  exact ⟨rfl, rfl⟩
/-- No deadline. -/
def NoDead (w : World) (e : Ending) (w' : World) : Prop := ∃ x, e = .returned (.tuple #[.int .i64 x, .bool false]) ∧ w = w'
theorem deadline_no {a b : Int} (h : ¬ (0 ≤ a ∧ a ≤ 1073741824 ∧ 0 ≤ b ∧ b ≤ 1073741824 ∧ a + b ≤ 1073741824)) (w : World) :
    Calls Try.prog 32 #[.int .i64 a, .int .i64 b] w (NoDead w) := by
  by_cases ha : 0 ≤ a ∧ a ≤ 1073741824
  · by_cases hb : 0 ≤ b ∧ b ≤ 1073741824
    · have hs : ¬ (0 ≤ a + b ∧ a + b ≤ 1073741824) := by omega
      have HS := Lib.hid hs
      clear hs h
      obtain ⟨a0, a1⟩ := ha
      obtain ⟨b0, b1⟩ := hb
      go_enter Try.func32, Try.ntmps32
      go_wp2_with (go_at_call 33; (first | (with_reducible refine (time_no HS.out _).mono ?_) | refine (time_yes (by omega) _).mono ?_); rintro e w' ⟨rfl, rfl⟩)
      go_ret2
      exact ⟨_, rfl, rfl⟩
    · have HB := Lib.hid hb
      clear hb h
      obtain ⟨a0, a1⟩ := ha
      go_enter Try.func32, Try.ntmps32
      go_wp2_with (go_at_call 33; (first | (with_reducible refine (time_no HB.out _).mono ?_) | refine (time_yes (by omega) _).mono ?_); rintro e w' ⟨rfl, rfl⟩)
      go_ret2
      exact ⟨_, rfl, rfl⟩
  · have HA := Lib.hid ha
    clear ha h
    go_enter Try.func32, Try.ntmps32
    go_wp2_with (go_at_call 33; (with_reducible refine (time_no HA.out _).mono ?_); rintro e w' ⟨rfl, rfl⟩)
    go_ret2
    exact ⟨_, rfl, rfl⟩
set_option maxHeartbeats 1000000 in
theorem close_some {s : Ses} (h : Ok s) (hp : s.p ≠ 0) (w : World) :
    Calls Try.prog 13 #[S6 s] w (Gave { s with p := 0, d := 0 } [⟨7, s.l, s.r, s.n, s.e⟩] w) := by
  have hc := chk_ok h
  have HC := Lib.hid hc
  clear hc h
  have hp' : (s.p == 0) = false := beq_eq_false_iff_ne.2 hp
  clear hp
  obtain ⟨l, r, e, n, p, d⟩ := s
  go_enter Try.func13, Try.ntmps13
  go_wp2_with fail
  refine (HC.out _).mono ?_
  rintro e0 w1 ⟨rfl, h1⟩
  have A1 := ((Blk.new w _ _).alloc _).below h1
  have D1 := (Blk.new (w.alloc _) _ _).below h1
  simp only [World.size_alloc] at D1
  have l1 := A1.lt
  have l2 := D1.lt
  obtain ⟨c0, c1, c2, c3, c4, c5, f0, f1, f2, f3, f4, f5⟩ := A1.six
  obtain ⟨d0, d1, d2, d3, d4, d5, e0, e1, e2, e3, e4, e5⟩ := D1.six
  go_wp2_with fail
  have HK := Lib.hid (b_alloc (b_step (b_alloc (b_alloc (Below.refl _ _) _) _) h1) (.cells #[.int .i64 l, .int .i64 r, .int .i64 e, .int .i64 n, .int .i64 p, .int .i64 d, .slice none 0 0] 70))
  have hz := h1.size
  simp only [World.size_alloc] at hz
  have X1 := Blk.new w1 (c7 ⟨l, r, e, n, p, d⟩ (.slice none 0 0)) 70
  have D2 := D1.alloc (.cells #[.int .i64 l, .int .i64 r, .int .i64 e, .int .i64 n, .int .i64 p, .int .i64 d, .slice none 0 0] 70)
  clear A1 D1 h1 c0 c1 c2 c3 c4 c5 f0 f1 f2 f3 f4 f5 d0 d1 d2 d3 d4 d5 e0 e1 e2 e3 e4 e5
  refine (become_any _ _ _ 0 _ X1).mono ?_
  rintro e0 w2 ⟨rfl, h2, X2⟩
  have K2 := b_grown HK.out h2 (fun j hj => by simp at hj; omega)
  have D3 := D2.grown h2 (by simp; omega)
  go_wp2_with fail
  refine (send_any _ _ 7 _ X2).mono ?_
  rintro e0 w3 ⟨rfl, v, h3, X3, R3⟩
  have K3 := b_grown K2 h3 (fun j hj => by simp at hj; omega)
  have D4 := D3.grown h3 (by simp; omega)
  go_wp2_with fail
  refine (result_any _ _ _ _ X3).mono ?_
  rintro e0 w4 ⟨rfl, h4⟩
  have D5 := D4.below h4
  have R4 := R3.below h4
  have K4 := b_step K3 h4
  have z2 := h2.size
  simp only [World.size_alloc] at z2
  clear D2 D3 D4 X1 X2 X3 h2 h3 h4
  obtain ⟨c0, c1, c2, c3, c4, c5, f0, f1, f2, f3, f4, f5⟩ := D5.six
  go_wp2_with fail
  exact bodyPost_ret (results_ct rfl _ _ (w.heap.size + 1) 28 (c6 ⟨l, r, e, n, 0, 0⟩) _ rfl D5.store6 Try.underlying28 rfl (by kernel_rfl)) rfl ⟨v, rfl, (R4.far6 (by omega)).lower (by omega), b_store6 K4 (by omega)⟩
theorem chk_no {s : Ses} (h : ¬ Ok s) : ∃ c : Int, (c != 0) = true ∧ (c == 0) = false ∧ chk s = c :=
  ⟨chk s, bne_iff_ne.2 fun e => h (chk_zero.1 e), beq_eq_false_iff_ne.2 fun e => h (chk_zero.1 e), rfl⟩
theorem chk_c {s : Ses} {c : Int} (h : chk s = c) (w : World) : Calls Try.prog 22 #[S6 s] w fun e w' => e = .returned (.int .i64 c) ∧ Below w.heap.size w w' := h ▸ chk_any s w
set_option maxHeartbeats 1000000 in
theorem close_same {s : Ses} (h : ¬ Ok s ∨ s.p = 0) (w : World) : Calls Try.prog 13 #[S6 s] w (Gave s [] w) := by
  by_cases hk : Ok s
  · have hp : s.p = 0 := by
      rcases h with h | h
      · exact absurd hk h
      · exact h
    have hp' : (s.p == 0) = true := beq_iff_eq.2 hp
    clear h hp
    have HC := Lib.hid (chk_ok hk)
    clear hk
    obtain ⟨l, r, e, n, p, d⟩ := s
    go_enter Try.func13, Try.ntmps13
    go_wp2_with fail
    refine (HC.out _).mono ?_
    rintro e0 w1 ⟨rfl, h1⟩
    have A1 := ((Blk.new w _ _).alloc _).below h1
    have D1 := (Blk.new (w.alloc _) _ _).below h1
    simp only [World.size_alloc] at D1
    have l1 := A1.lt
    have l2 := D1.lt
    obtain ⟨c0, c1, c2, c3, c4, c5, f0, f1, f2, f3, f4, f5⟩ := A1.six
    obtain ⟨d0, d1, d2, d3, d4, d5, e0, e1, e2, e3, e4, e5⟩ := D1.six
    go_wp2_with fail
    exact bodyPost_ret (results_ct rfl _ _ (w.heap.size + 1) 28 (c6 ⟨l, r, e, n, p, d⟩) _ rfl D1.store6 Try.underlying28 rfl (by kernel_rfl)) rfl ⟨_, rfl, row_nil _ _, b_store6 (b_step (b_alloc (b_alloc (Below.refl _ _) _) _) h1) (by omega)⟩
  · obtain ⟨c, hc, _, hz⟩ := chk_no hk
    have HC := Lib.hid (fun w => chk_c hz w)
    clear h hk hz
    obtain ⟨l, r, e, n, p, d⟩ := s
    go_enter Try.func13, Try.ntmps13
    go_wp2_with fail
    refine (HC.out _).mono ?_
    rintro e0 w1 ⟨rfl, h1⟩
    have A1 := ((Blk.new w _ _).alloc _).below h1
    have D1 := (Blk.new (w.alloc _) _ _).below h1
    simp only [World.size_alloc] at D1
    have l1 := A1.lt
    have l2 := D1.lt
    obtain ⟨c0, c1, c2, c3, c4, c5, f0, f1, f2, f3, f4, f5⟩ := A1.six
    obtain ⟨d0, d1, d2, d3, d4, d5, e0, e1, e2, e3, e4, e5⟩ := D1.six
    go_wp2_with fail
    exact bodyPost_ret (results_ct rfl _ _ (w.heap.size + 1) 28 (c6 ⟨l, r, e, n, p, d⟩) _ rfl D1.store6 Try.underlying28 rfl (by kernel_rfl)) rfl ⟨_, rfl, row_nil _ _, b_store6 (b_step (b_alloc (b_alloc (Below.refl _ _) _) _) h1) (by omega)⟩
/-- Whether a deadline can be set. -/
def InTime (a b : Int) : Prop := 0 ≤ a ∧ a ≤ 1073741824 ∧ 0 ≤ b ∧ b ≤ 1073741824 ∧ a + b ≤ 1073741824
set_option maxHeartbeats 1000000 in
theorem expire_same {s : Ses} {a b : Int} (h : ¬ Ok s ∨ s.p ≠ 1 ∨ a < s.d) (w : World) : Calls Try.prog 26 #[S6 s, .int .i64 a, .int .i64 b] w (Gave s [] w) := by
  by_cases hk : Ok s
  · have HC := Lib.hid (chk_ok hk)
    by_cases hp : s.p = 1
    · have hd : a < s.d := by
        rcases h with h | h | h
        · exact absurd hk h
        · exact absurd hp h
        · exact h
      have hp' : (s.p != 1) = false := bne_eq_false_iff_eq.2 hp
      clear h hp hk
      obtain ⟨l, r, e, n, p, d⟩ := s
      go_enter Try.func26, Try.ntmps26
      go_wp2_with fail
      refine (HC.out _).mono ?_
      rintro e0 w1 ⟨rfl, h1⟩
      have A1 := ((Blk.new w _ _).alloc _).below h1
      have D1 := (Blk.new (w.alloc _) _ _).below h1
      simp only [World.size_alloc] at D1
      have l1 := A1.lt
      have l2 := D1.lt
      obtain ⟨c0, c1, c2, c3, c4, c5, f0, f1, f2, f3, f4, f5⟩ := A1.six
      obtain ⟨d0, d1, d2, d3, d4, d5, e0, e1, e2, e3, e4, e5⟩ := D1.six
      go_wp2_with fail
      exact bodyPost_ret (results_ct rfl _ _ (w.heap.size + 1) 28 (c6 ⟨l, r, e, n, p, d⟩) _ rfl D1.store6 Try.underlying28 rfl (by kernel_rfl)) rfl ⟨_, rfl, row_nil _ _, b_store6 (b_step (b_alloc (b_alloc (Below.refl _ _) _) _) h1) (by omega)⟩
    · have hp' : (s.p != 1) = true := bne_iff_ne.2 hp
      clear h hp hk
      obtain ⟨l, r, e, n, p, d⟩ := s
      go_enter Try.func26, Try.ntmps26
      go_wp2_with fail
      refine (HC.out _).mono ?_
      rintro e0 w1 ⟨rfl, h1⟩
      have A1 := ((Blk.new w _ _).alloc _).below h1
      have D1 := (Blk.new (w.alloc _) _ _).below h1
      simp only [World.size_alloc] at D1
      have l1 := A1.lt
      have l2 := D1.lt
      obtain ⟨c0, c1, c2, c3, c4, c5, f0, f1, f2, f3, f4, f5⟩ := A1.six
      obtain ⟨d0, d1, d2, d3, d4, d5, e0, e1, e2, e3, e4, e5⟩ := D1.six
      go_wp2_with fail
      exact bodyPost_ret (results_ct rfl _ _ (w.heap.size + 1) 28 (c6 ⟨l, r, e, n, p, d⟩) _ rfl D1.store6 Try.underlying28 rfl (by kernel_rfl)) rfl ⟨_, rfl, row_nil _ _, b_store6 (b_step (b_alloc (b_alloc (Below.refl _ _) _) _) h1) (by omega)⟩
  · obtain ⟨c, hc, _, hz⟩ := chk_no hk
    have HC := Lib.hid (fun w => chk_c hz w)
    clear h hk hz
    obtain ⟨l, r, e, n, p, d⟩ := s
    go_enter Try.func26, Try.ntmps26
    go_wp2_with fail
    refine (HC.out _).mono ?_
    rintro e0 w1 ⟨rfl, h1⟩
    have A1 := ((Blk.new w _ _).alloc _).below h1
    have D1 := (Blk.new (w.alloc _) _ _).below h1
    simp only [World.size_alloc] at D1
    have l1 := A1.lt
    have l2 := D1.lt
    obtain ⟨c0, c1, c2, c3, c4, c5, f0, f1, f2, f3, f4, f5⟩ := A1.six
    obtain ⟨d0, d1, d2, d3, d4, d5, e0, e1, e2, e3, e4, e5⟩ := D1.six
    go_wp2_with fail
    exact bodyPost_ret (results_ct rfl _ _ (w.heap.size + 1) 28 (c6 ⟨l, r, e, n, p, d⟩) _ rfl D1.store6 Try.underlying28 rfl (by kernel_rfl)) rfl ⟨_, rfl, row_nil _ _, b_store6 (b_step (b_alloc (b_alloc (Below.refl _ _) _) _) h1) (by omega)⟩
set_option maxHeartbeats 1000000 in
theorem expire_hello {s : Ses} {a b : Int} (hk : Ok s) (hp : s.p = 1) (hd : s.d ≤ a) (ht : InTime a b) (w : World) :
    Calls Try.prog 26 #[S6 s, .int .i64 a, .int .i64 b] w (Gave { s with d := a + b } [⟨5, s.l, s.r, s.n, s.e⟩] w) := by
  have HC := Lib.hid (chk_ok hk)
  have hp' : (s.p != 1) = false := bne_eq_false_iff_eq.2 hp
  obtain ⟨t1, t2, t3, t4, t5⟩ := ht
  clear hk hp
  obtain ⟨l, r, e, n, p, d⟩ := s
  go_enter Try.func26, Try.ntmps26
  go_wp2_with fail
  refine (HC.out _).mono ?_
  rintro e0 w1 ⟨rfl, h1⟩
  have A1 := ((Blk.new w _ _).alloc _).below h1
  have D1 := (Blk.new (w.alloc _) _ _).below h1
  simp only [World.size_alloc] at D1
  have l1 := A1.lt
  have l2 := D1.lt
  obtain ⟨c0, c1, c2, c3, c4, c5, f0, f1, f2, f3, f4, f5⟩ := A1.six
  obtain ⟨d0, d1, d2, d3, d4, d5, e0, e1, e2, e3, e4, e5⟩ := D1.six
  go_wp2_with fail
  refine (deadline_yes t1 t2 t3 t4 t5 _).mono ?_
  rintro e0 w2 ⟨rfl, rfl⟩
  go_wp2_with fail
  have HK := Lib.hid (b_alloc (b_step (b_alloc (b_alloc (Below.refl _ _) _) _) h1) (.cells #[.int .i64 l, .int .i64 r, .int .i64 e, .int .i64 n, .int .i64 p, .int .i64 (a + b), .slice none 0 0] 70))
  have hz := h1.size
  simp only [World.size_alloc] at hz
  have X1 := Blk.new w1 (c7 ⟨l, r, e, n, p, (a + b)⟩ (.slice none 0 0)) 70
  have D2 := D1.alloc (.cells #[.int .i64 l, .int .i64 r, .int .i64 e, .int .i64 n, .int .i64 p, .int .i64 (a + b), .slice none 0 0] 70)
  clear A1 D1 h1 c0 c1 c2 c3 c4 c5 f0 f1 f2 f3 f4 f5 d0 d1 d2 d3 d4 d5 e0 e1 e2 e3 e4 e5
  refine (send_any _ _ 5 _ X1).mono ?_
  rintro e0 w3 ⟨rfl, v, h3, X3, R3⟩
  have K3 := b_grown HK.out h3 (fun j hj => by simp at hj; omega)
  have D3 := D2.grown h3 (by simp; omega)
  have R3' := R3
  rw [World.size_alloc] at R3'
  go_wp2_with fail
  refine (result_any _ _ _ _ X3).mono ?_
  rintro e0 w4 ⟨rfl, h4⟩
  have D5 := D3.below h4
  have R4 := R3'.below h4
  have K4 := b_step K3 h4
  clear D3 X1 X3 h3 h4
  obtain ⟨c0, c1, c2, c3, c4, c5, f0, f1, f2, f3, f4, f5⟩ := D5.six
  go_wp2_with fail
  exact bodyPost_ret (results_ct rfl _ _ (w.heap.size + 1) 28 (c6 ⟨l, r, e, n, p, a + b⟩) _ rfl D5.store6 Try.underlying28 rfl (by kernel_rfl)) rfl ⟨_, rfl, (R4.far6 (by omega)).lower (by omega), b_store6 K4 (by omega)⟩
set_option maxHeartbeats 1000000 in
theorem expire_close {s : Ses} {a b : Int} (hk : Ok s) (hp : s.p = 1) (hd : s.d ≤ a) (ht : ¬ InTime a b) (w : World) :
    Calls Try.prog 26 #[S6 s, .int .i64 a, .int .i64 b] w (Gave { s with p := 0, d := 0 } [] w) := by
  have HC := Lib.hid (chk_ok hk)
  have hp' : (s.p != 1) = false := bne_eq_false_iff_eq.2 hp
  have HT := Lib.hid (deadline_no ht)
  clear hk hp ht
  obtain ⟨l, r, e, n, p, d⟩ := s
  go_enter Try.func26, Try.ntmps26
  go_wp2_with fail
  refine (HC.out _).mono ?_
  rintro e0 w1 ⟨rfl, h1⟩
  have A1 := ((Blk.new w _ _).alloc _).below h1
  have D1 := (Blk.new (w.alloc _) _ _).below h1
  simp only [World.size_alloc] at D1
  have l1 := A1.lt
  have l2 := D1.lt
  obtain ⟨c0, c1, c2, c3, c4, c5, f0, f1, f2, f3, f4, f5⟩ := A1.six
  obtain ⟨d0, d1, d2, d3, d4, d5, e0, e1, e2, e3, e4, e5⟩ := D1.six
  go_wp2_with fail
  refine (HT.out _).mono ?_
  rintro e0 w2 ⟨x, rfl, rfl⟩
  go_wp2_with fail
  have HK := Lib.hid (b_alloc (b_step (b_alloc (b_alloc (Below.refl _ _) _) _) h1) (.cells #[.int .i64 l, .int .i64 r, .int .i64 e, .int .i64 n, .int .i64 p, .int .i64 d, .slice none 0 0] 70))
  have hz := h1.size
  simp only [World.size_alloc] at hz
  have X1 := Blk.new w1 (c7 ⟨l, r, e, n, p, d⟩ (.slice none 0 0)) 70
  have D2 := D1.alloc (.cells #[.int .i64 l, .int .i64 r, .int .i64 e, .int .i64 n, .int .i64 p, .int .i64 d, .slice none 0 0] 70)
  clear A1 D1 h1 c0 c1 c2 c3 c4 c5 f0 f1 f2 f3 f4 f5 d0 d1 d2 d3 d4 d5 e0 e1 e2 e3 e4 e5
  refine (become_any _ _ _ 0 _ X1).mono ?_
  rintro e0 w3 ⟨rfl, h3, X3⟩
  have K3 := b_grown HK.out h3 (fun j hj => by simp at hj; omega)
  have D3 := D2.grown h3 (by simp; omega)
  have R3 := row_nil w3 (w1.heap.size + 1)
  go_wp2_with fail
  refine (result_any _ _ _ _ X3).mono ?_
  rintro e0 w4 ⟨rfl, h4⟩
  have D5 := D3.below h4
  have R4 := R3.below h4
  have K4 := b_step K3 h4
  clear D3 X1 X3 h3 h4
  obtain ⟨c0, c1, c2, c3, c4, c5, f0, f1, f2, f3, f4, f5⟩ := D5.six
  go_wp2_with fail
  exact bodyPost_ret (results_ct rfl _ _ (w.heap.size + 1) 28 (c6 ⟨l, r, e, n, 0, 0⟩) _ rfl D5.store6 Try.underlying28 rfl (by kernel_rfl)) rfl ⟨_, rfl, (R4.far6 (by omega)).lower (by omega), b_store6 K4 (by omega)⟩
theorem Blk.far6 {w : World} {g g' t : Nat} {cs : Array Value} {a b c d e f : Value} (h : Blk w g cs t) (hne : g ≠ g') :
    Blk ((((((w.setCell ⟨g', 0, none⟩ a).setCell ⟨g', 1, none⟩ b).setCell ⟨g', 2, none⟩ c).setCell ⟨g', 3, none⟩ d).setCell ⟨g', 4, none⟩ e).setCell ⟨g', 5, none⟩ f) g cs t :=
  (((((h.far hne a).far hne b).far hne c).far hne d).far hne e).far hne f
theorem Row.drew {w : World} {base : Nat} {v : Value} {ms : List Msg} (h : Row w base v ms) : Row w.drew base v ms := h
/-- What Dial leaves. -/
def Dialled (t : Ses) (ms : List Msg) (c : Int) (w : World) (e : Ending) (w' : World) : Prop :=
  ∃ v, e = .returned (.tuple #[S6 t, v, .int .i64 c]) ∧ Row w' w.heap.size v ms ∧ Below w.heap.size w w'
abbrev zS : Ses := ⟨0, 0, 0, 0, 0, 0⟩
set_option maxHeartbeats 1000000 in
theorem dial_no {s : Ses} {a b : Int} (hk : ¬ Ok s) (w : World) : Calls Try.prog 14 #[S6 s, .int .i64 a, .int .i64 b] w (Dialled zS [] (chk s) w) := by
  obtain ⟨c, hc, _, hz⟩ := chk_no hk
  have HC := Lib.hid (fun w => chk_c hz w)
  rw [hz]
  clear hk hz
  obtain ⟨l, r, e, n, p, d⟩ := s
  go_enter Try.func14, Try.ntmps14
  go_wp2_with fail
  refine (HC.out _).mono ?_
  rintro e0 w1 ⟨rfl, h1⟩
  have A1 := ((Blk.new w _ _).alloc _).below h1
  have D1 := (Blk.new (w.alloc _) _ _).below h1
  simp only [World.size_alloc] at D1
  have l1 := A1.lt
  have l2 := D1.lt
  obtain ⟨c0, c1, c2, c3, c4, c5, f0, f1, f2, f3, f4, f5⟩ := A1.six
  obtain ⟨d0, d1, d2, d3, d4, d5, e0, e1, e2, e3, e4, e5⟩ := D1.six
  go_wp2_with fail
  exact bodyPost_ret (results_ctt rfl _ _ (w.heap.size + 1) 28 (c6 zS) _ rfl D1.store6 Try.underlying28 rfl (by kernel_rfl)) rfl ⟨_, rfl, row_nil _ _, b_store6 (b_step (b_alloc (b_alloc (Below.refl _ _) _) _) h1) (by omega)⟩
set_option maxHeartbeats 1000000 in
theorem dial_busy {s : Ses} {a b : Int} (hk : Ok s) (hp : s.p ≠ 0) (w : World) : Calls Try.prog 14 #[S6 s, .int .i64 a, .int .i64 b] w (Dialled zS [] 26 w) := by
  have HC := Lib.hid (chk_ok hk)
  have hp' : (s.p != 0) = true := bne_iff_ne.2 hp
  clear hk hp
  by_cases ht : InTime a b
  · obtain ⟨t1, t2, t3, t4, t5⟩ := ht
    obtain ⟨l, r, e, n, p, d⟩ := s
    go_enter Try.func14, Try.ntmps14
    go_wp2_with fail
    refine (HC.out _).mono ?_
    rintro e0 w1 ⟨rfl, h1⟩
    have A1 := ((Blk.new w _ _).alloc _).below h1
    have D1 := (Blk.new (w.alloc _) _ _).below h1
    simp only [World.size_alloc] at D1
    have l1 := A1.lt
    have l2 := D1.lt
    obtain ⟨c0, c1, c2, c3, c4, c5, f0, f1, f2, f3, f4, f5⟩ := A1.six
    obtain ⟨d0, d1, d2, d3, d4, d5, e0, e1, e2, e3, e4, e5⟩ := D1.six
    go_wp2_with fail
    refine (deadline_yes t1 t2 t3 t4 t5 _).mono ?_
    rintro e0 w2 ⟨rfl, rfl⟩
    go_wp2_with fail
    exact bodyPost_ret (results_ctt rfl _ _ (w.heap.size + 1) 28 (c6 zS) _ rfl D1.store6 Try.underlying28 rfl (by kernel_rfl)) rfl ⟨_, rfl, row_nil _ _, b_store6 (b_step (b_alloc (b_alloc (Below.refl _ _) _) _) h1) (by omega)⟩
  · have HT := Lib.hid (deadline_no ht)
    clear ht
    obtain ⟨l, r, e, n, p, d⟩ := s
    go_enter Try.func14, Try.ntmps14
    go_wp2_with fail
    refine (HC.out _).mono ?_
    rintro e0 w1 ⟨rfl, h1⟩
    have A1 := ((Blk.new w _ _).alloc _).below h1
    have D1 := (Blk.new (w.alloc _) _ _).below h1
    simp only [World.size_alloc] at D1
    have l1 := A1.lt
    have l2 := D1.lt
    obtain ⟨c0, c1, c2, c3, c4, c5, f0, f1, f2, f3, f4, f5⟩ := A1.six
    obtain ⟨d0, d1, d2, d3, d4, d5, e0, e1, e2, e3, e4, e5⟩ := D1.six
    go_wp2_with fail
    refine (HT.out _).mono ?_
    rintro e0 w2 ⟨x, rfl, rfl⟩
    go_wp2_with fail
    exact bodyPost_ret (results_ctt rfl _ _ (w.heap.size + 1) 28 (c6 zS) _ rfl D1.store6 Try.underlying28 rfl (by kernel_rfl)) rfl ⟨_, rfl, row_nil _ _, b_store6 (b_step (b_alloc (b_alloc (Below.refl _ _) _) _) h1) (by omega)⟩
set_option maxHeartbeats 1000000 in
theorem dial_late {s : Ses} {a b : Int} (hk : Ok s) (hp : s.p = 0) (ht : ¬ InTime a b) (w : World) : Calls Try.prog 14 #[S6 s, .int .i64 a, .int .i64 b] w (Dialled zS [] 24 w) := by
  have HC := Lib.hid (chk_ok hk)
  have hp' : (s.p != 0) = false := bne_eq_false_iff_eq.2 hp
  have HT := Lib.hid (deadline_no ht)
  clear hk hp ht
  obtain ⟨l, r, e, n, p, d⟩ := s
  go_enter Try.func14, Try.ntmps14
  go_wp2_with fail
  refine (HC.out _).mono ?_
  rintro e0 w1 ⟨rfl, h1⟩
  have A1 := ((Blk.new w _ _).alloc _).below h1
  have D1 := (Blk.new (w.alloc _) _ _).below h1
  simp only [World.size_alloc] at D1
  have l1 := A1.lt
  have l2 := D1.lt
  obtain ⟨c0, c1, c2, c3, c4, c5, f0, f1, f2, f3, f4, f5⟩ := A1.six
  obtain ⟨d0, d1, d2, d3, d4, d5, e0, e1, e2, e3, e4, e5⟩ := D1.six
  go_wp2_with fail
  refine (HT.out _).mono ?_
  rintro e0 w2 ⟨x, rfl, rfl⟩
  go_wp2_with fail
  exact bodyPost_ret (results_ctt rfl _ _ (w.heap.size + 1) 28 (c6 zS) _ rfl D1.store6 Try.underlying28 rfl (by kernel_rfl)) rfl ⟨_, rfl, row_nil _ _, b_store6 (b_step (b_alloc (b_alloc (Below.refl _ _) _) _) h1) (by omega)⟩
set_option maxHeartbeats 1000000 in
theorem dial_full {s : Ses} {a b : Int} (hk : Ok s) (hp : s.p = 0) (ht : InTime a b) (hn : s.n = 1073741824) (w : World) : Calls Try.prog 14 #[S6 s, .int .i64 a, .int .i64 b] w (Dialled zS [] 11 w) := by
  have HC := Lib.hid (chk_ok hk)
  have hp' : (s.p != 0) = false := bne_eq_false_iff_eq.2 hp
  have hn' : (s.n == 1073741824) = true := beq_iff_eq.2 hn
  obtain ⟨t1, t2, t3, t4, t5⟩ := ht
  clear hk hp hn
  obtain ⟨l, r, e, n, p, d⟩ := s
  go_enter Try.func14, Try.ntmps14
  go_wp2_with fail
  refine (HC.out _).mono ?_
  rintro e0 w1 ⟨rfl, h1⟩
  have A1 := ((Blk.new w _ _).alloc _).below h1
  have D1 := (Blk.new (w.alloc _) _ _).below h1
  simp only [World.size_alloc] at D1
  have l1 := A1.lt
  have l2 := D1.lt
  obtain ⟨c0, c1, c2, c3, c4, c5, f0, f1, f2, f3, f4, f5⟩ := A1.six
  obtain ⟨d0, d1, d2, d3, d4, d5, e0, e1, e2, e3, e4, e5⟩ := D1.six
  go_wp2_with fail
  refine (deadline_yes t1 t2 t3 t4 t5 _).mono ?_
  rintro e0 w2 ⟨rfl, rfl⟩
  go_wp2_with fail
  exact bodyPost_ret (results_ctt rfl _ _ (w.heap.size + 1) 28 (c6 zS) _ rfl D1.store6 Try.underlying28 rfl (by kernel_rfl)) rfl ⟨_, rfl, row_nil _ _, b_store6 (b_step (b_alloc (b_alloc (Below.refl _ _) _) _) h1) (by omega)⟩
set_option maxHeartbeats 2000000 in
theorem dial_ok {s : Ses} {a b : Int} (hk : Ok s) (hp : s.p = 0) (ht : InTime a b) (hn : s.n < 1073741824) (w : World) :
    Calls Try.prog 14 #[S6 s, .int .i64 a, .int .i64 b] w (Dialled ⟨s.l, s.r, s.e, s.n + 1, 1, a + b⟩ [⟨5, s.l, s.r, s.n + 1, s.e⟩] 0 w) := by
  have HC := Lib.hid (chk_ok hk)
  have hp' : (s.p != 0) = false := bne_eq_false_iff_eq.2 hp
  have hn' : (s.n == 1073741824) = false := beq_eq_false_iff_ne.2 (by omega)
  have hn0 := hk.n0
  obtain ⟨t1, t2, t3, t4, t5⟩ := ht
  clear hk hp
  obtain ⟨l, r, e, n, p, d⟩ := s
  go_enter Try.func14, Try.ntmps14
  go_wp2_with fail
  refine (HC.out _).mono ?_
  rintro e0 w1 ⟨rfl, h1⟩
  have A1 := ((Blk.new w _ _).alloc _).below h1
  have D1 := (Blk.new (w.alloc _) _ _).below h1
  simp only [World.size_alloc] at D1
  have l1 := A1.lt
  have l2 := D1.lt
  obtain ⟨c0, c1, c2, c3, c4, c5, f0, f1, f2, f3, f4, f5⟩ := A1.six
  obtain ⟨d0, d1, d2, d3, d4, d5, e0, e1, e2, e3, e4, e5⟩ := D1.six
  go_wp2_with fail
  refine (deadline_yes t1 t2 t3 t4 t5 _).mono ?_
  rintro e0 w2 ⟨rfl, rfl⟩
  go_wp2_with fail
  have HK := Lib.hid (b_alloc (b_step (b_alloc (b_alloc (Below.refl _ _) _) _) h1) (.cells #[.int .i64 l, .int .i64 r, .int .i64 e, .int .i64 (n + 1), .int .i64 1, .int .i64 (a + b), .slice none 0 0] 70))
  have hz := h1.size
  simp only [World.size_alloc] at hz
  have X1 := Blk.new w1 (c7 ⟨l, r, e, (n + 1), 1, (a + b)⟩ (.slice none 0 0)) 70
  have D2 := D1.alloc (.cells #[.int .i64 l, .int .i64 r, .int .i64 e, .int .i64 (n + 1), .int .i64 1, .int .i64 (a + b), .slice none 0 0] 70)
  clear A1 D1 h1 c0 c1 c2 c3 c4 c5 f0 f1 f2 f3 f4 f5 d0 d1 d2 d3 d4 d5 e0 e1 e2 e3 e4 e5
  refine (send_any _ _ 5 _ X1).mono ?_
  rintro e0 w3 ⟨rfl, v, h3, X3, R3⟩
  have K3 := b_grown HK.out h3 (fun j hj => by simp at hj; omega)
  have D3 := D2.grown h3 (by simp; omega)
  have R3' := R3
  rw [World.size_alloc] at R3'
  have hne : w1.heap.size ≠ w.heap.size + 1 := by omega
  clear D2 R3 h3 X1
  have l3 := X3.lt
  obtain ⟨c0, c1, c2, c3, c4, c5, f0, f1, f2, f3, f4, f5⟩ := D3.six
  go_wp2_with fail
  go_region_held3 (fun w' => w'.cell? ⟨w1.heap.size, 0, none⟩ = some (.int .i64 l) ∧ w'.cell? ⟨w1.heap.size, 1, none⟩ = some (.int .i64 r) ∧ w'.cell? ⟨w1.heap.size, 2, none⟩ = some (.int .i64 e) ∧ w'.cell? ⟨w1.heap.size, 3, none⟩ = some (.int .i64 (n + 1)) ∧ w'.cell? ⟨w1.heap.size, 4, none⟩ = some (.int .i64 1) ∧ w'.cell? ⟨w1.heap.size, 5, none⟩ = some (.int .i64 (a + b)) ∧ w'.cell? ⟨w1.heap.size, 6, none⟩ = some v)
    (first | with_reducible exact X3.drew.cells7 | with_reducible exact (X3.far6 hne).drew.cells7)
    (fail)
  go_wp2_with fail
  exact bodyPost_ret (results_ctt rfl _ _ (w.heap.size + 1) 28 (c6 ⟨l, r, e, n + 1, 1, a + b⟩) _ rfl D3.store6.drew Try.underlying28 rfl (by kernel_rfl)) rfl ⟨_, rfl, ((R3'.far6 (by omega)).lower (by omega)).drew, b_drew (b_store6 K3 (by omega))⟩
end Go.Proofs.Ytemljffppdjmgaa
