/- Contracts of the methods hello, welcome and reset of an end. -/
import Derived.Test.YtemljffppdjmgaaM
namespace Go.Proofs.Ytemljffppdjmgaa
open Go.RowKit
theorem own_lower {w : World} {base base' e size n : Nat} {v : Value} {xs : List Value} (h : w.ownsRow base e size v n xs) (hb : base' ≤ base) : w.ownsRow base' e size v n xs := by
  obtain ⟨h1, h2⟩ := h
  refine ⟨h1, ?_⟩
  rcases h2 with h2 | ⟨g, cap, cur, rfl, hg, r⟩
  · exact .inl h2
  · exact .inr ⟨g, cap, cur, rfl, Nat.le_trans hb hg, r⟩
theorem Row.lower {w : World} {base base' : Nat} {v : Value} {ms : List Msg} (h : Row w base v ms) (hb : base' ≤ base) : Row w base' v ms := ⟨own_lower h.1 hb, h.2⟩
theorem row_nil (w : World) (base : Nat) : Row w base (.slice none 0 0) [] := ⟨World.ownsRow_nil _ _ _ _, fun _ => rfl⟩
/-- What a method of an end leaves. -/
def Acted (g : Nat) (s : Ses) (ms : List Msg) (w : World) (e : Ending) (w' : World) : Prop :=
  e = .returned (.tuple #[]) ∧ ∃ v, w.grownBy w' (some g) ∧ Blk w' g (c7 s v) 70 ∧ Row w' w.heap.size v ms
theorem hello_open {l r e n p d : Int} (g : Nat) (m : Int) (w : World) (B : Blk w g (c7 ⟨l, r, e, n, p, d⟩ (.slice none 0 0)) 70) (h : n < m ∨ (n = m ∧ p ≠ 0)) :
    Calls Try.prog 34 #[.pointer (some ⟨g, 0, none⟩), .int .i64 m] w (Acted g ⟨l, r, e, m, 2, 0⟩ [⟨6, l, r, m, e⟩] w) := by
  obtain ⟨c0, c1, c2, c3, c4, c5, c6, f0, f1, f2, f3, f4, f5, f6⟩ := B.seven
  rcases h with h | ⟨rfl, h⟩
  · go_enter Try.func34, Try.ntmps34
    go_wp2_with fail
    refine (become_any g ⟨l, r, e, m, p, d⟩ _ 2 _ (B.set 3 _)).mono ?_
    rintro e0 w1 ⟨rfl, h1, B1⟩
    obtain ⟨d0, d1, d2, d3, d4, d5, d6, z0, z1, z2, z3, z4, z5, z6⟩ := B1.seven
    go_wp2_with fail
    refine (send_any g ⟨l, r, e, m, 2, 0⟩ 6 _ B1).mono ?_
    rintro e0 w2 ⟨rfl, v, h2, B2, R2⟩
    go_wp2_with fail
    go_end0
    have hz := h1.size
    simp only [World.size_setCell] at hz
    exact ⟨rfl, v, g_trans' (g_trans' (g_set (g_refl _ _)) h1) h2, B2, R2.lower hz⟩
  · have hp : (p == 0) = false := beq_eq_false_iff_ne.2 h
    clear h
    go_enter Try.func34, Try.ntmps34
    go_wp2_with fail
    refine (become_any g ⟨l, r, e, n, p, d⟩ _ 2 _ (B.set 3 _)).mono ?_
    rintro e0 w1 ⟨rfl, h1, B1⟩
    obtain ⟨d0, d1, d2, d3, d4, d5, d6, z0, z1, z2, z3, z4, z5, z6⟩ := B1.seven
    go_wp2_with fail
    refine (send_any g ⟨l, r, e, n, 2, 0⟩ 6 _ B1).mono ?_
    rintro e0 w2 ⟨rfl, v, h2, B2, R2⟩
    go_wp2_with fail
    go_end0
    have hz := h1.size
    simp only [World.size_setCell] at hz
    exact ⟨rfl, v, g_trans' (g_trans' (g_set (g_refl _ _)) h1) h2, B2, R2.lower hz⟩
theorem hello_reset {l r e n d : Int} (g : Nat) (m : Int) (w : World) (B : Blk w g (c7 ⟨l, r, e, n, 0, d⟩ (.slice none 0 0)) 70) (h : m ≤ n) :
    Calls Try.prog 34 #[.pointer (some ⟨g, 0, none⟩), .int .i64 m] w (Acted g ⟨l, r, e, n, 0, d⟩ [⟨7, l, r, n, e⟩] w) := by
  obtain ⟨c0, c1, c2, c3, c4, c5, c6, f0, f1, f2, f3, f4, f5, f6⟩ := B.seven
  rcases Int.lt_or_eq_of_le h with h | rfl
  · have hm : (m == n) = false := beq_eq_false_iff_ne.2 (by omega)
    go_enter Try.func34, Try.ntmps34
    go_wp2_with fail
    refine (send_any g ⟨l, r, e, n, 0, d⟩ 7 _ B).mono ?_
    rintro e0 w2 ⟨rfl, v, h2, B2, R2⟩
    go_wp2_with fail
    go_end0
    exact ⟨rfl, v, h2, B2, R2⟩
  · go_enter Try.func34, Try.ntmps34
    go_wp2_with fail
    refine (send_any g ⟨l, r, e, m, 0, d⟩ 7 _ B).mono ?_
    rintro e0 w2 ⟨rfl, v, h2, B2, R2⟩
    go_wp2_with fail
    go_end0
    exact ⟨rfl, v, h2, B2, R2⟩
theorem hello_none {l r e n p d : Int} (g : Nat) (m : Int) (w : World) (B : Blk w g (c7 ⟨l, r, e, n, p, d⟩ (.slice none 0 0)) 70) (h : m < n) (hp : p ≠ 0) :
    Calls Try.prog 34 #[.pointer (some ⟨g, 0, none⟩), .int .i64 m] w (Acted g ⟨l, r, e, n, p, d⟩ [] w) := by
  obtain ⟨c0, c1, c2, c3, c4, c5, c6, f0, f1, f2, f3, f4, f5, f6⟩ := B.seven
  have hp : (p == 0) = false := beq_eq_false_iff_ne.2 hp
  have hm : (m == n) = false := beq_eq_false_iff_ne.2 (by omega)
  go_enter Try.func34, Try.ntmps34
  go_wp2_with fail
  go_end0
  exact ⟨rfl, _, g_refl _ _, B, row_nil _ _⟩
theorem welcome_other {l r e n p d : Int} (g : Nat) (m : Int) (w : World) (B : Blk w g (c7 ⟨l, r, e, n, p, d⟩ (.slice none 0 0)) 70) (h : m ≠ n) :
    Calls Try.prog 35 #[.pointer (some ⟨g, 0, none⟩), .int .i64 m] w (Acted g ⟨l, r, e, n, p, d⟩ [] w) := by
  obtain ⟨c0, c1, c2, c3, c4, c5, c6, f0, f1, f2, f3, f4, f5, f6⟩ := B.seven
  have hm : (m != n) = true := bne_iff_ne.2 h
  clear h
  go_enter Try.func35, Try.ntmps35
  go_wp2_with fail
  go_end0
  exact ⟨rfl, _, g_refl _ _, B, row_nil _ _⟩
theorem welcome_reset {l r e n d : Int} (g : Nat) (w : World) (B : Blk w g (c7 ⟨l, r, e, n, 0, d⟩ (.slice none 0 0)) 70) :
    Calls Try.prog 35 #[.pointer (some ⟨g, 0, none⟩), .int .i64 n] w (Acted g ⟨l, r, e, n, 0, d⟩ [⟨7, l, r, n, e⟩] w) := by
  obtain ⟨c0, c1, c2, c3, c4, c5, c6, f0, f1, f2, f3, f4, f5, f6⟩ := B.seven
  go_enter Try.func35, Try.ntmps35
  go_wp2_with fail
  refine (send_any g ⟨l, r, e, n, 0, d⟩ 7 _ B).mono ?_
  rintro e0 w2 ⟨rfl, v, h2, B2, R2⟩
  go_wp2_with fail
  go_end0
  exact ⟨rfl, v, h2, B2, R2⟩
theorem welcome_open {l r e n p d : Int} (g : Nat) (w : World) (B : Blk w g (c7 ⟨l, r, e, n, p, d⟩ (.slice none 0 0)) 70) (hp : p ≠ 0) :
    Calls Try.prog 35 #[.pointer (some ⟨g, 0, none⟩), .int .i64 n] w (Acted g ⟨l, r, e, n, 2, 0⟩ [] w) := by
  obtain ⟨c0, c1, c2, c3, c4, c5, c6, f0, f1, f2, f3, f4, f5, f6⟩ := B.seven
  have hp : (p == 0) = false := beq_eq_false_iff_ne.2 hp
  go_enter Try.func35, Try.ntmps35
  go_wp2_with fail
  refine (become_any g ⟨l, r, e, n, p, d⟩ _ 2 _ B).mono ?_
  rintro e0 w1 ⟨rfl, h1, B1⟩
  go_wp2_with fail
  go_end0
  exact ⟨rfl, _, h1, B1, row_nil _ _⟩
theorem reset_none {l r e n p d : Int} (g : Nat) (m : Int) (w : World) (B : Blk w g (c7 ⟨l, r, e, n, p, d⟩ (.slice none 0 0)) 70) (h : m < n) :
    Calls Try.prog 36 #[.pointer (some ⟨g, 0, none⟩), .int .i64 m] w (Acted g ⟨l, r, e, n, p, d⟩ [] w) := by
  obtain ⟨c0, c1, c2, c3, c4, c5, c6, f0, f1, f2, f3, f4, f5, f6⟩ := B.seven
  go_enter Try.func36, Try.ntmps36
  go_wp2_with fail
  go_end0
  exact ⟨rfl, _, g_refl _ _, B, row_nil _ _⟩
theorem reset_close {l r e n p d : Int} (g : Nat) (m : Int) (w : World) (B : Blk w g (c7 ⟨l, r, e, n, p, d⟩ (.slice none 0 0)) 70) (h : n ≤ m) :
    Calls Try.prog 36 #[.pointer (some ⟨g, 0, none⟩), .int .i64 m] w (Acted g ⟨l, r, e, m, 0, 0⟩ [] w) := by
  obtain ⟨c0, c1, c2, c3, c4, c5, c6, f0, f1, f2, f3, f4, f5, f6⟩ := B.seven
  go_enter Try.func36, Try.ntmps36
  go_wp2_with fail
  refine (become_any g ⟨l, r, e, m, p, d⟩ _ 0 _ (B.set 3 _)).mono ?_
  rintro e0 w1 ⟨rfl, h1, B1⟩
  go_wp2_with fail
  go_end0
  exact ⟨rfl, _, g_trans' (g_set (g_refl _ _)) h1, B1, row_nil _ _⟩
end Go.Proofs.Ytemljffppdjmgaa
