/- What holds of an estimator behind each step, and what is kept over calls. -/
import Derived.Test.YtifmkikllbapiaaBounds
import Derived.Test.YtifmkikllbapiaaTimes
import Derived.Deep.DeepCutAuto
namespace Go.Proofs.Ytifmkikllbapiaa
open Go.RowKit
/-- What holds of the estimator behind each round. -/
def XInv (a b c d : Int) : Prop := BInv 0 0 false a b c d ∨ BInv 0 65535 true a b c d
theorem XInv.ok {a b c d : Int} (h : XInv a b c d) : Ok a b c d := by
  rcases h with h | h
  · exact h.ok
  · exact h.ok
theorem XInv.expired {a b c d : Int} (h : XInv a b c d) : XInv a b c (min (d + 1) 12) := by
  rcases h with h | h
  · exact .inl h.expired
  · exact .inr h.expired
theorem xinv_new : XInv 0 0 0 0 := .inl (by unfold BInv; simp)
/-- A sample more. -/
theorem XInv.step {a b c d t : Int} (h : XInv a b c d) (h0 : 0 ≤ t) (h1 : t ≤ 65535) (ha : a ≤ 200) :
    ∃ a' b' c' d' : Int, (∀ w, Calls Try.prog 10 #[E4 a b c d, .int .i64 t] w fun e w' => e = .returned (.tuple #[E4 a' b' c' d', .int .i64 0]) ∧ Below w.heap.size w w') ∧
      XInv a' b' c' d' ∧ a' = a + 1 ∧ 0 ≤ d' ∧ d' ≤ 12 := by
  have hok := h.ok
  rcases h with h | h
  · obtain ⟨rfl, rfl, rfl, _⟩ := h.2.1 rfl
    refine ⟨_, _, _, 0, sample_first hok h0 (by omega), .inr ?_, rfl, by omega, by omega⟩
    unfold BInv
    simp
    omega
  · have hI := (h.next h0 h1 ha).1
    have e1 : min 0 t = 0 := by omega
    have e2 : max 65535 t = 65535 := by omega
    rw [e1, e2] at hI
    have ha := (h.2.2 rfl).1
    exact ⟨_, _, _, 0, sample_next hok (by omega) h0 (by omega) rfl (n := a + 1) (by omega), .inr hI, rfl, by omega, by omega⟩
/-- What is asked of two timeouts. -/
theorem tmo_facts {a b c d : Int} (h : Ok a b c d) : b / 8 < tmo a b c d ∧ tmo a b c d ≤ tmo a b c (min (d + 1) 12) ∧ tmo a b c d ≤ 9663676416 ∧
    (d < 12 → 2 * tmo a b c d ≤ 65536 → tmo a b c (min (d + 1) 12) = 2 * tmo a b c d) ∧ (tmo a b c (min (d + 1) 12) ≤ tmo a b c d ∨ tmo a b c (min (d + 1) 12) ≤ 65536) := by
  have h' := h
  obtain ⟨⟨g1, g2⟩, ⟨g3, g4⟩, ⟨g5, g6⟩, ⟨g7, g8⟩, g9⟩ := h'
  have hb : 2 ≤ baseOf a b c ∧ baseOf a b c ≤ 9663676416 ∧ b / 8 < baseOf a b c := by
    unfold baseOf
    by_cases ha : 0 < a
    · simp only [if_pos ha]
      omega
    · have := g9 (by omega)
      simp only [if_neg ha]
      omega
  unfold tmo
  generalize baseOf a b c = m at *
  obtain ⟨K, rfl⟩ := Int.eq_ofNat_of_zero_le g7
  obtain ⟨p1, p2⟩ := pow_le K (by omega)
  have q0 : m * 1 ≤ m * 2 ^ K := Int.mul_le_mul_of_nonneg_left p2 (by omega)
  have e1 : ((K : Int)).toNat = K := by omega
  by_cases hK : K < 12
  · have e2 : (min ((K : Int) + 1) 12).toNat = K + 1 := by omega
    have e3 : m * 2 ^ (K + 1) = 2 * (m * 2 ^ K) := by rw [Int.pow_succ, ← Int.mul_assoc, Int.mul_comm]
    rw [e1, e2, e3]
    generalize m * 2 ^ K = y at *
    omega
  · obtain rfl : K = 12 := by omega
    have e2 : (min (((12 : Nat) : Int) + 1) 12).toNat = 12 := by decide
    rw [e1, e2]
    generalize m * 2 ^ 12 = y at *
    omega
/-- What is kept: nothing of w has turned, and these blocks hold these cells. -/
def Keeps (w : World) (l : List (Nat × Array Value)) (w' : World) : Prop := Below w.heap.size w w' ∧ ∀ x ∈ l, Blk w' x.1 x.2 23
theorem Keeps.below {w W W' : World} {l : List (Nat × Array Value)} (h : Keeps w l W) (hb : Below W.heap.size W W') : Keeps w l W' := ⟨b_step h.1 hb, fun x hx => (h.2 x hx).below hb⟩
theorem Keeps.drew {w W : World} {l : List (Nat × Array Value)} (h : Keeps w l W) : Keeps w l W.drew := ⟨b_drew h.1, fun x hx => (h.2 x hx).drew⟩
theorem keeps_nil {w W : World} (h : Below w.heap.size w W) : Keeps w [] W := ⟨h, fun x hx => by cases hx⟩
theorem keeps_cons {w W : World} {g : Nat} {cs : Array Value} {l : List (Nat × Array Value)} (hB : Blk W g cs 23) (h : Keeps w l W) : Keeps w ((g, cs) :: l) W :=
  ⟨h.1, fun x hx => by
    rcases List.mem_cons.1 hx with rfl | hx
    · exact hB
    · exact h.2 x hx⟩
theorem Keeps.head {w W : World} {g : Nat} {cs : Array Value} {l : List (Nat × Array Value)} (h : Keeps w ((g, cs) :: l) W) : Blk W g cs 23 := h.2 _ List.mem_cons_self
theorem Keeps.tail {w W : World} {g : Nat} {cs : Array Value} {l : List (Nat × Array Value)} (h : Keeps w ((g, cs) :: l) W) : Keeps w l W := ⟨h.1, fun x hx => h.2 x (List.mem_cons_of_mem _ hx)⟩
theorem held_k_next {w W W' : World} {g : Nat} {l : List (Nat × Array Value)} {x : Addr} {y v0 v1 v2 v3 : Value} (h : (W.cell? ⟨g, 0, none⟩ = some v0 ∧ W.cell? ⟨g, 1, none⟩ = some v1 ∧ W.cell? ⟨g, 2, none⟩ = some v2 ∧ W.cell? ⟨g, 3, none⟩ = some v3) ∧ W.cell? x = some y ∧ Keeps w l W) (hb : Below W.heap.size W W') :
    (W'.cell? ⟨g, 0, none⟩ = some v0 ∧ W'.cell? ⟨g, 1, none⟩ = some v1 ∧ W'.cell? ⟨g, 2, none⟩ = some v2 ∧ W'.cell? ⟨g, 3, none⟩ = some v3) ∧ W'.cell? x = some y ∧ Keeps w l W' :=
  ⟨cells4_below h.1 hb, cell_below h.2.1 hb, h.2.2.below hb⟩
end Go.Proofs.Ytifmkikllbapiaa
