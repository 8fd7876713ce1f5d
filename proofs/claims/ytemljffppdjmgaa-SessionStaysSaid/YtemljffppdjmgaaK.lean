/- Plain laws of the session: what steps keep. No program in sight. -/
import Derived.Test.YtemljffppdjmgaaE
namespace Go.Proofs.Ytemljffppdjmgaa
open Go.RowKit
/-- What every action of an end keeps. -/
structure Kept (s t : Ses) (ms : List Msg) : Prop where
  ok : Ok t
  l : t.l = s.l
  r : t.r = s.r
  n : s.n ≤ t.n
  e : s.e ≤ t.e
  sent : ∀ m ∈ ms, 5 ≤ m.k ∧ m.k ≤ 7 ∧ m.f = t.l ∧ m.t = t.r ∧ m.n = t.n ∧ m.e = t.e
  open' : t.p = 2 → s.p ≠ 2 ∨ t.n ≠ s.n → s.n < t.n ∨ (s.p = 1 ∧ t.n = s.n)
  opening : t.p = 1 → s.n < t.n ∨ (s.p = 1 ∧ t.n = s.n)
theorem Kept.same {s : Ses} (h : Ok s) : Kept s s [] :=
  ⟨h, rfl, rfl, Int.le_refl _, Int.le_refl _, by simp, fun h1 h2 => by rcases h2 with h2 | h2 <;> exact absurd (by first | exact h1 | rfl) h2, fun h1 => .inr ⟨h1, rfl⟩⟩
theorem handle_kept {s : Ses} (h : Ok s) {k n : Int} (h0 : 0 ≤ n) (h1 : n ≤ 1073741824) : Kept s (handle s k n).1 (handle s k n).2 := by
  obtain ⟨l, r, e, n', p, d⟩ := s
  obtain ⟨a1, a2, a3, a4, a5, a6, a7, a8, a9, a10, a11, a12, a13, a14⟩ := h
  dsimp only at *
  unfold handle
  dsimp only
  repeat' split
  all_goals (constructor <;> dsimp only <;> first | omega | (constructor <;> dsimp only <;> omega) | (intro m hm; simp at hm; done) | (intro m hm; simp only [List.mem_cons, List.not_mem_nil, or_false] at hm; subst hm; dsimp only; omega))
theorem Kept.from {s s2 t : Ses} {ms : List Msg} (h : Kept s2 t ms) (hl : s2.l = s.l) (hr : s2.r = s.r) (hn : s2.n = s.n) (he : s.e ≤ s2.e) (hp : s2.p = 0) : Kept s t ms := by
  obtain ⟨h1, h2, h3, h4, h5, h6, h7, h8⟩ := h
  refine ⟨h1, h2.trans hl, h3.trans hr, by omega, by omega, h6, fun q1 q2 => ?_, fun q1 => ?_⟩
  · have := h7 q1 (.inl (by omega))
    omega
  · have := h8 q1
    omega
theorem recv_kept {s : Ses} (h : Ok s) (m : Msg) : Kept s (recvF s m).1 (recvF s m).2 := by
  unfold recvF
  split
  · rename_i hf
    obtain ⟨_, f1, f2, ⟨f3, f4⟩, ⟨f5, f6⟩, f7⟩ := hf
    unfold takes
    split
    · split
      · refine ⟨h, rfl, rfl, Int.le_refl _, Int.le_refl _, ?_, fun h1 h2 => by rcases h2 with h2 | h2 <;> exact absurd (by first | exact h1 | rfl) h2, fun h1 => .inr ⟨h1, rfl⟩⟩
        intro m hm
        simp only [List.mem_cons, List.not_mem_nil, or_false] at hm
        subst hm
        dsimp only
        omega
      · exact Kept.same h
    · split
      · rename_i h1 h2
        obtain ⟨a1, a2, a3, a4, a5, a6, a7, a8, a9, a10, a11, a12, a13, a14⟩ := h
        have hk : Ok ⟨s.l, s.r, m.e, s.n, 0, 0⟩ := by constructor <;> dsimp only <;> omega
        exact (handle_kept hk f5 f6).from rfl rfl rfl (Int.le_of_lt h2) rfl
      · exact handle_kept h f5 f6
  · exact Kept.same h
theorem dial_kept {s : Ses} (h : Ok s) {a b : Int} (hd : (dialF s a b).2.2 = 0) : Kept s (dialF s a b).1 (dialF s a b).2.1 := by
  revert hd
  obtain ⟨l, r, e, n', p, d⟩ := s
  have hz := chk_zero.2 h
  obtain ⟨a1, a2, a3, a4, a5, a6, a7, a8, a9, a10, a11, a12, a13, a14⟩ := h
  unfold dialF
  rw [hz]
  dsimp only at *
  split
  · rename_i hx; exact absurd rfl hx
  · split
    · intro hd; exact absurd hd (by decide)
    · split
      · intro hd; exact absurd hd (by decide)
      · split
        · intro hd; exact absurd hd (by decide)
        · rename_i g1 g2 g3
          have g4 : InTime a b := Decidable.not_not.1 g2
          unfold InTime at g4
          intro _
          (constructor <;> dsimp only <;> first | omega | (constructor <;> dsimp only <;> omega) | (intro m hm; simp at hm; done) | (intro m hm; simp only [List.mem_cons, List.not_mem_nil, or_false] at hm; subst hm; dsimp only; omega))
theorem expire_kept {s : Ses} (h : Ok s) (a b : Int) : Kept s (expireF s a b).1 (expireF s a b).2 := by
  unfold expireF
  split
  · exact Kept.same h
  · rename_i g1
    have hp : s.p = 1 := by omega
    obtain ⟨a1, a2, a3, a4, a5, a6, a7, a8, a9, a10, a11, a12, a13, a14⟩ := h
    split
    · rename_i g4
      unfold InTime at g4
      (constructor <;> dsimp only <;> first | omega | (constructor <;> dsimp only <;> omega) | (intro m hm; simp at hm; done) | (intro m hm; simp only [List.mem_cons, List.not_mem_nil, or_false] at hm; subst hm; dsimp only; omega))
    · (constructor <;> dsimp only <;> first | omega | (constructor <;> dsimp only <;> omega) | (intro m hm; simp at hm; done) | (intro m hm; simp only [List.mem_cons, List.not_mem_nil, or_false] at hm; subst hm; dsimp only; omega))
theorem close_kept {s : Ses} (h : Ok s) : Kept s (closeF s).1 (closeF s).2 := by
  unfold closeF
  split
  · exact Kept.same h
  · obtain ⟨a1, a2, a3, a4, a5, a6, a7, a8, a9, a10, a11, a12, a13, a14⟩ := h
    (constructor <;> dsimp only <;> first | omega | (constructor <;> dsimp only <;> omega) | (intro m hm; simp at hm; done) | (intro m hm; simp only [List.mem_cons, List.not_mem_nil, or_false] at hm; subst hm; dsimp only; omega))
theorem act_kept {s : Ses} (h : Ok s) (sent : List Msg) (k q now : Int) : Kept s (actF s sent k q now).1 (actF s sent k q now).2 := by
  unfold actF
  split
  · split
    · rename_i hd
      exact dial_kept h hd
    · exact Kept.same h
  · split
    · exact expire_kept h _ _
    · split
      · exact close_kept h
      · split
        · exact recv_kept h _
        · exact Kept.same h
/-- Two ends and all that was sent, after the first i steps. -/
def runF (a b : Ses) (K : Nat → Int) (O : Nat → Bool) (Q : Nat → Int) : Nat → Ses × Ses × List Msg
  | 0 => (a, b, [])
  | i + 1 => stepF (runF a b K O Q i).1 (runF a b K O Q i).2.1 (runF a b K O Q i).2.2 (K i) (O i) (Q i) i
/-- What holds at every time. -/
structure Inv (a b : Ses) (sent : List Msg) (i : Nat) : Prop where
  oka : Ok a
  okb : Ok b
  al : a.l = 0
  ar : a.r = 1
  bl : b.l = 1
  br : b.r = 0
  len : sent.length ≤ i
  kinds : ∀ m ∈ sent, 5 ≤ m.k ∧ m.k ≤ 7
theorem Inv.start (e0 e1 n0 n1 : Int) : Inv (endA e0 n0) (endB e1 n1) [] 0 :=
  ⟨ok_A _ _, ok_B _ _, rfl, rfl, rfl, rfl, by simp, by simp⟩
theorem Inv.step {a b : Ses} {sent : List Msg} {i : Nat} (h : Inv a b sent i) (k : Int) (o : Bool) (q now : Int) :
    Inv (stepF a b sent k o q now).1 (stepF a b sent k o q now).2.1 (stepF a b sent k o q now).2.2 (i + 1) := by
  obtain ⟨h1, h2, h3, h4, h5, h6, h7, h8⟩ := h
  unfold stepF
  cases o with
  | false =>
    have kk := act_kept h1 sent k q now
    have hs := act_short a sent k q now
    simp only [Bool.false_eq_true, if_false]
    exact ⟨kk.ok, h2, kk.l.trans h3, kk.r.trans h4, h5, h6, by rw [List.length_append]; omega, fun m hm => by
      rcases List.mem_append.1 hm with hm | hm
      · exact h8 m hm
      · have := kk.sent m hm
        omega⟩
  | true =>
    have kk := act_kept h2 sent k q now
    have hs := act_short b sent k q now
    simp only [if_true]
    exact ⟨h1, kk.ok, h3, h4, kk.l.trans h5, kk.r.trans h6, by rw [List.length_append]; omega, fun m hm => by
      rcases List.mem_append.1 hm with hm | hm
      · exact h8 m hm
      · have := kk.sent m hm
        omega⟩
theorem run_inv {a b : Ses} (h : Inv a b [] 0) (K : Nat → Int) (O : Nat → Bool) (Q : Nat → Int) (i : Nat) :
    Inv (runF a b K O Q i).1 (runF a b K O Q i).2.1 (runF a b K O Q i).2.2 i := by
  induction i with
  | zero => exact h
  | succ i ih => exact ih.step _ _ _ _
end Go.Proofs.Ytemljffppdjmgaa
