/- Plain laws: how far numbers grow, and that two closed ends become open. -/
import Derived.Test.YtemljffppdjmgaaK
namespace Go.Proofs.Ytemljffppdjmgaa
open Go.RowKit
theorem handle_bound (s : Ses) (k n : Int) : (handle s k n).1.n = s.n ∨ (handle s k n).1.n = n := by
  unfold handle
  repeat' split
  all_goals simp
theorem recv_bound (s : Ses) (m : Msg) : (recvF s m).1.n = s.n ∨ (recvF s m).1.n = m.n := by
  unfold recvF
  split
  · unfold takes
    split
    · exact .inl rfl
    · rcases handle_bound (if s.e < m.e then ⟨s.l, s.r, m.e, s.n, 0, 0⟩ else s) m.k m.n with h | h
      · left
        rw [h]
        split <;> rfl
      · exact .inr h
  · exact .inl rfl
theorem act_bound {s : Ses} {sent : List Msg} {N : Int} (hs : s.n ≤ N) (hm : ∀ m ∈ sent, m.n ≤ N) (h0 : 0 ≤ N) (k q now : Int) : (actF s sent k q now).1.n ≤ N + 1 := by
  unfold actF
  split
  · split
    · rename_i hd
      revert hd
      unfold dialF
      repeat' split
      all_goals (intro hd; dsimp only at *; omega)
    · dsimp only; omega
  · split
    · unfold expireF
      repeat' split
      all_goals (dsimp only; omega)
    · split
      · unfold closeF
        repeat' split
        all_goals (dsimp only; omega)
      · split
        · rename_i m hq
          have hmem := List.mem_of_getElem? hq
          have := hm m hmem
          rcases recv_bound s m with h | h <;> rw [h] <;> omega
        · dsimp only; omega
theorem run_bound {a b : Ses} (h : Inv a b [] 0) (ha : a.n ≤ 6) (hb : b.n ≤ 6) (K : Nat → Int) (O : Nat → Bool) (Q : Nat → Int) (i : Nat) :
    (runF a b K O Q i).1.n ≤ 6 + i ∧ (runF a b K O Q i).2.1.n ≤ 6 + i ∧ ∀ m ∈ (runF a b K O Q i).2.2, m.n ≤ 6 + i := by
  induction i with
  | zero => exact ⟨by simpa [runF] using ha, by simpa [runF] using hb, by simp [runF]⟩
  | succ i ih =>
    obtain ⟨h1, h2, h3⟩ := ih
    have hi := run_inv h K O Q i
    show (stepF (runF a b K O Q i).1 (runF a b K O Q i).2.1 (runF a b K O Q i).2.2 (K i) (O i) (Q i) i).1.n ≤ _ ∧ (stepF (runF a b K O Q i).1 (runF a b K O Q i).2.1 (runF a b K O Q i).2.2 (K i) (O i) (Q i) i).2.1.n ≤ _ ∧ ∀ m ∈ (stepF (runF a b K O Q i).1 (runF a b K O Q i).2.1 (runF a b K O Q i).2.2 (K i) (O i) (Q i) i).2.2, m.n ≤ _
    generalize runF a b K O Q i = R at *
    obtain ⟨A, B, sent⟩ := R
    dsimp only at *
    have c : ((i + 1 : Nat) : Int) = (i : Int) + 1 := by omega
    rw [c]
    unfold stepF
    cases O i with
    | false =>
      have k1 := act_bound h1 h3 (by omega) (K i) (Q i) i
      have k2 := act_kept hi.oka sent (K i) (Q i) i
      simp only [Bool.false_eq_true, if_false]
      refine ⟨by omega, by omega, fun m hm => ?_⟩
      rcases List.mem_append.1 hm with hm | hm
      · have := h3 m hm
        omega
      · have := k2.sent m hm
        omega
    | true =>
      have k1 := act_bound h2 h3 (by omega) (K i) (Q i) i
      have k2 := act_kept hi.okb sent (K i) (Q i) i
      simp only [if_true]
      refine ⟨by omega, by omega, fun m hm => ?_⟩
      rcases List.mem_append.1 hm with hm | hm
      · have := h3 m hm
        omega
      · have := k2.sent m hm
        omega
theorem dlv_one (s : Ses) (m : Msg) : dlv s [m] = ((recvF s m).1, (recvF s m).2) := by
  simp [dlv]
theorem dlv_none (s : Ses) : dlv s [] = (s, []) := rfl
theorem close_shut {s : Ses} (h : Ok s) : (closeF s).1 = ⟨s.l, s.r, s.e, s.n, 0, 0⟩ := by
  unfold closeF
  rw [chk_zero.2 h]
  by_cases hp : s.p = 0
  · rw [if_pos (.inr hp)]
    obtain ⟨l, r, e, n, p, d⟩ := s
    dsimp only at hp
    subst hp
    have := h.pd
    dsimp only at this
    obtain rfl : d = 0 := by omega
    rfl
  · rw [if_neg (by simp [hp])]
theorem dial_shut {l r e n a b : Int} (h : Ok ⟨l, r, e, n, 0, 0⟩) (hn : n < 1073741824) (ht : InTime a b) : dialF ⟨l, r, e, n, 0, 0⟩ a b = (⟨l, r, e, n + 1, 1, a + b⟩, [⟨5, l, r, n + 1, e⟩], 0) := by
  unfold dialF
  rw [chk_zero.2 h, if_neg (by simp), if_neg (by simp), if_neg (fun q => q ht), if_neg (by dsimp only; omega)]
/-- What two closed ends are after one of them has dialled. -/
structure Met (l r e n e2 n2 : Int) (a b : Ses) : Prop where
  oka : Ok a
  okb : Ok b
  ae : a.e = b.e
  open' : (a.p = 2 ∧ b.p = 2 ∧ a.n = b.n) ∨ (a.p = 0 ∧ b.p = 0 ∧ b.n ≤ a.n ∧ (a.n ≤ n + 1 ∨ a.n ≤ n2) ∧ b.n ≤ n2 ∧ a.l = l ∧ a.r = r ∧ b.l = r ∧ b.r = l ∧ ¬ (e = e2 ∧ n2 ≤ n))
theorem round_law {l r e n e2 n2 : Int} (h : Ok ⟨l, r, e, n, 0, 0⟩) (h2 : Ok ⟨r, l, e2, n2, 0, 0⟩) (hn : n < 1073741824) :
    Met l r e n e2 n2 (dlv ⟨l, r, e, n + 1, 1, 105⟩ (dlv ⟨r, l, e2, n2, 0, 0⟩ [⟨5, l, r, n + 1, e⟩]).2).1 (dlv ⟨r, l, e2, n2, 0, 0⟩ [⟨5, l, r, n + 1, e⟩]).1 := by
  have hk := chk_zero.2 h2
  obtain ⟨a1, a2, a3, a4, a5, a6, a7, a8, a9, a10, a11, a12, a13, a14⟩ := h
  obtain ⟨b1, b2, b3, b4, b5, b6, b7, b8, b9, b10, b11, b12, b13, b14⟩ := h2
  dsimp only at *
  have ho : Ok ⟨l, r, e, n + 1, 1, 105⟩ := by constructor <;> dsimp only <;> omega
  have hc := chk_zero.2 ho
  have fh : fits ⟨r, l, e2, n2, 0, 0⟩ ⟨5, l, r, n + 1, e⟩ := ⟨hk, rfl, rfl, ⟨a6, a7⟩, ⟨by dsimp only; omega, by dsimp only; omega⟩, .inl rfl⟩
  rw [dlv_one]
  dsimp only
  have hr1 : recvF ⟨r, l, e2, n2, 0, 0⟩ ⟨5, l, r, n + 1, e⟩ = takes ⟨r, l, e2, n2, 0, 0⟩ ⟨5, l, r, n + 1, e⟩ := by unfold recvF; rw [if_pos fh]
  rw [hr1]
  have hr2 : ∀ m : Msg, fits ⟨l, r, e, n + 1, 1, 105⟩ m → recvF ⟨l, r, e, n + 1, 1, 105⟩ m = takes ⟨l, r, e, n + 1, 1, 105⟩ m := by intro m hm; unfold recvF; rw [if_pos hm]
  by_cases q1 : e < e2
  · have t1 : takes ⟨r, l, e2, n2, 0, 0⟩ ⟨5, l, r, n + 1, e⟩ = (⟨r, l, e2, n2, 0, 0⟩, [⟨7, r, l, n2, e2⟩]) := by unfold takes; rw [if_pos q1]; rfl
    rw [t1]
    dsimp only
    rw [dlv_one, hr2 _ ⟨hc, rfl, rfl, ⟨b6, b7⟩, ⟨b8, b9⟩, .inr (.inr rfl)⟩]
    dsimp only
    unfold takes handle
    dsimp only
    rw [if_neg (by omega), if_pos q1, if_neg (by decide), if_neg (by decide)]
    split <;> rename_i hq <;> dsimp only at hq
    · refine ⟨by constructor <;> dsimp only <;> omega, by constructor <;> dsimp only <;> omega, rfl, .inr ?_⟩
      dsimp only
      omega
    · refine ⟨by constructor <;> dsimp only <;> omega, by constructor <;> dsimp only <;> omega, rfl, .inr ?_⟩
      dsimp only
      omega
  · by_cases q2 : n2 < n + 1
    · have t1 : takes ⟨r, l, e2, n2, 0, 0⟩ ⟨5, l, r, n + 1, e⟩ = (⟨r, l, e, n + 1, 2, 0⟩, [⟨6, r, l, n + 1, e⟩]) := by
        unfold takes handle
        rw [if_neg q1, if_pos rfl]
        dsimp only
        by_cases q3 : e2 < e
        · rw [if_pos q3]
          dsimp only
          rw [if_pos (.inl q2)]
        · rw [if_neg q3]
          dsimp only
          obtain rfl : e2 = e := by omega
          rw [if_pos (.inl q2)]
      rw [t1]
      dsimp only
      rw [dlv_one, hr2 _ ⟨hc, rfl, rfl, ⟨a6, a7⟩, ⟨by dsimp only; omega, by dsimp only; omega⟩, .inr (.inl rfl)⟩]
      dsimp only
      have t2 : takes ⟨l, r, e, n + 1, 1, 105⟩ ⟨6, r, l, n + 1, e⟩ = (⟨l, r, e, n + 1, 2, 0⟩, []) := by
        unfold takes handle
        dsimp only
        simp only [Int.lt_irrefl, if_false]
        rw [if_neg (by decide), if_pos trivial, if_neg (by simp), if_neg (by decide)]
      rw [t2]
      exact ⟨by constructor <;> dsimp only <;> omega, by constructor <;> dsimp only <;> omega, rfl, .inl ⟨rfl, rfl, rfl⟩⟩
    · have t1 : takes ⟨r, l, e2, n2, 0, 0⟩ ⟨5, l, r, n + 1, e⟩ = (⟨r, l, e, n2, 0, 0⟩, [⟨7, r, l, n2, e⟩]) := by
        unfold takes handle
        rw [if_neg q1, if_pos rfl]
        dsimp only
        by_cases q3 : e2 < e
        · rw [if_pos q3]
          dsimp only
          rw [if_neg (by omega), if_pos rfl]
        · rw [if_neg q3]
          dsimp only
          obtain rfl : e2 = e := by omega
          rw [if_neg (by omega), if_pos rfl]
      rw [t1]
      dsimp only
      rw [dlv_one, hr2 _ ⟨hc, rfl, rfl, ⟨a6, a7⟩, ⟨by dsimp only; omega, by dsimp only; omega⟩, .inr (.inr rfl)⟩]
      dsimp only
      have t2 : takes ⟨l, r, e, n + 1, 1, 105⟩ ⟨7, r, l, n2, e⟩ = (⟨l, r, e, n2, 0, 0⟩, []) := by
        unfold takes handle
        dsimp only
        simp only [Int.lt_irrefl, if_false]
        rw [if_neg (by decide), if_neg (by decide), if_neg (by omega)]
      rw [t2]
      refine ⟨by constructor <;> dsimp only <;> omega, by constructor <;> dsimp only <;> omega, rfl, .inr ?_⟩
      dsimp only
      omega
end Go.Proofs.Ytemljffppdjmgaa
