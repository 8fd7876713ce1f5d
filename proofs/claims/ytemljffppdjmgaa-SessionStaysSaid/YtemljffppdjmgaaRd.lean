/- The contract of Receive: for all sessions and messages it returns what recvF computes. -/
import Derived.Test.YtemljffppdjmgaaRc
namespace Go.Proofs.Ytemljffppdjmgaa
open Go.RowKit
/-- What a handler does. -/
def handle (s : Ses) (k n : Int) : Ses × List Msg :=
  if k = 5 then (if s.n < n ∨ (s.n = n ∧ s.p ≠ 0) then (⟨s.l, s.r, s.e, n, 2, 0⟩, [⟨6, s.l, s.r, n, s.e⟩]) else if s.p = 0 then (s, [⟨7, s.l, s.r, s.n, s.e⟩]) else (s, []))
  else if k = 6 then (if n ≠ s.n then (s, []) else if s.p = 0 then (s, [⟨7, s.l, s.r, s.n, s.e⟩]) else (⟨s.l, s.r, s.e, n, 2, 0⟩, []))
  else (if n < s.n then (s, []) else (⟨s.l, s.r, s.e, n, 0, 0⟩, []))
theorem handle5 (s : Ses) (m : Int) (w : World) (g : Nat) (B : Blk w g (c7 s (.slice none 0 0)) 70) :
    Calls Try.prog 34 #[.pointer (some ⟨g, 0, none⟩), .int .i64 m] w (Acted g (handle s 5 m).1 (handle s 5 m).2 w) := by
  obtain ⟨l, r, e, n, p, d⟩ := s
  unfold handle
  dsimp only
  rw [if_pos rfl]
  by_cases h : n < m ∨ (n = m ∧ p ≠ 0)
  · rw [if_pos h]
    exact hello_open g m w B h
  · rw [if_neg h]
    by_cases hp : p = 0
    · subst hp
      rw [if_pos rfl]
      exact hello_reset g m w B (by omega)
    · rw [if_neg hp]
      exact hello_none g m w B (by omega) hp
theorem handle6 (s : Ses) (m : Int) (w : World) (g : Nat) (B : Blk w g (c7 s (.slice none 0 0)) 70) :
    Calls Try.prog 35 #[.pointer (some ⟨g, 0, none⟩), .int .i64 m] w (Acted g (handle s 6 m).1 (handle s 6 m).2 w) := by
  obtain ⟨l, r, e, n, p, d⟩ := s
  unfold handle
  dsimp only
  rw [if_neg (by decide), if_pos rfl]
  by_cases h : m ≠ n
  · rw [if_pos h]
    exact welcome_other g m w B h
  · rw [if_neg h]
    obtain rfl : m = n := by omega
    by_cases hp : p = 0
    · subst hp
      rw [if_pos rfl]
      exact welcome_reset g w B
    · rw [if_neg hp]
      exact welcome_open g w B hp
theorem handle7 (s : Ses) (m : Int) (w : World) (g : Nat) (B : Blk w g (c7 s (.slice none 0 0)) 70) :
    Calls Try.prog 36 #[.pointer (some ⟨g, 0, none⟩), .int .i64 m] w (Acted g (handle s 7 m).1 (handle s 7 m).2 w) := by
  obtain ⟨l, r, e, n, p, d⟩ := s
  unfold handle
  dsimp only
  rw [if_neg (by decide), if_neg (by decide)]
  by_cases h : m < n
  · rw [if_pos h]
    exact reset_none g m w B h
  · rw [if_neg h]
    exact reset_close g m w B (by omega)
/-- What a message that is handled leaves. -/
def takes (s : Ses) (m : Msg) : Ses × List Msg :=
  if m.e < s.e then (s, if m.k = 5 then [⟨7, s.l, s.r, s.n, s.e⟩] else []) else handle (if s.e < m.e then ⟨s.l, s.r, m.e, s.n, 0, 0⟩ else s) m.k m.n
/-- Whether a message is handled. -/
def fits (s : Ses) (m : Msg) : Prop :=
  chk s = 0 ∧ m.f = s.r ∧ m.t = s.l ∧ (0 ≤ m.e ∧ m.e ≤ 1073741824) ∧ (0 ≤ m.n ∧ m.n ≤ 1073741824) ∧ (m.k = 5 ∨ m.k = 6 ∨ m.k = 7)
instance (s : Ses) (m : Msg) : Decidable (fits s m) := by unfold fits; infer_instance
def recvF (s : Ses) (m : Msg) : Ses × List Msg := if fits s m then takes s m else (s, [])
theorem recv_any (s : Ses) (m : Msg) (x now : Int) (va ba : Option Addr) (vl vc bl bc : Nat) (hm : -9223372036854775808 ≤ m.k ∧ m.k ≤ 9223372036854775807) (w : World) :
    Calls Try.prog 17 #[S6 s, .int .i64 now, MV m x (.slice va vl vc) (.slice ba bl bc)] w (Gave (recvF s m).1 (recvF s m).2 w) := by
  obtain ⟨l, r, e, n, p, d⟩ := s
  obtain ⟨mk, mf, mt, mn, me⟩ := m
  dsimp only at hm
  unfold recvF
  by_cases hF : fits ⟨l, r, e, n, p, d⟩ ⟨mk, mf, mt, mn, me⟩
  · rw [if_pos hF]
    obtain ⟨h1, h2, h3, ⟨h4, h5⟩, ⟨h6, h7⟩, h8⟩ := hF
    dsimp only at h2 h3 h4 h5 h6 h7 h8
    subst h2 h3
    have hk := chk_zero.1 h1
    unfold takes
    dsimp only
    by_cases hold : me < e
    · rw [if_pos hold]
      rcases h8 with rfl | rfl | rfl
      · exact recv_old5 hk h6 h7 h4 hold w
      · exact recv_old6 hk h6 h7 h4 hold w
      · exact recv_old7 hk h6 h7 h4 hold w
    · rw [if_neg hold]
      by_cases hgt : e < me
      · rw [if_pos hgt]
        rcases h8 with rfl | rfl | rfl
        · exact recv_gt0 hk h6 h7 hgt h5 (handle5 _ _) w
        · exact recv_gt1 hk h6 h7 hgt h5 (handle6 _ _) w
        · exact recv_gt2 hk h6 h7 hgt h5 (handle7 _ _) w
      · rw [if_neg hgt]
        obtain rfl : me = e := by omega
        rcases h8 with rfl | rfl | rfl
        · exact recv_eq0 hk h6 h7 (handle5 _ _) w
        · exact recv_eq1 hk h6 h7 (handle6 _ _) w
        · exact recv_eq2 hk h6 h7 (handle7 _ _) w
  · rw [if_neg hF]
    by_cases h1 : Ok ⟨l, r, e, n, p, d⟩
    · by_cases h2 : mf = r
      · by_cases h3 : mt = l
        · by_cases h4 : 0 ≤ me ∧ me ≤ 1073741824
          · by_cases h5 : 0 ≤ mn ∧ mn ≤ 1073741824
            · have h8 : ¬ (mk = 5 ∨ mk = 6 ∨ mk = 7) := fun h => hF ⟨chk_zero.2 h1, h2, h3, h4, h5, h⟩
              by_cases h9 : wrap64 (mk - 5) < 0
              · exact recv_same_low h1 (bne_eq_false_iff_eq.2 h2) (bne_eq_false_iff_eq.2 h3) h4.1 h4.2 h5.1 h5.2 h9 w
              · refine recv_same_high h1 (bne_eq_false_iff_eq.2 h2) (bne_eq_false_iff_eq.2 h3) h4.1 h4.2 h5.1 h5.2 (by omega) ?_ w
                unfold wrap64 at h9 ⊢
                omega
            · exact recv_same_number h1 (bne_eq_false_iff_eq.2 h2) (bne_eq_false_iff_eq.2 h3) h4.1 h4.2 h5 w
          · exact recv_same_epoch h1 (bne_eq_false_iff_eq.2 h2) (bne_eq_false_iff_eq.2 h3) h4 w
        · exact recv_same_to h1 (bne_eq_false_iff_eq.2 h2) (bne_iff_ne.2 h3) w
      · exact recv_same_from h1 (bne_iff_ne.2 h2) w
    · exact recv_same_chk h1 w
end Go.Proofs.Ytemljffppdjmgaa
