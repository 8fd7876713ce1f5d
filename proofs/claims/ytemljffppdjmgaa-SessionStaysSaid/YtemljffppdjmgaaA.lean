/- Contracts of the session's small functions: each returns what its plain Lean function computes, and nothing that existed before the call is changed. -/
import Derived.Test.YtemljffppdjmgaaProg
import Derived.WalkKit
import Derived.Below
import Derived.KernelRfl
import Derived.Deep.QuietTactic
import Derived.BigQuiet
import Derived.WalkSmall
import Derived.Lib.Hide
import Derived.WalkLawsBesides
import Derived.Laws.Rows
namespace Go.Proofs.Ytemljffppdjmgaa
open Go.RowKit
/-! Small laws of worlds and blocks. -/
theorem ret_int {k : IntKind} {a b : Int} (h : a = b) : Ending.returned (.int k a) = .returned (.int k b) := by rw [h]
theorem ret_bool {a b : Bool} (h : a = b) : Ending.returned (.bool a) = .returned (.bool b) := by rw [h]
theorem b_step {w W w2 : World} (h : Below w.heap.size w W) (k : Below W.heap.size W w2) : Below w.heap.size w w2 := h.trans (k.mono h.size)
theorem b_alloc {w W : World} (h : Below w.heap.size w W) (o : Obj) : Below w.heap.size w (W.alloc o) := h.alloc h.size o
theorem b_set {w W : World} {g j : Nat} {v : Value} (h : Below w.heap.size w W) (hg : w.heap.size ≤ g) : Below w.heap.size w (W.setCell ⟨g, j, none⟩ v) := h.setCell hg _
theorem b_drewN {B : Nat} {w W : World} (h : Below B w W) (n : Nat) : Below B w (W.drewN n) := ⟨h.os, h.tape, h.output, h.size, h.block⟩
theorem b_drew {B : Nat} {w W : World} (h : Below B w W) : Below B w W.drew := ⟨h.os, h.tape, h.output, h.size, h.block⟩
/-- Block g holds the cells cs. -/
def Blk (w : World) (g : Nat) (cs : Array Value) (t : Nat) : Prop := w.heap[g]? = some (.cells cs t (0, 0))
theorem Blk.lt {w : World} {g t : Nat} {cs : Array Value} (h : Blk w g cs t) : g < w.heap.size := (Array.getElem?_eq_some_iff.1 h).1
theorem Blk.below {w w1 : World} {g t : Nat} {cs : Array Value} (h : Blk w g cs t) (hb : Below w.heap.size w w1) : Blk w1 g cs t := (hb.block g h.lt).trans h
theorem Blk.new (w : World) (cs : Array Value) (t : Nat) : Blk (w.alloc (.cells cs t)) w.heap.size cs t := heap_alloc_new w _
theorem Blk.alloc {w : World} {g t : Nat} {cs : Array Value} (h : Blk w g cs t) (o : Obj) : Blk (w.alloc o) g cs t := (Below.heap_alloc w o g h.lt).trans h
theorem Blk.drewN {w : World} {g t : Nat} {cs : Array Value} (h : Blk w g cs t) (n : Nat) : Blk (w.drewN n) g cs t := h
theorem Blk.drew {w : World} {g t : Nat} {cs : Array Value} (h : Blk w g cs t) : Blk w.drew g cs t := h
theorem Blk.far {w : World} {g t : Nat} {cs : Array Value} (h : Blk w g cs t) {p : Addr} (hp : g ≠ p.block) (u : Value) : Blk (w.setCell p u) g cs t := (Below.heap_setCell w p u g hp).trans h
theorem Blk.set {w : World} {g t : Nat} {cs : Array Value} (h : Blk w g cs t) (i : Nat) (u : Value) : Blk (w.setCell ⟨g, i, none⟩ u) g (cs.setIfInBounds i u) t := by
  unfold Blk at *
  simp [World.setCell, Array.getElem?_modify, h]
theorem Blk.store4 {w : World} {g t : Nat} {a b c d a' b' c' d' : Value} (h : Blk w g #[a, b, c, d] t) :
    Blk ((((w.setCell ⟨g, 0, none⟩ a').setCell ⟨g, 1, none⟩ b').setCell ⟨g, 2, none⟩ c').setCell ⟨g, 3, none⟩ d') g #[a', b', c', d'] t :=
  (((h.set 0 a').set 1 b').set 2 c').set 3 d'
theorem b_store4 {w W : World} {g : Nat} {a b c d : Value} (h : Below w.heap.size w W) (hg : w.heap.size ≤ g) :
    Below w.heap.size w ((((W.setCell ⟨g, 0, none⟩ a).setCell ⟨g, 1, none⟩ b).setCell ⟨g, 2, none⟩ c).setCell ⟨g, 3, none⟩ d) :=
  b_set (b_set (b_set (b_set h hg) hg) hg) hg
theorem Blk.cell {w : World} {g t : Nat} {cs : Array Value} (h : Blk w g cs t) (i : Nat) : w.cell? ⟨g, i, none⟩ = cs[i]? := by
  unfold Blk at h
  simp [World.cell?, h]
theorem Blk.frozen {w : World} {g t : Nat} {cs : Array Value} (h : Blk w g cs t) (i : Nat) : w.frozen? ⟨g, i, none⟩ = false := by
  unfold Blk at h
  simp [World.frozen?, h]
theorem Blk.four {w : World} {g t : Nat} {a b c d : Value} (h : Blk w g #[a, b, c, d] t) :
    w.cell? ⟨g, 0, none⟩ = some a ∧ w.cell? ⟨g, 1, none⟩ = some b ∧ w.cell? ⟨g, 2, none⟩ = some c ∧ w.cell? ⟨g, 3, none⟩ = some d ∧ w.frozen? ⟨g, 0, none⟩ = false ∧ w.frozen? ⟨g, 1, none⟩ = false ∧ w.frozen? ⟨g, 2, none⟩ = false ∧ w.frozen? ⟨g, 3, none⟩ = false :=
  ⟨h.cell 0, h.cell 1, h.cell 2, h.cell 3, h.frozen 0, h.frozen 1, h.frozen 2, h.frozen 3⟩
/-- Results of which the first lies in a block. -/
theorem results_c {P : Program} {fn : Func} {p : Tmp} {ty : TypeId} (h : fn.results = #[.cell p ty]) (tmps : Array Value) (w : World) (g : Nat) (t : Nat) (cs : Array Value) (d : TypeDesc)
    (hp : tmps.getD p undef = .pointer (some ⟨g, 0, none⟩)) (hg : Blk w g cs t)
    (hu : P.underlying ty = some d) (hd : (match d with | .struct _ | .array _ _ => true | _ => false) = true) (hi : (P.info? ty).map (·.size) = some cs.size) :
    (results fn tmps).run P w = .ok (.agg cs) w := by
  have hp' : tmps[p]?.getD undef = .pointer (some ⟨g, 0, none⟩) := by simpa using hp
  simp [results, h, hp', asAddr, run_loadVar_row w g t ty cs (0, 0) d hg hu hd hi]
theorem results_ct {P : Program} {fn : Func} {p u : Tmp} {ty : TypeId} (h : fn.results = #[.cell p ty, .tmp u]) (tmps : Array Value) (w : World) (g : Nat) (t : Nat) (cs : Array Value) (d : TypeDesc)
    (hp : tmps.getD p undef = .pointer (some ⟨g, 0, none⟩)) (hg : Blk w g cs t)
    (hu : P.underlying ty = some d) (hd : (match d with | .struct _ | .array _ _ => true | _ => false) = true) (hi : (P.info? ty).map (·.size) = some cs.size) :
    (results fn tmps).run P w = .ok (.tuple #[.agg cs, tmps.getD u undef]) w := by
  have hp' : tmps[p]?.getD undef = .pointer (some ⟨g, 0, none⟩) := by simpa using hp
  simp [results, h, hp', asAddr, run_loadVar_row w g t ty cs (0, 0) d hg hu hd hi]
theorem results_ctt {P : Program} {fn : Func} {p u v : Tmp} {ty : TypeId} (h : fn.results = #[.cell p ty, .tmp u, .tmp v]) (tmps : Array Value) (w : World) (g : Nat) (t : Nat) (cs : Array Value) (d : TypeDesc)
    (hp : tmps.getD p undef = .pointer (some ⟨g, 0, none⟩)) (hg : Blk w g cs t)
    (hu : P.underlying ty = some d) (hd : (match d with | .struct _ | .array _ _ => true | _ => false) = true) (hi : (P.info? ty).map (·.size) = some cs.size) :
    (results fn tmps).run P w = .ok (.tuple #[.agg cs, tmps.getD u undef, tmps.getD v undef]) w := by
  have hp' : tmps[p]?.getD undef = .pointer (some ⟨g, 0, none⟩) := by simpa using hp
  simp [results, h, hp', asAddr, run_loadVar_row w g t ty cs (0, 0) d hg hu hd hi]
/-- One end of a connection, as plain data. -/
structure Ses where
  l : Int
  r : Int
  e : Int
  n : Int
  p : Int
  d : Int
theorem Ses.ext' {s t : Ses} (h1 : s.l = t.l) (h2 : s.r = t.r) (h3 : s.e = t.e) (h4 : s.n = t.n) (h5 : s.p = t.p) (h6 : s.d = t.d) : s = t := by
  cases s
  cases t
  simp_all
/-- A message of a session, as plain data. -/
structure Msg where
  k : Int
  f : Int
  t : Int
  n : Int
  e : Int
abbrev c6 (s : Ses) : Array Value := #[.int .i64 s.l, .int .i64 s.r, .int .i64 s.e, .int .i64 s.n, .int .i64 s.p, .int .i64 s.d]
abbrev S6 (s : Ses) : Value := .agg (c6 s)
theorem Blk.six {w : World} {g t : Nat} {a b c d e f : Value} (h : Blk w g #[a, b, c, d, e, f] t) :
    w.cell? ⟨g, 0, none⟩ = some a ∧ w.cell? ⟨g, 1, none⟩ = some b ∧ w.cell? ⟨g, 2, none⟩ = some c ∧ w.cell? ⟨g, 3, none⟩ = some d ∧ w.cell? ⟨g, 4, none⟩ = some e ∧ w.cell? ⟨g, 5, none⟩ = some f ∧
    w.frozen? ⟨g, 0, none⟩ = false ∧ w.frozen? ⟨g, 1, none⟩ = false ∧ w.frozen? ⟨g, 2, none⟩ = false ∧ w.frozen? ⟨g, 3, none⟩ = false ∧ w.frozen? ⟨g, 4, none⟩ = false ∧ w.frozen? ⟨g, 5, none⟩ = false :=
  ⟨h.cell 0, h.cell 1, h.cell 2, h.cell 3, h.cell 4, h.cell 5, h.frozen 0, h.frozen 1, h.frozen 2, h.frozen 3, h.frozen 4, h.frozen 5⟩
theorem Blk.store6 {w : World} {g t : Nat} {a b c d e f a' b' c' d' e' f' : Value} (h : Blk w g #[a, b, c, d, e, f] t) :
    Blk ((((((w.setCell ⟨g, 0, none⟩ a').setCell ⟨g, 1, none⟩ b').setCell ⟨g, 2, none⟩ c').setCell ⟨g, 3, none⟩ d').setCell ⟨g, 4, none⟩ e').setCell ⟨g, 5, none⟩ f') g #[a', b', c', d', e', f'] t :=
  (((((h.set 0 a').set 1 b').set 2 c').set 3 d').set 4 e').set 5 f'
theorem b_store6 {w W : World} {g : Nat} {a b c d e f : Value} (h : Below w.heap.size w W) (hg : w.heap.size ≤ g) :
    Below w.heap.size w ((((((W.setCell ⟨g, 0, none⟩ a).setCell ⟨g, 1, none⟩ b).setCell ⟨g, 2, none⟩ c).setCell ⟨g, 3, none⟩ d).setCell ⟨g, 4, none⟩ e).setCell ⟨g, 5, none⟩ f) :=
  b_set (b_set (b_set (b_set (b_set (b_set h hg) hg) hg) hg) hg) hg
def isTime (n : Int) : Bool := decide (0 ≤ n ∧ n ≤ 1073741824)
def isSite (n : Int) : Bool := decide (0 ≤ n ∧ n < 4)
theorem isTime_yes {n : Int} (h : 0 ≤ n ∧ n ≤ 1073741824) : isTime n = true := decide_eq_true h
theorem isTime_no {n : Int} (h : ¬ (0 ≤ n ∧ n ≤ 1073741824)) : isTime n = false := decide_eq_false h
theorem time_any (n : Int) (w : World) : Calls Try.prog 33 #[.int .i64 n] w fun e w' => e = .returned (.bool (decide (0 ≤ n ∧ n ≤ 1073741824))) ∧ w = w' := by
  by_cases h : 0 ≤ n
  · have hd : decide (0 ≤ n ∧ n ≤ 1073741824) = decide (n ≤ 1073741824) := by simp [h]
    rw [hd]
    clear hd
    go_enter Try.func33, Try.ntmps33
    go_wp2
    go_ret
    exact ⟨rfl, rfl⟩
  · have hd : decide (0 ≤ n ∧ n ≤ 1073741824) = false := by simp [h]
    rw [hd]
    clear hd
    have h' : decide (0 ≤ n) = false := by simpa using h
    go_enter Try.func33, Try.ntmps33
    go_wp2
    go_ret
    exact ⟨rfl, rfl⟩
theorem site_any (n : Int) (w : World) : Calls Try.prog 40 #[.int .i64 n] w fun e w' => e = .returned (.bool (decide (0 ≤ n ∧ n < 4))) ∧ w = w' := by
  by_cases h : 0 ≤ n
  · have hd : decide (0 ≤ n ∧ n < 4) = decide (n < 4) := by simp [h]
    rw [hd]
    clear hd
    go_enter Try.func40, Try.ntmps40
    go_wp2
    go_ret
    exact ⟨rfl, rfl⟩
  · have hd : decide (0 ≤ n ∧ n < 4) = false := by simp [h]
    rw [hd]
    clear hd
    have h' : decide (0 ≤ n) = false := by simpa using h
    go_enter Try.func40, Try.ntmps40
    go_wp2
    go_ret
    exact ⟨rfl, rfl⟩
theorem time_yes {n : Int} (h : 0 ≤ n ∧ n ≤ 1073741824) (w : World) : Calls Try.prog 33 #[.int .i64 n] w fun e w' => e = .returned (.bool true) ∧ w = w' := by
  have := time_any n w
  rwa [decide_eq_true h] at this
theorem time_no {n : Int} (h : ¬ (0 ≤ n ∧ n ≤ 1073741824)) (w : World) : Calls Try.prog 33 #[.int .i64 n] w fun e w' => e = .returned (.bool false) ∧ w = w' := by
  have := time_any n w
  rwa [decide_eq_false h] at this
theorem site_yes {n : Int} (h : 0 ≤ n ∧ n < 4) (w : World) : Calls Try.prog 40 #[.int .i64 n] w fun e w' => e = .returned (.bool true) ∧ w = w' := by
  have := site_any n w
  rwa [decide_eq_true h] at this
theorem site_no {n : Int} (h : ¬ (0 ≤ n ∧ n < 4)) (w : World) : Calls Try.prog 40 #[.int .i64 n] w fun e w' => e = .returned (.bool false) ∧ w = w' := by
  have := site_any n w
  rwa [decide_eq_false h] at this
/-- What Check returns. -/
def chk (s : Ses) : Int :=
  if ¬ (0 ≤ s.l ∧ s.l < 4) ∨ ¬ (0 ≤ s.r ∧ s.r < 4) then 2 else if s.l = s.r then 1
  else if ¬ (0 ≤ s.e ∧ s.e ≤ 1073741824) ∨ ¬ (0 ≤ s.n ∧ s.n ≤ 1073741824) then 2
  else if s.p < 0 ∨ 2 < s.p then 12 else if ¬ (0 ≤ s.d ∧ s.d ≤ 1073741824) ∨ (s.p ≠ 1 ∧ s.d ≠ 0) then 24 else 0
/-- What it means to be in order. -/
structure Ok (s : Ses) : Prop where
  l0 : 0 ≤ s.l
  l1 : s.l < 4
  r0 : 0 ≤ s.r
  r1 : s.r < 4
  ne : s.l ≠ s.r
  e0 : 0 ≤ s.e
  e1 : s.e ≤ 1073741824
  n0 : 0 ≤ s.n
  n1 : s.n ≤ 1073741824
  p0 : 0 ≤ s.p
  p1 : s.p ≤ 2
  d0 : 0 ≤ s.d
  d1 : s.d ≤ 1073741824
  pd : s.p = 1 ∨ s.d = 0
theorem chk_zero {s : Ses} : chk s = 0 ↔ Ok s := by
  constructor
  · intro h
    unfold chk at h
    constructor <;> (split at h <;> (try omega) <;> split at h <;> (try omega) <;> split at h <;> (try omega) <;> split at h <;> (try omega) <;> split at h <;> omega)
  · intro h
    obtain ⟨h1, h2, h3, h4, h5, h6, h7, h8, h9, h10, h11, h12, h13, h14⟩ := h
    unfold chk
    rw [if_neg (by omega), if_neg (by omega), if_neg (by omega), if_neg (by omega), if_neg (by omega)]
theorem chk_l {l r e n p d : Int} (h : ¬ (0 ≤ l ∧ l < 4)) (w : World) :
    Calls Try.prog 22 #[S6 ⟨l, r, e, n, p, d⟩] w fun e w' => e = .returned (.int .i64 2) ∧ Below w.heap.size w w' := by
  have HN := Lib.hid h
  clear h
  go_enter Try.func22, Try.ntmps22
  go_wp2_with (first | (go_at_call 40; (first | (with_reducible refine (site_no HN.out _).mono ?_) | refine (site_yes (by omega) _).mono ?_); rintro e w' ⟨rfl, rfl⟩) | (go_at_call 33; (first | (with_reducible refine (time_no HN.out _).mono ?_) | refine (time_yes (by omega) _).mono ?_); rintro e w' ⟨rfl, rfl⟩))
  go_ret
  exact ⟨rfl, b_alloc (Below.refl _ _) _⟩
theorem chk_r {l r e n p d : Int} (l0 : 0 ≤ l) (l1 : l < 4) (h : ¬ (0 ≤ r ∧ r < 4)) (w : World) :
    Calls Try.prog 22 #[S6 ⟨l, r, e, n, p, d⟩] w fun e w' => e = .returned (.int .i64 2) ∧ Below w.heap.size w w' := by
  have HN := Lib.hid h
  clear h
  go_enter Try.func22, Try.ntmps22
  go_wp2_with (first | (go_at_call 40; (first | (with_reducible refine (site_no HN.out _).mono ?_) | refine (site_yes (by omega) _).mono ?_); rintro e w' ⟨rfl, rfl⟩) | (go_at_call 33; (first | (with_reducible refine (time_no HN.out _).mono ?_) | refine (time_yes (by omega) _).mono ?_); rintro e w' ⟨rfl, rfl⟩))
  go_ret
  exact ⟨rfl, b_alloc (Below.refl _ _) _⟩
theorem chk_eq {l r e n p d : Int} (l0 : 0 ≤ l) (l1 : l < 4) (r0 : 0 ≤ r) (r1 : r < 4) (h : (l == r) = true) (w : World) :
    Calls Try.prog 22 #[S6 ⟨l, r, e, n, p, d⟩] w fun e w' => e = .returned (.int .i64 1) ∧ Below w.heap.size w w' := by
  go_enter Try.func22, Try.ntmps22
  go_wp2_with (first | (go_at_call 40; (first | refine (site_yes (by omega) _).mono ?_ | refine (site_no (by omega) _).mono ?_); rintro e w' ⟨rfl, rfl⟩) | (go_at_call 33; (first | refine (time_yes (by omega) _).mono ?_ | refine (time_no (by omega) _).mono ?_); rintro e w' ⟨rfl, rfl⟩))
  go_ret
  exact ⟨rfl, b_alloc (Below.refl _ _) _⟩
theorem chk_e {l r e n p d : Int} (l0 : 0 ≤ l) (l1 : l < 4) (r0 : 0 ≤ r) (r1 : r < 4) (hne : (l == r) = false) (h : ¬ (0 ≤ e ∧ e ≤ 1073741824)) (w : World) :
    Calls Try.prog 22 #[S6 ⟨l, r, e, n, p, d⟩] w fun e w' => e = .returned (.int .i64 2) ∧ Below w.heap.size w w' := by
  have HN := Lib.hid h
  clear h
  go_enter Try.func22, Try.ntmps22
  go_wp2_with (first | (go_at_call 40; (first | (with_reducible refine (site_no HN.out _).mono ?_) | refine (site_yes (by omega) _).mono ?_); rintro e w' ⟨rfl, rfl⟩) | (go_at_call 33; (first | (with_reducible refine (time_no HN.out _).mono ?_) | refine (time_yes (by omega) _).mono ?_); rintro e w' ⟨rfl, rfl⟩))
  go_ret
  exact ⟨rfl, b_alloc (Below.refl _ _) _⟩
theorem chk_n {l r e n p d : Int} (l0 : 0 ≤ l) (l1 : l < 4) (r0 : 0 ≤ r) (r1 : r < 4) (hne : (l == r) = false) (e0 : 0 ≤ e) (e1 : e ≤ 1073741824) (h : ¬ (0 ≤ n ∧ n ≤ 1073741824)) (w : World) :
    Calls Try.prog 22 #[S6 ⟨l, r, e, n, p, d⟩] w fun e w' => e = .returned (.int .i64 2) ∧ Below w.heap.size w w' := by
  have HN := Lib.hid h
  clear h
  go_enter Try.func22, Try.ntmps22
  go_wp2_with (first | (go_at_call 40; (first | (with_reducible refine (site_no HN.out _).mono ?_) | refine (site_yes (by omega) _).mono ?_); rintro e w' ⟨rfl, rfl⟩) | (go_at_call 33; (first | (with_reducible refine (time_no HN.out _).mono ?_) | refine (time_yes (by omega) _).mono ?_); rintro e w' ⟨rfl, rfl⟩))
  go_ret
  exact ⟨rfl, b_alloc (Below.refl _ _) _⟩
theorem chk_p0 {l r e n p d : Int} (l0 : 0 ≤ l) (l1 : l < 4) (r0 : 0 ≤ r) (r1 : r < 4) (hne : (l == r) = false) (e0 : 0 ≤ e) (e1 : e ≤ 1073741824) (n0 : 0 ≤ n) (n1 : n ≤ 1073741824) (h : p < 0) (w : World) :
    Calls Try.prog 22 #[S6 ⟨l, r, e, n, p, d⟩] w fun e w' => e = .returned (.int .i64 12) ∧ Below w.heap.size w w' := by
  go_enter Try.func22, Try.ntmps22
  go_wp2_with (first | (go_at_call 40; (first | refine (site_yes (by omega) _).mono ?_ | refine (site_no (by omega) _).mono ?_); rintro e w' ⟨rfl, rfl⟩) | (go_at_call 33; (first | refine (time_yes (by omega) _).mono ?_ | refine (time_no (by omega) _).mono ?_); rintro e w' ⟨rfl, rfl⟩))
  go_ret
  exact ⟨rfl, b_alloc (Below.refl _ _) _⟩
theorem chk_p1 {l r e n p d : Int} (l0 : 0 ≤ l) (l1 : l < 4) (r0 : 0 ≤ r) (r1 : r < 4) (hne : (l == r) = false) (e0 : 0 ≤ e) (e1 : e ≤ 1073741824) (n0 : 0 ≤ n) (n1 : n ≤ 1073741824) (_ : 0 ≤ p) (h : 2 < p) (w : World) :
    Calls Try.prog 22 #[S6 ⟨l, r, e, n, p, d⟩] w fun e w' => e = .returned (.int .i64 12) ∧ Below w.heap.size w w' := by
  go_enter Try.func22, Try.ntmps22
  go_wp2_with (first | (go_at_call 40; (first | refine (site_yes (by omega) _).mono ?_ | refine (site_no (by omega) _).mono ?_); rintro e w' ⟨rfl, rfl⟩) | (go_at_call 33; (first | refine (time_yes (by omega) _).mono ?_ | refine (time_no (by omega) _).mono ?_); rintro e w' ⟨rfl, rfl⟩))
  go_ret
  exact ⟨rfl, b_alloc (Below.refl _ _) _⟩
theorem chk_d {l r e n p d : Int} (l0 : 0 ≤ l) (l1 : l < 4) (r0 : 0 ≤ r) (r1 : r < 4) (hne : (l == r) = false) (e0 : 0 ≤ e) (e1 : e ≤ 1073741824) (n0 : 0 ≤ n) (n1 : n ≤ 1073741824) (p0 : 0 ≤ p) (p1 : p ≤ 2) (h : ¬ (0 ≤ d ∧ d ≤ 1073741824)) (w : World) :
    Calls Try.prog 22 #[S6 ⟨l, r, e, n, p, d⟩] w fun e w' => e = .returned (.int .i64 24) ∧ Below w.heap.size w w' := by
  have HN := Lib.hid h
  clear h
  go_enter Try.func22, Try.ntmps22
  go_wp2_with (first | (go_at_call 40; (first | (with_reducible refine (site_no HN.out _).mono ?_) | refine (site_yes (by omega) _).mono ?_); rintro e w' ⟨rfl, rfl⟩) | (go_at_call 33; (first | (with_reducible refine (time_no HN.out _).mono ?_) | refine (time_yes (by omega) _).mono ?_); rintro e w' ⟨rfl, rfl⟩))
  go_ret
  exact ⟨rfl, b_alloc (Below.refl _ _) _⟩
theorem chk_pd {l r e n p d : Int} (l0 : 0 ≤ l) (l1 : l < 4) (r0 : 0 ≤ r) (r1 : r < 4) (hne : (l == r) = false) (e0 : 0 ≤ e) (e1 : e ≤ 1073741824) (n0 : 0 ≤ n) (n1 : n ≤ 1073741824) (p0 : 0 ≤ p) (p1 : p ≤ 2) (d0 : 0 ≤ d) (d1 : d ≤ 1073741824) (h : (p != 1) = true) (h' : (d != 0) = true) (w : World) :
    Calls Try.prog 22 #[S6 ⟨l, r, e, n, p, d⟩] w fun e w' => e = .returned (.int .i64 24) ∧ Below w.heap.size w w' := by
  go_enter Try.func22, Try.ntmps22
  go_wp2_with (first | (go_at_call 40; (first | refine (site_yes (by omega) _).mono ?_ | refine (site_no (by omega) _).mono ?_); rintro e w' ⟨rfl, rfl⟩) | (go_at_call 33; (first | refine (time_yes (by omega) _).mono ?_ | refine (time_no (by omega) _).mono ?_); rintro e w' ⟨rfl, rfl⟩))
  go_ret
  exact ⟨rfl, b_alloc (Below.refl _ _) _⟩
theorem chk_ok1 {l r e n p d : Int} (l0 : 0 ≤ l) (l1 : l < 4) (r0 : 0 ≤ r) (r1 : r < 4) (hne : (l == r) = false) (e0 : 0 ≤ e) (e1 : e ≤ 1073741824) (n0 : 0 ≤ n) (n1 : n ≤ 1073741824) (p0 : 0 ≤ p) (p1 : p ≤ 2) (d0 : 0 ≤ d) (d1 : d ≤ 1073741824) (h : (p != 1) = false) (w : World) :
    Calls Try.prog 22 #[S6 ⟨l, r, e, n, p, d⟩] w fun e w' => e = .returned (.int .i64 0) ∧ Below w.heap.size w w' := by
  go_enter Try.func22, Try.ntmps22
  go_wp2_with (first | (go_at_call 40; (first | refine (site_yes (by omega) _).mono ?_ | refine (site_no (by omega) _).mono ?_); rintro e w' ⟨rfl, rfl⟩) | (go_at_call 33; (first | refine (time_yes (by omega) _).mono ?_ | refine (time_no (by omega) _).mono ?_); rintro e w' ⟨rfl, rfl⟩))
  go_ret
  exact ⟨rfl, b_alloc (Below.refl _ _) _⟩
theorem chk_ok2 {l r e n p d : Int} (l0 : 0 ≤ l) (l1 : l < 4) (r0 : 0 ≤ r) (r1 : r < 4) (hne : (l == r) = false) (e0 : 0 ≤ e) (e1 : e ≤ 1073741824) (n0 : 0 ≤ n) (n1 : n ≤ 1073741824) (p0 : 0 ≤ p) (p1 : p ≤ 2) (d0 : 0 ≤ d) (d1 : d ≤ 1073741824) (h : (p != 1) = true) (h' : (d != 0) = false) (w : World) :
    Calls Try.prog 22 #[S6 ⟨l, r, e, n, p, d⟩] w fun e w' => e = .returned (.int .i64 0) ∧ Below w.heap.size w w' := by
  go_enter Try.func22, Try.ntmps22
  go_wp2_with (first | (go_at_call 40; (first | refine (site_yes (by omega) _).mono ?_ | refine (site_no (by omega) _).mono ?_); rintro e w' ⟨rfl, rfl⟩) | (go_at_call 33; (first | refine (time_yes (by omega) _).mono ?_ | refine (time_no (by omega) _).mono ?_); rintro e w' ⟨rfl, rfl⟩))
  go_ret
  exact ⟨rfl, b_alloc (Below.refl _ _) _⟩
theorem chk_any (s : Ses) (w : World) :
    Calls Try.prog 22 #[S6 s] w fun e w' => e = .returned (.int .i64 (chk s)) ∧ Below w.heap.size w w' := by
  obtain ⟨l, r, e, n, p, d⟩ := s
  unfold chk
  dsimp only
  by_cases hl : 0 ≤ l ∧ l < 4
  · by_cases hr : 0 ≤ r ∧ r < 4
    · rw [if_neg (by omega)]
      by_cases hlr : l = r
      · rw [if_pos hlr]
        exact chk_eq hl.1 hl.2 hr.1 hr.2 (beq_iff_eq.2 hlr) w
      · rw [if_neg hlr]
        by_cases he : 0 ≤ e ∧ e ≤ 1073741824
        · by_cases hn : 0 ≤ n ∧ n ≤ 1073741824
          · rw [if_neg (by omega)]
            by_cases h0 : p < 0
            · rw [if_pos (by omega)]
              exact chk_p0 hl.1 hl.2 hr.1 hr.2 (beq_eq_false_iff_ne.2 hlr) he.1 he.2 hn.1 hn.2 h0 w
            · by_cases h1 : 2 < p
              · rw [if_pos (by omega)]
                exact chk_p1 hl.1 hl.2 hr.1 hr.2 (beq_eq_false_iff_ne.2 hlr) he.1 he.2 hn.1 hn.2 (by omega) h1 w
              · rw [if_neg (by omega)]
                by_cases hd : 0 ≤ d ∧ d ≤ 1073741824
                · by_cases hp : p = 1
                  · rw [if_neg (by omega)]
                    exact chk_ok1 hl.1 hl.2 hr.1 hr.2 (beq_eq_false_iff_ne.2 hlr) he.1 he.2 hn.1 hn.2 (by omega) (by omega) hd.1 hd.2 (bne_eq_false_iff_eq.2 hp) w
                  · by_cases hz : d = 0
                    · rw [if_neg (by omega)]
                      exact chk_ok2 hl.1 hl.2 hr.1 hr.2 (beq_eq_false_iff_ne.2 hlr) he.1 he.2 hn.1 hn.2 (by omega) (by omega) hd.1 hd.2 (bne_iff_ne.2 hp) (bne_eq_false_iff_eq.2 hz) w
                    · rw [if_pos (by omega)]
                      exact chk_pd hl.1 hl.2 hr.1 hr.2 (beq_eq_false_iff_ne.2 hlr) he.1 he.2 hn.1 hn.2 (by omega) (by omega) hd.1 hd.2 (bne_iff_ne.2 hp) (bne_iff_ne.2 hz) w
                · rw [if_pos (by omega)]
                  exact chk_d hl.1 hl.2 hr.1 hr.2 (beq_eq_false_iff_ne.2 hlr) he.1 he.2 hn.1 hn.2 (by omega) (by omega) hd w
          · rw [if_pos (by omega)]
            exact chk_n hl.1 hl.2 hr.1 hr.2 (beq_eq_false_iff_ne.2 hlr) he.1 he.2 hn w
        · rw [if_pos (by omega)]
          exact chk_e hl.1 hl.2 hr.1 hr.2 (beq_eq_false_iff_ne.2 hlr) he w
    · rw [if_pos (by omega)]
      exact chk_r hl.1 hl.2 hr w
  · rw [if_pos (by omega)]
    exact chk_l hl w
theorem chk_ok {s : Ses} (h : Ok s) (w : World) :
    Calls Try.prog 22 #[S6 s] w fun e w' => e = .returned (.int .i64 0) ∧ Below w.heap.size w w' := by
  have := chk_any s w
  rwa [chk_zero.2 h] at this
end Go.Proofs.Ytemljffppdjmgaa
