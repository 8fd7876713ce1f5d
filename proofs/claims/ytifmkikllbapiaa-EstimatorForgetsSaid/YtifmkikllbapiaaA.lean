/- Contracts of the estimator's functions: each returns what its plain Lean function computes, and nothing that existed before the call is changed. -/
import Derived.Test.YtifmkikllbapiaaProg
import Derived.WalkKit
import Derived.Below
import Derived.KernelRfl
import Derived.Deep.QuietTactic
import Derived.BigQuiet
import Derived.WalkSmall
import Derived.Laws.Rows
import Derived.Lib.Hide
import Derived.WalkLawsBesides
namespace Go.Proofs.Ytifmkikllbapiaa
open Go.RowKit
/-! Small laws of worlds and blocks. -/
theorem ret_int {k : IntKind} {a b : Int} (h : a = b) : Ending.returned (.int k a) = .returned (.int k b) := by rw [h]
theorem ret_bool {a b : Bool} (h : a = b) : Ending.returned (.bool a) = .returned (.bool b) := by rw [h]
theorem b_step {w W w2 : World} (h : Below w.heap.size w W) (k : Below W.heap.size W w2) : Below w.heap.size w w2 := h.trans (k.mono h.size)
theorem b_alloc {w W : World} (h : Below w.heap.size w W) (o : Obj) : Below w.heap.size w (W.alloc o) := h.alloc h.size o
theorem b_set {w W : World} {g j : Nat} {v : Value} (h : Below w.heap.size w W) (hg : w.heap.size ≤ g) : Below w.heap.size w (W.setCell ⟨g, j, none⟩ v) := h.setCell hg _
theorem b_drewN {B : Nat} {w W : World} (h : Below B w W) (n : Nat) : Below B w (W.drewN n) := ⟨h.os, h.tape, h.output, h.size, h.block⟩
theorem b_drew {B : Nat} {w W : World} (h : Below B w W) : Below B w W.drew := ⟨h.os, h.tape, h.output, h.size, h.block⟩
/-- Block g holds the cells cs. -/
def Blk (w : World) (g : Nat) (cs : Array Value) (t : Nat) : Prop := w.heap[g]? = some (.cells cs t (0, 0))
theorem Blk.lt {w : World} {g t : Nat} {cs : Array Value} (h : Blk w g cs t) : g < w.heap.size := (Array.getElem?_eq_some_iff.1 h).1
theorem Blk.below {w w1 : World} {g t : Nat} {cs : Array Value} (h : Blk w g cs t) (hb : Below w.heap.size w w1) : Blk w1 g cs t := (hb.block g h.lt).trans h
theorem Blk.new (w : World) (cs : Array Value) (t : Nat) : Blk (w.alloc (.cells cs t)) w.heap.size cs t := heap_alloc_new w _
theorem Blk.alloc {w : World} {g t : Nat} {cs : Array Value} (h : Blk w g cs t) (o : Obj) : Blk (w.alloc o) g cs t := (Below.heap_alloc w o g h.lt).trans h
theorem Blk.drewN {w : World} {g t : Nat} {cs : Array Value} (h : Blk w g cs t) (n : Nat) : Blk (w.drewN n) g cs t := h
theorem Blk.drew {w : World} {g t : Nat} {cs : Array Value} (h : Blk w g cs t) : Blk w.drew g cs t := h
theorem Blk.far {w : World} {g t : Nat} {cs : Array Value} (h : Blk w g cs t) {p : Addr} (hp : g ≠ p.block) (u : Value) : Blk (w.setCell p u) g cs t := (Below.heap_setCell w p u g hp).trans h
theorem Blk.set {w : World} {g t : Nat} {cs : Array Value} (h : Blk w g cs t) (i : Nat) (u : Value) : Blk (w.setCell ⟨g, i, none⟩ u) g (cs.setIfInBounds i u) t := by
  unfold Blk at *
  simp [World.setCell, Array.getElem?_modify, h]
theorem Blk.store4 {w : World} {g t : Nat} {a b c d a' b' c' d' : Value} (h : Blk w g #[a, b, c, d] t) :
    Blk ((((w.setCell ⟨g, 0, none⟩ a').setCell ⟨g, 1, none⟩ b').setCell ⟨g, 2, none⟩ c').setCell ⟨g, 3, none⟩ d') g #[a', b', c', d'] t :=
  (((h.set 0 a').set 1 b').set 2 c').set 3 d'
theorem b_store4 {w W : World} {g : Nat} {a b c d : Value} (h : Below w.heap.size w W) (hg : w.heap.size ≤ g) :
    Below w.heap.size w ((((W.setCell ⟨g, 0, none⟩ a).setCell ⟨g, 1, none⟩ b).setCell ⟨g, 2, none⟩ c).setCell ⟨g, 3, none⟩ d) :=
  b_set (b_set (b_set (b_set h hg) hg) hg) hg
theorem Blk.cell {w : World} {g t : Nat} {cs : Array Value} (h : Blk w g cs t) (i : Nat) : w.cell? ⟨g, i, none⟩ = cs[i]? := by
  unfold Blk at h
  simp [World.cell?, h]
theorem Blk.frozen {w : World} {g t : Nat} {cs : Array Value} (h : Blk w g cs t) (i : Nat) : w.frozen? ⟨g, i, none⟩ = false := by
  unfold Blk at h
  simp [World.frozen?, h]
theorem Blk.four {w : World} {g t : Nat} {a b c d : Value} (h : Blk w g #[a, b, c, d] t) :
    w.cell? ⟨g, 0, none⟩ = some a ∧ w.cell? ⟨g, 1, none⟩ = some b ∧ w.cell? ⟨g, 2, none⟩ = some c ∧ w.cell? ⟨g, 3, none⟩ = some d ∧ w.frozen? ⟨g, 0, none⟩ = false ∧ w.frozen? ⟨g, 1, none⟩ = false ∧ w.frozen? ⟨g, 2, none⟩ = false ∧ w.frozen? ⟨g, 3, none⟩ = false :=
  ⟨h.cell 0, h.cell 1, h.cell 2, h.cell 3, h.frozen 0, h.frozen 1, h.frozen 2, h.frozen 3⟩
/-- Results of which the first lies in a block. -/
theorem results_c {P : Program} {fn : Func} {p : Tmp} {ty : TypeId} (h : fn.results = #[.cell p ty]) (tmps : Array Value) (w : World) (g : Nat) (t : Nat) (cs : Array Value) (d : TypeDesc)
    (hp : tmps.getD p undef = .pointer (some ⟨g, 0, none⟩)) (hg : Blk w g cs t)
    (hu : P.underlying ty = some d) (hd : (match d with | .struct _ | .array _ _ => true | _ => false) = true) (hi : (P.info? ty).map (·.size) = some cs.size) :
    (results fn tmps).run P w = .ok (.agg cs) w := by
  have hp' : tmps[p]?.getD undef = .pointer (some ⟨g, 0, none⟩) := by simpa using hp
  simp [results, h, hp', asAddr, run_loadVar_row w g t ty cs (0, 0) d hg hu hd hi]
theorem results_ct {P : Program} {fn : Func} {p u : Tmp} {ty : TypeId} (h : fn.results = #[.cell p ty, .tmp u]) (tmps : Array Value) (w : World) (g : Nat) (t : Nat) (cs : Array Value) (d : TypeDesc)
    (hp : tmps.getD p undef = .pointer (some ⟨g, 0, none⟩)) (hg : Blk w g cs t)
    (hu : P.underlying ty = some d) (hd : (match d with | .struct _ | .array _ _ => true | _ => false) = true) (hi : (P.info? ty).map (·.size) = some cs.size) :
    (results fn tmps).run P w = .ok (.tuple #[.agg cs, tmps.getD u undef]) w := by
  have hp' : tmps[p]?.getD undef = .pointer (some ⟨g, 0, none⟩) := by simpa using hp
  simp [results, h, hp', asAddr, run_loadVar_row w g t ty cs (0, 0) d hg hu hd hi]
theorem results_ctt {P : Program} {fn : Func} {p u v : Tmp} {ty : TypeId} (h : fn.results = #[.cell p ty, .tmp u, .tmp v]) (tmps : Array Value) (w : World) (g : Nat) (t : Nat) (cs : Array Value) (d : TypeDesc)
    (hp : tmps.getD p undef = .pointer (some ⟨g, 0, none⟩)) (hg : Blk w g cs t)
    (hu : P.underlying ty = some d) (hd : (match d with | .struct _ | .array _ _ => true | _ => false) = true) (hi : (P.info? ty).map (·.size) = some cs.size) :
    (results fn tmps).run P w = .ok (.tuple #[.agg cs, tmps.getD u undef, tmps.getD v undef]) w := by
  have hp' : tmps[p]?.getD undef = .pointer (some ⟨g, 0, none⟩) := by simpa using hp
  simp [results, h, hp', asAddr, run_loadVar_row w g t ty cs (0, 0) d hg hu hd hi]
/-- A struct of four ints. -/
abbrev E4 (a b c d : Int) : Value := .agg #[.int .i64 a, .int .i64 b, .int .i64 c, .int .i64 d]
/-- What a well-formed estimator is. -/
def Ok (a b c d : Int) : Prop := (0 ≤ a ∧ a ≤ 1073741824) ∧ (0 ≤ b ∧ b ≤ 8589934592) ∧ (0 ≤ c ∧ c ≤ 8589934592) ∧ (0 ≤ d ∧ d ≤ 12) ∧ (a = 0 → b = 0 ∧ c = 0)
instance (a b c d : Int) : Decidable (Ok a b c d) := by unfold Ok; infer_instance
def chk (a b c d : Int) : Int := if Ok a b c d then 0 else 3
theorem between_any (n m : Int) (w : World) :
    Calls Try.prog 23 #[.int .i64 n, .int .i64 m] w fun e w' => e = .returned (.bool (decide (0 ≤ n ∧ n ≤ m))) ∧ w = w' := by
  by_cases h : 0 ≤ n
  · have hd : decide (0 ≤ n ∧ n ≤ m) = decide (n ≤ m) := by simp [h]
    rw [hd]
    clear hd
    go_enter Try.func23, Try.ntmps23
    go_wp2
    go_ret
    exact ⟨rfl, rfl⟩
  · have hd : decide (0 ≤ n ∧ n ≤ m) = false := by simp [h]
    rw [hd]
    clear hd
    have h' : decide (0 ≤ n) = false := by simpa using h
    go_enter Try.func23, Try.ntmps23
    go_wp2
    go_ret
    exact ⟨rfl, rfl⟩
set_option maxHeartbeats 400000 in
theorem chk_any (a b c d : Int) (w : World) :
    Calls Try.prog 13 #[E4 a b c d] w fun e w' => e = .returned (.int .i64 (chk a b c d)) ∧ Below w.heap.size w w' := by
  unfold E4
  go_enter Try.func13, Try.ntmps13
  go_wp2_with (go_at_call 23; refine (between_any _ _ _).mono ?_; rintro e w' ⟨rfl, rfl⟩)
  all_goals
    go_ret
    refine ⟨ret_int ?_, ?_⟩
    · unfold chk Ok
      simp_all <;> omega
    · exact (Below.refl _ _).alloc (Nat.le_refl _) _
theorem chk_ok {a b c d : Int} (h : Ok a b c d) (w : World) :
    Calls Try.prog 13 #[E4 a b c d] w fun e w' => e = .returned (.int .i64 0) ∧ Below w.heap.size w w' := by
  have := chk_any a b c d w
  rwa [show chk a b c d = 0 from if_pos h] at this
theorem chk_no {a b c d : Int} (h : ¬ Ok a b c d) (w : World) :
    Calls Try.prog 13 #[E4 a b c d] w fun e w' => e = .returned (.int .i64 3) ∧ Below w.heap.size w w' := by
  have := chk_any a b c d w
  rwa [show chk a b c d = 3 from if_neg h] at this
theorem new_any (w : World) : Calls Try.prog 15 #[] w fun e w' => e = .returned (E4 0 0 0 0) ∧ Below w.heap.size w w' := by
  go_enter Try.func15, Try.ntmps15
  go_wp2
  exact bodyPost_ret (v := E4 0 0 0 0) (by simp [results, Try.results15, go_sem, E4]) rfl ⟨rfl, (((Below.refl _ _).alloc (Nat.le_refl _) _))⟩
end Go.Proofs.Ytifmkikllbapiaa
