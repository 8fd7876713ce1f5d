/- The contract of deliver. -/
import Derived.Test.YtemljffppdjmgaaQ
import Derived.Deep.LoopGhost
import Derived.Deep.DeepCutAuto
import Derived.Laws.OwnMore
namespace Go.Proofs.Ytemljffppdjmgaa
open Go.RowKit Go.Proofs.YtemljffppdjmgaaW.PrintLast
set_option linter.unusedVariables false
set_option linter.unusedSimpArgs false
/-- Messages handed to a session, one after another. -/
def dlv (s : Ses) (ms : List Msg) : Ses × List Msg := ms.foldl (fun a m => ((recvF a.1 m).1, a.2 ++ (recvF a.1 m).2)) (s, [])
theorem dlv_snoc (s : Ses) (ms : List Msg) (m : Msg) : dlv s (ms ++ [m]) = ((recvF (dlv s ms).1 m).1, (dlv s ms).2 ++ (recvF (dlv s ms).1 m).2) := by
  unfold dlv
  rw [List.foldl_append]
  rfl
theorem take_snoc (ms : List Msg) (k : Nat) (h : k < ms.length) : ms.take (k + 1) = ms.take k ++ [ms[k]] := by
  rw [List.take_succ_eq_append_getElem h]
theorem recv_short (s : Ses) (m : Msg) : (recvF s m).2.length ≤ 1 := by
  unfold recvF takes handle
  repeat' split
  all_goals simp
theorem dlv_short (s : Ses) (ms : List Msg) : (dlv s ms).2.length ≤ ms.length := by
  have key : ∀ (ms : List Msg) (a : Ses × List Msg), (ms.foldl (fun a m => ((recvF a.1 m).1, a.2 ++ (recvF a.1 m).2)) a).2.length ≤ a.2.length + ms.length := by
    intro ms
    induction ms with
    | nil => intro a; simp
    | cons m ms ih =>
      intro a
      have h1 := ih ((recvF a.1 m).1, a.2 ++ (recvF a.1 m).2)
      have h2 := recv_short a.1 m
      simp only [List.foldl_cons, List.length_cons, List.length_append] at *
      omega
  have := key ms (s, [])
  simpa [dlv] using this
/-- A row of messages, cell by cell. -/
theorem flat_at (ms : List Msg) (i j : Nat) (hi : i < ms.length) (hj : j < 8) : (ms.flatMap cM)[i * 8 + j]? = (cM ms[i])[j]? := by
  induction ms generalizing i with
  | nil => simp at hi
  | cons m ms ih =>
    rw [List.flatMap_cons]
    cases i with
    | zero =>
      rw [List.getElem?_append_left (by show _ < 8; omega)]
      simp
    | succ i =>
      rw [List.getElem?_append_right (by show 8 ≤ _; omega)]
      have e : (i + 1) * 8 + j - (cM m).length = i * 8 + j := by
        show (i + 1) * 8 + j - 8 = i * 8 + j
        omega
      rw [e, ih i (by simpa using hi)]
      simp
theorem Row.open {w : World} {base : Nat} {v : Value} {ms : List Msg} (h : Row w base v ms) :
    (v = .slice none 0 0 ∧ ms = []) ∨ ∃ (g cap : Nat), v = .slice (some ⟨g, 0, none⟩) ms.length cap ∧ base ≤ g ∧ g < w.heap.size ∧ ms.length ≤ cap ∧
      ∀ i (hi : i < ms.length), ∀ j, j < 8 → w.cell? ⟨g, i * 8 + j, none⟩ = (cM ms[i])[j]? := by
  rcases h.1.2 with ⟨h1, h2⟩ | ⟨g, cap, cur, h1, h2, h3, h4, h5, h6, h7⟩
  · exact .inl ⟨h1, List.eq_nil_of_length_eq_zero h2⟩
  · refine .inr ⟨g, cap, h1, h2, (Array.getElem?_eq_some_iff.1 h3).1, h4, fun i hi j hj => ?_⟩
    rw [Blk.cell (t := 51) (cs := cur) h3, ← flat_at ms i j hi hj, ← h7]
    rw [List.getElem?_take]
    rw [if_pos (by have : i * 8 + 8 ≤ ms.length * 8 := by omega
                   omega)]
    simp
theorem flat_one (ms : List Msg) : ∀ u ∈ ms.flatMap cM, u.oneCell' = true := by
  intro u hu
  obtain ⟨m, _, h⟩ := List.mem_flatMap.1 hu
  exact cM_one m u h
/-- append(s, x...) at a step of a drawn region: both rows of messages, s the call's own. -/
theorem step_append_row {ops : Array Oper} {o : Oper} {a : Act} {w : World} {K : Act → World → Prop} {Q : Exit → Act → World → Prop} {E : Prop} (hgd : o.guard = none) (s x : Operand)
    (ho : o.op = .call { callee := .builtin .append, args := #[s, x], argTypes := #[32, 32] }) (base base2 : Nat) (v u : Value) (ms os : List Msg) (hs : a.eval s = v) (hx : a.eval x = u)
    (hv : Row w base v ms) (hu : Row w base2 u os) (hlen : ms.length + os.length ≤ 1000000) (hbase : base ≤ w.heap.size)
    (h : ∀ v' w', Row w' base v' (ms ++ os) → w.grownBy w' v.ownBlock → K (a.put o.dst v') w') :
    if Region.wanted o (yielded ops a.tmps) = true then Oper.wp Try.prog o a w K Q else E := by
  obtain ⟨i0, hi, hz0, hz1, hz2⟩ := info_parts info51
  rcases hu.1.2 with ⟨h1, h2⟩ | ⟨g, cap, cur, h1, h2, h3, h4, h5, h6, h7⟩
  · have he : os = [] := List.eq_nil_of_length_eq_zero h2
    subst he
    have hw : Region.wanted o (yielded ops a.tmps) = true := by simp [Region.wanted, hgd]
    rw [if_pos hw]
    have hrun := run_append_owned_none (P := Try.prog) (w := w) base 32 o.type 51 i0 8 Try.underlying32 hi v ms.length (ms.flatMap cM) hv.1
    have hk := h v w (by rw [List.append_nil]; exact hv) (g_refl _ _)
    unfold Oper.wp
    simp [execOp, ho, resolve, invoke, builtin, hs, hx, h1, hrun, Result.andThen]
    exact hk
  · have hne : os ≠ [] := by
      intro he
      have := hu.2 he
      rw [h1] at this
      simp at this
    have hpos : 0 < os.length := List.length_pos_iff.2 hne
    refine step_append_lies w hgd s x 32 ho base 51 i0 zM 8 96 Try.underlying32 hi hz0 hz1 hz2 rfl (by decide) v ms.length (ms.flatMap cM) hs hv.1 ⟨g, 0, none⟩ os.length cap (os.flatMap cM) (hx.trans h1) (by have := hu.1.1; rw [this]) (World.ownsRow.cells hu.1 (by rw [h1]; rfl)) (flat_one os) hpos (by simp only [maxLen]; omega) (by omega) hbase _ rfl ?_
    intro g2 cap2 w2 hown hgrow hor hlt
    refine h _ _ ⟨?_, ?_⟩ hgrow
    · rw [List.length_append, List.flatMap_append]
      exact hown
    · intro h
      exact absurd (List.append_eq_nil_iff.1 h).2 hne
/-- What deliver keeps over a call: its two blocks, and what it has collected. -/
def Dk (w : World) (t : Ses) (vo : Value) (os : List Msg) (w' : World) : Prop :=
  Blk w' w.heap.size (c6 t) 28 ∧ Blk w' (w.heap.size + 1) (c6 zS) 28 ∧ Row w' (w.heap.size + 2) vo os ∧ Below w.heap.size w w'
theorem Dk.below {w W W' : World} {t : Ses} {vo : Value} {os : List Msg} (h : Dk w t vo os W) (hb : Below W.heap.size W W') : Dk w t vo os W' :=
  ⟨h.1.below hb, h.2.1.below hb, h.2.2.1.below hb, b_step h.2.2.2 hb⟩
theorem Dk.drew {w W : World} {t : Ses} {vo : Value} {os : List Msg} (h : Dk w t vo os W) : Dk w t vo os W.drew := ⟨h.1, h.2.1, h.2.2.1, b_drew h.2.2.2⟩
theorem Row.block {w : World} {base : Nat} {v : Value} {ms : List Msg} (h : Row w base v ms) : ∀ k, v.ownBlock = some k → base ≤ k ∧ k < w.heap.size := World.ownsRow.lt h.1
theorem Dk.next {w W W2 : World} {t t2 : Ses} {vo v2 : Value} {os os2 : List Msg} (h : Dk w t vo os W) (hr : Row W2 (w.heap.size + 2) v2 os2) (hg : W.grownBy W2 vo.ownBlock) :
    Dk w t2 v2 os2 ((((((W2.setCell ⟨w.heap.size, 0, none⟩ (.int .i64 t2.l)).setCell ⟨w.heap.size, 1, none⟩ (.int .i64 t2.r)).setCell ⟨w.heap.size, 2, none⟩ (.int .i64 t2.e)).setCell ⟨w.heap.size, 3, none⟩ (.int .i64 t2.n)).setCell ⟨w.heap.size, 4, none⟩ (.int .i64 t2.p)).setCell ⟨w.heap.size, 5, none⟩ (.int .i64 t2.d)) := by
  obtain ⟨h1, h2, h3, h4⟩ := h
  have hb := h3.block
  refine ⟨(h1.grown hg ?_).store6, ?_, ?_, ?_⟩
  · intro e
    have := hb _ e.symm
    omega
  · have h2' := h2.grown hg (fun e => by have := hb _ e.symm; omega)
    exact (((((h2'.far (by simp) _).far (by simp) _).far (by simp) _).far (by simp) _).far (by simp) _).far (by simp) _
  · exact (((((hr.far (by omega)).far (by omega)).far (by omega)).far (by omega)).far (by omega)).far (by omega)
  · exact b_store6 (b_grown h4 hg fun j hj => by have := hb j hj; omega) (Nat.le_refl _)
theorem Row.apart {w : World} {base g i : Nat} {v u : Value} {ms : List Msg} (h : Row w base v ms) (hne : ∀ k, v.ownBlock = some k → k ≠ g) : Row (w.setCell ⟨g, i, none⟩ u) base v ms :=
  ⟨own_move h.1 fun k hk => Below.heap_setCell w ⟨g, i, none⟩ u k (hne k hk), h.2⟩
theorem Row.apart6 {w : World} {base g : Nat} {v a b c d e f : Value} {ms : List Msg} (h : Row w base v ms) (hne : ∀ k, v.ownBlock = some k → k ≠ g) :
    Row ((((((w.setCell ⟨g, 0, none⟩ a).setCell ⟨g, 1, none⟩ b).setCell ⟨g, 2, none⟩ c).setCell ⟨g, 3, none⟩ d).setCell ⟨g, 4, none⟩ e).setCell ⟨g, 5, none⟩ f) base v ms :=
  (((((h.apart hne).apart hne).apart hne).apart hne).apart hne).apart hne
theorem Dk.apart6 {w W : World} {t : Ses} {vo : Value} {os : List Msg} {gz : Nat} {a b c d e f : Value} (h : Dk w t vo os W) (hz : w.heap.size + 2 ≤ gz) (hne : ∀ k, vo.ownBlock = some k → k ≠ gz) :
    Dk w t vo os ((((((W.setCell ⟨gz, 0, none⟩ a).setCell ⟨gz, 1, none⟩ b).setCell ⟨gz, 2, none⟩ c).setCell ⟨gz, 3, none⟩ d).setCell ⟨gz, 4, none⟩ e).setCell ⟨gz, 5, none⟩ f) := by
  obtain ⟨h1, h2, h3, h4⟩ := h
  have n1 : w.heap.size ≠ gz := by omega
  have n2 : w.heap.size + 1 ≠ gz := by omega
  exact ⟨(((((h1.far n1 _).far n1 _).far n1 _).far n1 _).far n1 _).far n1 _, (((((h2.far n2 _).far n2 _).far n2 _).far n2 _).far n2 _).far n2 _, h3.apart6 hne, b_store6 h4 (by omega)⟩
theorem cell_below {w w1 : World} {a : Addr} {v : Value} (h : w.cell? a = some v) (hb : Below w.heap.size w w1) : w1.cell? a = some v :=
  (hb.cell (World.block_lt_of_cell? w a h)).trans h
theorem Blk.cells6' {w : World} {g t : Nat} {a b c d e f : Value} (h : Blk w g #[a, b, c, d, e, f] t) : w.cell? ⟨g, 0, none⟩ = some a ∧ w.cell? ⟨g, 1, none⟩ = some b ∧ w.cell? ⟨g, 2, none⟩ = some c ∧ w.cell? ⟨g, 3, none⟩ = some d ∧ w.cell? ⟨g, 4, none⟩ = some e ∧ w.cell? ⟨g, 5, none⟩ = some f :=
  ⟨h.cell 0, h.cell 1, h.cell 2, h.cell 3, h.cell 4, h.cell 5⟩
set_option maxHeartbeats 4000000 in
theorem deliver_some (s : Ses) (g cap : Nat) (ms : List Msg) (w : World) (hc : ∀ i (hi : i < ms.length), ∀ j, j < 8 → w.cell? ⟨g, i * 8 + j, none⟩ = (cM ms[i])[j]?)
    (hm : ∀ m ∈ ms, 5 ≤ m.k ∧ m.k ≤ 7) (hl : ms.length ≤ 1000) :
    Calls Try.prog 15 #[S6 s, .slice (some ⟨g, 0, none⟩) ms.length cap] w (Gave (dlv s ms).1 (dlv s ms).2 w) := by
  have HC := Lib.hid hc
  have HM := Lib.hid hm
  clear hc hm
  go_enter Try.func15, Try.ntmps15
  go_wp2_with fail
  go_loopg [6, 7] ms.length (fun n o i wr => ∃ (k : Nat) (t : Ses) (vo : Value) (os : List Msg), k + n = ms.length ∧ o = vo ∧ i = .int .i64 k ∧ dlv s (ms.take k) = (t, os) ∧ Dk w t vo os wr)
  case atStart =>
    refine ⟨0, s, _, [], by omega, rfl, rfl, by simp [dlv], ?_⟩
    have h1 := Blk.new (w.alloc (.cells (c6 s) 28)) (c6 zS) 28
    rw [World.size_alloc] at h1
    exact ⟨(Blk.new _ _ _).alloc _, h1, row_nil _ _, b_alloc (b_alloc (Below.refl _ _) _) _⟩
  case round =>
    obtain ⟨k, t, vo, os, hk, rfl, rfl, hd, hD⟩ := hrel
    have HD := Lib.hid hd
    clear hd
    by_cases hlt : k < ms.length
    · obtain ⟨m, hmk⟩ : ∃ m, ms[k] = m := ⟨_, rfl⟩
      have HMK := Lib.hid hmk
      have hx : ∀ j, j < 8 → wr.cell? ⟨g, k * 8 + j, none⟩ = (cM m)[j]? := by
        intro j hj
        have h1 := HC.out k hlt j hj
        rw [hmk] at h1
        have h2 : ∃ u, (cM m)[j]? = some u := ⟨_, List.getElem?_eq_getElem (by simpa using hj)⟩
        obtain ⟨u, hu⟩ := h2
        rw [hu] at h1 ⊢
        exact cell_below h1 hD.2.2.2
      have x0 := hx 0 (by omega)
      have x1 := hx 1 (by omega)
      have x2 := hx 2 (by omega)
      have x3 := hx 3 (by omega)
      have x4 := hx 4 (by omega)
      have x5 := hx 5 (by omega)
      have x6 := hx 6 (by omega)
      have x7 := hx 7 (by omega)
      simp only [Nat.add_zero] at x0
      clear hx hmk
      have hm2 := HM.out m (by rw [← HMK.out]; exact List.getElem_mem _)
      have hwr : IntKind.i64.wrap (k : Int) = k := IntWalk.i64_in _ ⟨by omega, by omega⟩
      have HDk := Lib.hid hD
      obtain ⟨c0, c1, c2, c3, c4, c5⟩ := hD.1.cells6'
      have hsz : w.heap.size + 2 ≤ wr.heap.size := hD.2.1.lt
      have HVB := Lib.hid hD.2.2.1.block
      have hosl : os.length ≤ k := by
        have h1 := dlv_short s (ms.take k)
        rw [HD.out] at h1
        have h2 := List.length_take_le k ms
        exact Nat.le_trans h1 h2
      have HR : Hid (∀ w, Calls Try.prog 17 #[S6 t, .int .i64 0, MV m 0 (.slice none 0 0) (.slice none 0 0)] w (Gave (recvF t m).1 (recvF t m).2 w)) := fun w => recv_any t m 0 0 none none 0 0 0 0 (by omega) w
      have hrs := recv_short t m
      clear hD
      generalize hrv : recvF t m = rv at HR hrs
      have HRV := Lib.hid hrv
      clear hrv
      obtain ⟨t', os'⟩ := rv
      obtain ⟨l', r', e', n', p', d'⟩ := t'
      dsimp only at HR hrs
      go_upto_region 5 with fail
      refine start_ (n := 12) (S := fun w' => w'.cell? ⟨w.heap.size, 0, none⟩ = some (.int .i64 t.l) ∧ w'.cell? ⟨w.heap.size, 1, none⟩ = some (.int .i64 t.r) ∧ w'.cell? ⟨w.heap.size, 2, none⟩ = some (.int .i64 t.e) ∧ w'.cell? ⟨w.heap.size, 3, none⟩ = some (.int .i64 t.n) ∧ w'.cell? ⟨w.heap.size, 4, none⟩ = some (.int .i64 t.p) ∧ w'.cell? ⟨w.heap.size, 5, none⟩ = some (.int .i64 t.d) ∧ w'.cell? ⟨g, k * 8, none⟩ = some (.int .i64 m.k) ∧ w'.cell? ⟨g, k * 8 + 1, none⟩ = some (.int .i64 m.f) ∧ w'.cell? ⟨g, k * 8 + 2, none⟩ = some (.int .i64 m.t) ∧ w'.cell? ⟨g, k * 8 + 3, none⟩ = some (.int .i64 m.n) ∧ w'.cell? ⟨g, k * 8 + 4, none⟩ = some (.int .i64 0) ∧ w'.cell? ⟨g, k * 8 + 5, none⟩ = some (.int .i64 m.e) ∧ w'.cell? ⟨g, k * 8 + 6, none⟩ = some (.slice none 0 0) ∧ w'.cell? ⟨g, k * 8 + 7, none⟩ = some (.slice none 0 0)) (ds := [10]) #[false, false, false, false, false, false, false, false, false, false, false, false] (by kernel_rfl) rfl rfl ⟨c0, c1, c2, c3, c4, c5, x0, x1, x2, x3, x4, x5, x6, x7⟩ (fun hHeld => ?_)
      refine pure_ (i := 1) (N := some 18) (v := ?_) (a' := ?_) #[false, true, false, false, false, false, false, false, false, false, false, false] rfl rfl (by kernel_rfl) (fun _ _ _ h => h) (Or.inl ⟨by rfl, ?_⟩) ?_ ?_
      rotate_left
      · intro w'
        go_simp
        with_reducible rfl
      rotate_left
      · simp only [Act.put, List.setIfInBounds_toArray, List.set_cons_zero, List.set_cons_succ, i64_w, i32_w]
        rfl
      refine pure_ (i := 2) (N := some 19) (v := ?_) (a' := ?_) #[false, true, true, false, false, false, false, false, false, false, false, false] rfl rfl (by kernel_rfl) (fun _ _ _ h => h) (Or.inl ⟨by rfl, ?_⟩) ?_ ?_
      rotate_left
      · intro w'
        go_simp
        with_reducible rfl
      rotate_left
      · simp only [Act.put, List.setIfInBounds_toArray, List.set_cons_zero, List.set_cons_succ, i64_w, i32_w]
        rfl
      refine pure_ (i := 3) (N := some 20) (v := ?_) (a' := ?_) #[false, true, true, true, false, false, false, false, false, false, false, false] rfl rfl (by kernel_rfl) (fun _ _ _ h => h) (Or.inl ⟨by rfl, ?_⟩) ?_ ?_
      rotate_left
      · intro w'
        go_simp
        with_reducible rfl
      rotate_left
      · simp only [Act.put, List.setIfInBounds_toArray, List.set_cons_zero, List.set_cons_succ, i64_w, i32_w]
        rfl
      refine take_ (i := 0) (N := some 17) (v := ?_) (a' := ?_) #[true, true, true, true, false, false, false, false, false, false, false, false] rfl rfl (by kernel_rfl) (fun _ _ _ h => h) (Or.inl ⟨by rfl, ?_⟩) hHeld ?_ ?_
      rotate_left
      · rintro w' ⟨s0, s1, s2, s3, s4, s5, s6, s7, s8, s9, s10, s11, s12, s13⟩
        go_simp
        with_reducible rfl
      rotate_left
      · simp only [Act.put, List.setIfInBounds_toArray, List.set_cons_zero, List.set_cons_succ, i64_w, i32_w]
        rfl
      refine take_ (i := 4) (N := some 21) (v := ?_) (a' := ?_) #[true, true, true, true, true, false, false, false, false, false, false, false] rfl rfl (by kernel_rfl) (fun _ _ _ h => h) (Or.inl ⟨by rfl, ?_⟩) hHeld ?_ ?_
      rotate_left
      · rintro w' ⟨s0, s1, s2, s3, s4, s5, s6, s7, s8, s9, s10, s11, s12, s13⟩
        go_simp
        with_reducible rfl
      rotate_left
      · simp only [Act.put, List.setIfInBounds_toArray, List.set_cons_zero, List.set_cons_succ, i64_w, i32_w]
        rfl
      refine join_ (σ := Value × Nat) 2 #[true, true, true, true, true, true, true, true, true, true, false, false] (fun s => [(22, (.tuple #[(.agg #[.int .i64 l', .int .i64 r', .int .i64 e', .int .i64 n', .int .i64 p', .int .i64 d']), s.1])), (16, (.tuple #[(.agg #[.int .i64 l', .int .i64 r', .int .i64 e', .int .i64 n', .int .i64 p', .int .i64 d']), s.1])), (23, (.agg #[.int .i64 l', .int .i64 r', .int .i64 e', .int .i64 n', .int .i64 p', .int .i64 d'])), (24, s.1), (8, .pointer (some ⟨s.2, 0, none⟩))]) (fun s w' => Blk w' s.2 #[.int .i64 0, .int .i64 0, .int .i64 0, .int .i64 0, .int .i64 0, .int .i64 0] 28 ∧ Row w' wr.heap.size s.1 os' ∧ Dk w t u6 os w' ∧ wr.heap.size ≤ s.2 ∧ ∀ k, s.1.ownBlock = some k → k ≠ s.2) ?_ ?_
      rotate_left
      · intro hCont
        refine two_ (i := 5) (j := 9) (Ni := some 22) (Nj := some 8) #[true, true, true, true, true, true, false, false, false, false, false, false] #[true, true, true, true, true, false, false, false, false, true, false, false] rfl rfl rfl rfl (by kernel_rfl) (by decide) (by decide) (fun K hK => ?_) (fun K hK => ?_)
        · skip
          refine goes_ Try.func17 (by kernel_rfl) rfl #[S6 t, .int .i64 0, MV m 0 (.slice none 0 0) (.slice none 0 0)] (by rfl) rfl rfl (by simp only [List.map_toArray, List.map_cons, List.map_nil]; rfl) ?_
          with_reducible refine (HR.out _).mono ?_
          rintro e wz ⟨v, he, hr, hb⟩
          subst he
          refine ⟨_, rfl, ?_⟩
          refine hK.out _ _ ⟨(cell_below hHeld.1 hb), (cell_below hHeld.2.1 hb), (cell_below hHeld.2.2.1 hb), (cell_below hHeld.2.2.2.1 hb), (cell_below hHeld.2.2.2.2.1 hb), (cell_below hHeld.2.2.2.2.2.1 hb), (cell_below hHeld.2.2.2.2.2.2.1 hb), (cell_below hHeld.2.2.2.2.2.2.2.1 hb), (cell_below hHeld.2.2.2.2.2.2.2.2.1 hb), (cell_below hHeld.2.2.2.2.2.2.2.2.2.1 hb), (cell_below hHeld.2.2.2.2.2.2.2.2.2.2.1 hb), (cell_below hHeld.2.2.2.2.2.2.2.2.2.2.2.1 hb), (cell_below hHeld.2.2.2.2.2.2.2.2.2.2.2.2.1 hb), (cell_below hHeld.2.2.2.2.2.2.2.2.2.2.2.2.2 hb)⟩ (fun hHeld => ?_)
          clear hK K
          refine norm_ (a' := ?_) ?_ ?_
          rotate_left
          · show Act.put _ (some 22) _ = _
            simp only [Act.put, List.setIfInBounds_toArray, List.set_cons_zero, List.set_cons_succ, i64_w, i32_w]
            rfl
          refine pure_ (i := 6) (N := some 16) (v := ?_) (a' := ?_) #[true, true, true, true, true, true, true, false, false, false, false, false] rfl rfl (by kernel_rfl) (fun _ _ _ h => h) (Or.inl ⟨by rfl, ?_⟩) ?_ ?_
          rotate_left
          · intro w'
            go_simp
            with_reducible rfl
          rotate_left
          · simp only [Act.put, List.setIfInBounds_toArray, List.set_cons_zero, List.set_cons_succ, i64_w, i32_w]
            rfl
          refine pure_ (i := 7) (N := some 23) (v := ?_) (a' := ?_) #[true, true, true, true, true, true, true, true, false, false, false, false] rfl rfl (by kernel_rfl) (fun _ _ _ h => h) (Or.inl ⟨by rfl, ?_⟩) ?_ ?_
          rotate_left
          · intro w'
            go_simp
            with_reducible rfl
          rotate_left
          · simp only [Act.put, List.setIfInBounds_toArray, List.set_cons_zero, List.set_cons_succ, i64_w, i32_w]
            rfl
          refine pure_ (i := 8) (N := some 24) (v := ?_) (a' := ?_) #[true, true, true, true, true, true, true, true, true, false, false, false] rfl rfl (by kernel_rfl) (fun _ _ _ h => h) (Or.inl ⟨by rfl, ?_⟩) ?_ ?_
          rotate_left
          · intro w'
            go_simp
            with_reducible rfl
          rotate_left
          · simp only [Act.put, List.setIfInBounds_toArray, List.set_cons_zero, List.set_cons_succ, i64_w, i32_w]
            rfl
          refine one_ (i := 9) (N := some 8) #[true, true, true, true, true, true, true, true, true, true, false, false] rfl rfl (by kernel_rfl) (by decide) (fun K hK => ?_)
          refine value_ (w1 := ?_) (v := ?_) (by rfl) rfl ?_ ?_
          rotate_left 2
          · go_simp
            constructor
            · rfl
            · rfl
          refine hK.out _ _ ⟨(cell_below hHeld.1 (b_alloc (Below.refl _ _) _)), (cell_below hHeld.2.1 (b_alloc (Below.refl _ _) _)), (cell_below hHeld.2.2.1 (b_alloc (Below.refl _ _) _)), (cell_below hHeld.2.2.2.1 (b_alloc (Below.refl _ _) _)), (cell_below hHeld.2.2.2.2.1 (b_alloc (Below.refl _ _) _)), (cell_below hHeld.2.2.2.2.2.1 (b_alloc (Below.refl _ _) _)), (cell_below hHeld.2.2.2.2.2.2.1 (b_alloc (Below.refl _ _) _)), (cell_below hHeld.2.2.2.2.2.2.2.1 (b_alloc (Below.refl _ _) _)), (cell_below hHeld.2.2.2.2.2.2.2.2.1 (b_alloc (Below.refl _ _) _)), (cell_below hHeld.2.2.2.2.2.2.2.2.2.1 (b_alloc (Below.refl _ _) _)), (cell_below hHeld.2.2.2.2.2.2.2.2.2.2.1 (b_alloc (Below.refl _ _) _)), (cell_below hHeld.2.2.2.2.2.2.2.2.2.2.2.1 (b_alloc (Below.refl _ _) _)), (cell_below hHeld.2.2.2.2.2.2.2.2.2.2.2.2.1 (b_alloc (Below.refl _ _) _)), (cell_below hHeld.2.2.2.2.2.2.2.2.2.2.2.2.2 (b_alloc (Below.refl _ _) _))⟩ (fun hHeld => ?_)
          clear hK K
          refine norm_ (a' := ?_) ?_ ?_
          rotate_left
          · show Act.put _ (some 8) _ = _
            simp only [Act.put, List.setIfInBounds_toArray, List.set_cons_zero, List.set_cons_succ, i64_w, i32_w]
            rfl
          exact norm_ (by simp only [putAll, Act.put, List.setIfInBounds_toArray, List.set_cons_zero, List.set_cons_succ]) (hCont (v, wz.heap.size) _ ⟨Blk.new _ _ _, hr.below (b_alloc (Below.refl _ _) _), (HDk.out.drew.below hb).below (b_alloc (Below.refl _ _) _), hb.size, fun j hj => Nat.ne_of_lt (hr.block j hj).2⟩)
        · skip
          refine value_ (w1 := ?_) (v := ?_) (by rfl) rfl ?_ ?_
          rotate_left 2
          · go_simp
            constructor
            · rfl
            · rfl
          refine hK.out _ _ ⟨(cell_below hHeld.1 (b_alloc (Below.refl _ _) _)), (cell_below hHeld.2.1 (b_alloc (Below.refl _ _) _)), (cell_below hHeld.2.2.1 (b_alloc (Below.refl _ _) _)), (cell_below hHeld.2.2.2.1 (b_alloc (Below.refl _ _) _)), (cell_below hHeld.2.2.2.2.1 (b_alloc (Below.refl _ _) _)), (cell_below hHeld.2.2.2.2.2.1 (b_alloc (Below.refl _ _) _)), (cell_below hHeld.2.2.2.2.2.2.1 (b_alloc (Below.refl _ _) _)), (cell_below hHeld.2.2.2.2.2.2.2.1 (b_alloc (Below.refl _ _) _)), (cell_below hHeld.2.2.2.2.2.2.2.2.1 (b_alloc (Below.refl _ _) _)), (cell_below hHeld.2.2.2.2.2.2.2.2.2.1 (b_alloc (Below.refl _ _) _)), (cell_below hHeld.2.2.2.2.2.2.2.2.2.2.1 (b_alloc (Below.refl _ _) _)), (cell_below hHeld.2.2.2.2.2.2.2.2.2.2.2.1 (b_alloc (Below.refl _ _) _)), (cell_below hHeld.2.2.2.2.2.2.2.2.2.2.2.2.1 (b_alloc (Below.refl _ _) _)), (cell_below hHeld.2.2.2.2.2.2.2.2.2.2.2.2.2 (b_alloc (Below.refl _ _) _))⟩ (fun hHeld => ?_)
          clear hK K
          refine norm_ (a' := ?_) ?_ ?_
          rotate_left
          · show Act.put _ (some 8) _ = _
            simp only [Act.put, List.setIfInBounds_toArray, List.set_cons_zero, List.set_cons_succ, i64_w, i32_w]
            rfl
          refine one_ (i := 5) (N := some 22) #[true, true, true, true, true, true, false, false, false, true, false, false] rfl rfl (by kernel_rfl) (by decide) (fun K hK => ?_)
          refine goes_ Try.func17 (by kernel_rfl) rfl #[S6 t, .int .i64 0, MV m 0 (.slice none 0 0) (.slice none 0 0)] (by rfl) rfl rfl (by simp only [List.map_toArray, List.map_cons, List.map_nil]; rfl) ?_
          with_reducible refine (HR.out _).mono ?_
          rintro e wz ⟨v, he, hr, hb⟩
          subst he
          refine ⟨_, rfl, ?_⟩
          refine hK.out _ _ ⟨(cell_below hHeld.1 hb), (cell_below hHeld.2.1 hb), (cell_below hHeld.2.2.1 hb), (cell_below hHeld.2.2.2.1 hb), (cell_below hHeld.2.2.2.2.1 hb), (cell_below hHeld.2.2.2.2.2.1 hb), (cell_below hHeld.2.2.2.2.2.2.1 hb), (cell_below hHeld.2.2.2.2.2.2.2.1 hb), (cell_below hHeld.2.2.2.2.2.2.2.2.1 hb), (cell_below hHeld.2.2.2.2.2.2.2.2.2.1 hb), (cell_below hHeld.2.2.2.2.2.2.2.2.2.2.1 hb), (cell_below hHeld.2.2.2.2.2.2.2.2.2.2.2.1 hb), (cell_below hHeld.2.2.2.2.2.2.2.2.2.2.2.2.1 hb), (cell_below hHeld.2.2.2.2.2.2.2.2.2.2.2.2.2 hb)⟩ (fun hHeld => ?_)
          clear hK K
          refine norm_ (a' := ?_) ?_ ?_
          rotate_left
          · show Act.put _ (some 22) _ = _
            simp only [Act.put, List.setIfInBounds_toArray, List.set_cons_zero, List.set_cons_succ, i64_w, i32_w]
            rfl
          refine pure_ (i := 6) (N := some 16) (v := ?_) (a' := ?_) #[true, true, true, true, true, true, true, false, false, true, false, false] rfl rfl (by kernel_rfl) (fun _ _ _ h => h) (Or.inl ⟨by rfl, ?_⟩) ?_ ?_
          rotate_left
          · intro w'
            go_simp
            with_reducible rfl
          rotate_left
          · simp only [Act.put, List.setIfInBounds_toArray, List.set_cons_zero, List.set_cons_succ, i64_w, i32_w]
            rfl
          refine pure_ (i := 7) (N := some 23) (v := ?_) (a' := ?_) #[true, true, true, true, true, true, true, true, false, true, false, false] rfl rfl (by kernel_rfl) (fun _ _ _ h => h) (Or.inl ⟨by rfl, ?_⟩) ?_ ?_
          rotate_left
          · intro w'
            go_simp
            with_reducible rfl
          rotate_left
          · simp only [Act.put, List.setIfInBounds_toArray, List.set_cons_zero, List.set_cons_succ, i64_w, i32_w]
            rfl
          refine pure_ (i := 8) (N := some 24) (v := ?_) (a' := ?_) #[true, true, true, true, true, true, true, true, true, true, false, false] rfl rfl (by kernel_rfl) (fun _ _ _ h => h) (Or.inl ⟨by rfl, ?_⟩) ?_ ?_
          rotate_left
          · intro w'
            go_simp
            with_reducible rfl
          rotate_left
          · simp only [Act.put, List.setIfInBounds_toArray, List.set_cons_zero, List.set_cons_succ, i64_w, i32_w]
            rfl
          exact norm_ (by simp only [putAll, Act.put, List.setIfInBounds_toArray, List.set_cons_zero, List.set_cons_succ]) (hCont (v, wr.heap.size) _ ⟨(Blk.new _ _ _).drew.below hb, hr.lower (by simp), (HDk.out.below (b_drew (b_alloc (Below.refl _ _) _))).below hb, Nat.le_refl _, fun j hj => by have := (hr.block j hj).1; simp at this; omega⟩)
      rintro ⟨v, gz⟩ wz ⟨hz, hr, hk2, hgz, hap⟩
      obtain ⟨y0, y1, y2, y3, y4, y5, z0, z1, z2, z3, z4, z5⟩ := hz.six
      refine norm_ (a' := ?_) ?_ ?_
      rotate_left
      · simp only [putAll, Act.put, List.setIfInBounds_toArray, List.set_cons_zero, List.set_cons_succ]
        rfl
      refine last_ (i := 10) (N := none) #[true, true, true, true, true, true, true, true, true, true, true, false] rfl rfl (by kernel_rfl) (by decide) (fun K hK => ?_)
      refine skip_ (w1 := ?_) (by rfl) rfl ?_ ?_
      rotate_left
      · go_simp
        rfl
      refine hK.out _ _ ?_
      clear hK K
      refine pure_ (i := 11) (N := some 9) (v := ?_) (a' := ?_) #[true, true, true, true, true, true, true, true, true, true, true, true] rfl rfl (by kernel_rfl) (fun _ _ _ h => h) (Or.inl ⟨by rfl, ?_⟩) ?_ ?_
      rotate_left
      · intro w'
        go_simp
        with_reducible rfl
      rotate_left
      · simp only [Act.put, List.setIfInBounds_toArray, List.set_cons_zero, List.set_cons_succ, i64_w, i32_w]
        rfl
      refine done_ (by kernel_rfl) ?_
      have hz2 := hz.store6 (a' := (.int .i64 l')) (b' := (.int .i64 r')) (c' := (.int .i64 e')) (d' := (.int .i64 n')) (e' := (.int .i64 p')) (f' := (.int .i64 d'))
      have hr2 := hr.apart6 (a := (.int .i64 l')) (b := (.int .i64 r')) (c := (.int .i64 e')) (d := (.int .i64 n')) (e := (.int .i64 p')) (f := (.int .i64 d')) hap
      have hk3 := hk2.apart6 (a := (.int .i64 l')) (b := (.int .i64 r')) (c := (.int .i64 e')) (d := (.int .i64 n')) (e := (.int .i64 p')) (f := (.int .i64 d')) (show w.heap.size + 2 ≤ gz by omega) (fun j hj => by have := (HVB.out j hj).2; omega)
      clear hz hr hk2 y0 y1 y2 y3 y4 y5 z0 z1 z2 z3 z4 z5 hap
      generalize ((((((wz.setCell ⟨gz, 0, none⟩ (.int .i64 l')).setCell ⟨gz, 1, none⟩ (.int .i64 r')).setCell ⟨gz, 2, none⟩ (.int .i64 e')).setCell ⟨gz, 3, none⟩ (.int .i64 n')).setCell ⟨gz, 4, none⟩ (.int .i64 p')).setCell ⟨gz, 5, none⟩ (.int .i64 d')) = wc at hz2 hr2 hk3 ⊢
      have hsz2 : w.heap.size + 2 ≤ wc.heap.size := hk3.2.1.lt
      go_wp2_with fail
      refine start_ (n := 6) (S := fun w' => w'.cell? ⟨gz, 0, none⟩ = some (.int .i64 l') ∧ w'.cell? ⟨gz, 1, none⟩ = some (.int .i64 r') ∧ w'.cell? ⟨gz, 2, none⟩ = some (.int .i64 e') ∧ w'.cell? ⟨gz, 3, none⟩ = some (.int .i64 n') ∧ w'.cell? ⟨gz, 4, none⟩ = some (.int .i64 p') ∧ w'.cell? ⟨gz, 5, none⟩ = some (.int .i64 d')) (ds := [4]) #[false, false, false, false, false, false] (by kernel_rfl) rfl rfl ⟨(hz2.drew.cell 0), (hz2.drew.cell 1), (hz2.drew.cell 2), (hz2.drew.cell 3), (hz2.drew.cell 4), (hz2.drew.cell 5)⟩ (fun hHeld => ?_)
      refine pure_ (i := 1) (N := some 26) (v := ?_) (a' := ?_) #[false, true, false, false, false, false] rfl rfl (by kernel_rfl) (fun _ _ _ h => h) (Or.inl ⟨by rfl, ?_⟩) ?_ ?_
      rotate_left
      · intro w'
        go_simp
        with_reducible rfl
      rotate_left
      · simp only [Act.put, List.setIfInBounds_toArray, List.set_cons_zero, List.set_cons_succ, i64_w, i32_w]
        rfl
      refine pure_ (i := 2) (N := some 27) (v := ?_) (a' := ?_) #[false, true, true, false, false, false] rfl rfl (by kernel_rfl) (fun _ _ _ h => h) (Or.inl ⟨by rfl, ?_⟩) ?_ ?_
      rotate_left
      · intro w'
        go_simp
        with_reducible rfl
      rotate_left
      · simp only [Act.put, List.setIfInBounds_toArray, List.set_cons_zero, List.set_cons_succ, i64_w, i32_w]
        rfl
      refine take_ (i := 0) (N := some 25) (v := ?_) (a' := ?_) #[true, true, true, false, false, false] rfl rfl (by kernel_rfl) (fun _ _ _ h => h) (Or.inl ⟨by rfl, ?_⟩) hHeld ?_ ?_
      rotate_left
      · rintro w' ⟨s0, s1, s2, s3, s4, s5⟩
        go_simp
        with_reducible rfl
      rotate_left
      · simp only [Act.put, List.setIfInBounds_toArray, List.set_cons_zero, List.set_cons_succ, i64_w, i32_w]
        rfl
      refine one_ (i := 3) (N := some 28) #[true, true, true, true, false, false] rfl rfl (by kernel_rfl) (by decide) (fun K hK => ?_)
      refine step_append_row rfl (.tmp 26) (.tmp 27) (by rfl) (w.heap.size + 2) wr.heap.size u6 v os os' (by rfl) (by rfl) hk3.drew.2.2.1 hr2 (by omega) hsz2 ?_
      intro v2 w2 hrow2 hgrow
      have hB2 := hz2.drew.grown hgrow (fun e => by have := (HVB.out _ e.symm).2; omega)
      have hD2 := hk3.drew.1.grown hgrow (fun e => by have := (HVB.out _ e.symm).1; omega)
      obtain ⟨y0, y1, y2, y3, y4, y5, z0, z1, z2, z3, z4, z5⟩ := hD2.six
      refine hK.out _ _ ⟨(hB2.cell 0), (hB2.cell 1), (hB2.cell 2), (hB2.cell 3), (hB2.cell 4), (hB2.cell 5)⟩ (fun hHeld => ?_)
      clear hK K
      refine norm_ (a' := ?_) ?_ ?_
      rotate_left
      · show Act.put _ (some 28) _ = _
        simp only [Act.put, List.setIfInBounds_toArray, List.set_cons_zero, List.set_cons_succ, i64_w, i32_w]
        rfl
      refine last_ (i := 4) (N := none) #[true, true, true, true, true, false] rfl rfl (by kernel_rfl) (by decide) (fun K hK => ?_)
      refine skip_ (w1 := ?_) (by rfl) rfl ?_ ?_
      rotate_left
      · go_simp
        rfl
      refine hK.out _ _ ?_
      clear hK K
      refine pure_ (i := 5) (N := some 6) (v := ?_) (a' := ?_) #[true, true, true, true, true, true] rfl rfl (by kernel_rfl) (fun _ _ _ h => h) (Or.inl ⟨by rfl, ?_⟩) ?_ ?_
      rotate_left
      · intro w'
        go_simp
        with_reducible rfl
      rotate_left
      · simp only [Act.put, List.setIfInBounds_toArray, List.set_cons_zero, List.set_cons_succ, i64_w, i32_w]
        rfl
      refine done_ (by kernel_rfl) ?_
      have hN := hk3.drew.next (t2 := ⟨l', r', e', n', p', d'⟩) hrow2 hgrow
      go_wp2_with fail
      go_roundg (gk - 1)
      case measure => omega
      case rel =>
        refine ⟨k + 1, ⟨l', r', e', n', p', d'⟩, v2, os ++ os', by omega, rfl, by go_num, ?_, hN⟩
        rw [take_snoc ms k hlt, dlv_snoc, HD.out, HMK.out, HRV.out]
    · have h0 := HD.out
      rw [List.take_of_length_le (by omega)] at h0
      have H0 := Lib.hid h0
      obtain ⟨l', r', e', n', p', d'⟩ := t
      have lz := hD.2.1.lt
      obtain ⟨y0, y1, y2, y3, y4, y5, z0, z1, z2, z3, z4, z5⟩ := hD.1.six
      obtain ⟨a0, a1, a2, a3, a4, a5, b0, b1, b2, b3, b4, b5⟩ := hD.2.1.six
      obtain ⟨hz1, hz2, hz3, hz4⟩ := hD
      have H1 := Lib.hid (hz2.store6 (a' := .int .i64 l') (b' := .int .i64 r') (c' := .int .i64 e') (d' := .int .i64 n') (e' := .int .i64 p') (f' := .int .i64 d'))
      have hr4 := Row.far6 (g := w.heap.size + 1) (a := .int .i64 l') (b := .int .i64 r') (c := .int .i64 e') (d := .int .i64 n') (e := .int .i64 p') (f := .int .i64 d') hz3 (by omega)
      have H2 := Lib.hid (hr4.lower (base' := w.heap.size) (by omega))
      have H3 := Lib.hid (b_store6 (g := w.heap.size + 1) (a := .int .i64 l') (b := .int .i64 r') (c := .int .i64 e') (d := .int .i64 n') (e := .int .i64 p') (f := .int .i64 d') hz4 (by omega))
      clear hz1 hz2 hz3 hz4 hr4 h0
      go_wp2_with fail
      exact bodyPost_ret (results_ct rfl _ _ (w.heap.size + 1) 28 (c6 ⟨l', r', e', n', p', d'⟩) _ rfl H1.out Try.underlying28 rfl (by kernel_rfl)) rfl (by rw [H0.out]; exact ⟨u6, rfl, H2.out, H3.out⟩)
set_option maxHeartbeats 4000000 in
theorem deliver_nil (s : Ses) (w : World) : Calls Try.prog 15 #[S6 s, .slice none 0 0] w (Gave s [] w) := by
  obtain ⟨l', r', e', n', p', d'⟩ := s
  go_enter Try.func15, Try.ntmps15
  go_wp2_with fail
  go_loopg [6, 7] 0 (fun n o i wr => o = .slice none 0 0 ∧ i = .int .i64 0 ∧ Blk wr w.heap.size (c6 ⟨l', r', e', n', p', d'⟩) 28 ∧ Blk wr (w.heap.size + 1) (c6 zS) 28 ∧ Below w.heap.size w wr)
  case atStart =>
    have h1 := Blk.new (w.alloc (.cells (c6 ⟨l', r', e', n', p', d'⟩) 28)) (c6 zS) 28
    rw [World.size_alloc] at h1
    exact ⟨rfl, rfl, (Blk.new _ _ _).alloc _, h1, b_alloc (b_alloc (Below.refl _ _) _) _⟩
  case round =>
    obtain ⟨rfl, rfl, hz1, hz2, hz4⟩ := hrel
    have lz := hz2.lt
    obtain ⟨y0, y1, y2, y3, y4, y5, z0, z1, z2, z3, z4, z5⟩ := hz1.six
    obtain ⟨a0, a1, a2, a3, a4, a5, b0, b1, b2, b3, b4, b5⟩ := hz2.six
    have H1 := Lib.hid (hz2.store6 (a' := .int .i64 l') (b' := .int .i64 r') (c' := .int .i64 e') (d' := .int .i64 n') (e' := .int .i64 p') (f' := .int .i64 d'))
    have H3 := Lib.hid (b_store6 (g := w.heap.size + 1) (a := .int .i64 l') (b := .int .i64 r') (c := .int .i64 e') (d := .int .i64 n') (e := .int .i64 p') (f := .int .i64 d') hz4 (by omega))
    have H2 : Hid (∀ W, Row W w.heap.size (.slice none 0 0) []) := fun W => row_nil _ _
    clear hz1 hz2 hz4
    go_wp2_with fail
    exact bodyPost_ret (results_ct rfl _ _ (w.heap.size + 1) 28 (c6 ⟨l', r', e', n', p', d'⟩) _ rfl H1.out Try.underlying28 rfl (by kernel_rfl)) rfl ⟨.slice none 0 0, rfl, H2.out _, H3.out⟩
theorem deliver_any (s : Ses) (base : Nat) (v : Value) (ms : List Msg) (w : World) (hv : Row w base v ms) (hm : ∀ m ∈ ms, 5 ≤ m.k ∧ m.k ≤ 7) (hl : ms.length ≤ 1000) :
    Calls Try.prog 15 #[S6 s, v] w (Gave (dlv s ms).1 (dlv s ms).2 w) := by
  rcases hv.open with ⟨rfl, rfl⟩ | ⟨g, cap, rfl, _, _, _, hc⟩
  · exact deliver_nil s w
  · exact deliver_some s g cap ms w hc hm hl
end Go.Proofs.Ytemljffppdjmgaa
