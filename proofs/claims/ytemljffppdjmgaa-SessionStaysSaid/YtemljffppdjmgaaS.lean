/- The contract of step. -/
import Derived.Test.YtemljffppdjmgaaAw
namespace Go.Proofs.Ytemljffppdjmgaa
open Go.RowKit Go.Proofs.YtemljffppdjmgaaW.PrintLast
set_option linter.unusedVariables false
set_option linter.unusedSimpArgs false
abbrev c12 (a b : Ses) : Array Value := #[.int .i64 a.l, .int .i64 a.r, .int .i64 a.e, .int .i64 a.n, .int .i64 a.p, .int .i64 a.d, .int .i64 b.l, .int .i64 b.r, .int .i64 b.e, .int .i64 b.n, .int .i64 b.p, .int .i64 b.d]
/-- Two sessions. -/
abbrev A12 (a b : Ses) : Value := .agg (c12 a b)
abbrev z12 : Array Value := #[.int .i64 0, .int .i64 0, .int .i64 0, .int .i64 0, .int .i64 0, .int .i64 0, .int .i64 0, .int .i64 0, .int .i64 0, .int .i64 0, .int .i64 0, .int .i64 0]
theorem Blk.twelve {w : World} {g t : Nat} {a b c d e f m n o p q r : Value} (h' : Blk w g #[a, b, c, d, e, f, m, n, o, p, q, r] t) : w.cell? ⟨g, 0, none⟩ = some a ∧ w.cell? ⟨g, 1, none⟩ = some b ∧ w.cell? ⟨g, 2, none⟩ = some c ∧ w.cell? ⟨g, 3, none⟩ = some d ∧ w.cell? ⟨g, 4, none⟩ = some e ∧ w.cell? ⟨g, 5, none⟩ = some f ∧ w.cell? ⟨g, 6, none⟩ = some m ∧ w.cell? ⟨g, 7, none⟩ = some n ∧ w.cell? ⟨g, 8, none⟩ = some o ∧ w.cell? ⟨g, 9, none⟩ = some p ∧ w.cell? ⟨g, 10, none⟩ = some q ∧ w.cell? ⟨g, 11, none⟩ = some r ∧ w.frozen? ⟨g, 0, none⟩ = false ∧ w.frozen? ⟨g, 1, none⟩ = false ∧ w.frozen? ⟨g, 2, none⟩ = false ∧ w.frozen? ⟨g, 3, none⟩ = false ∧ w.frozen? ⟨g, 4, none⟩ = false ∧ w.frozen? ⟨g, 5, none⟩ = false ∧ w.frozen? ⟨g, 6, none⟩ = false ∧ w.frozen? ⟨g, 7, none⟩ = false ∧ w.frozen? ⟨g, 8, none⟩ = false ∧ w.frozen? ⟨g, 9, none⟩ = false ∧ w.frozen? ⟨g, 10, none⟩ = false ∧ w.frozen? ⟨g, 11, none⟩ = false :=
  ⟨h'.cell 0, h'.cell 1, h'.cell 2, h'.cell 3, h'.cell 4, h'.cell 5, h'.cell 6, h'.cell 7, h'.cell 8, h'.cell 9, h'.cell 10, h'.cell 11, h'.frozen 0, h'.frozen 1, h'.frozen 2, h'.frozen 3, h'.frozen 4, h'.frozen 5, h'.frozen 6, h'.frozen 7, h'.frozen 8, h'.frozen 9, h'.frozen 10, h'.frozen 11⟩
theorem Blk.store12 {w : World} {g t : Nat} {a b c d e f m n o p q r a' b' c' d' e' f' m' n' o' p' q' r' : Value} (hh : Blk w g #[a, b, c, d, e, f, m, n, o, p, q, r] t) :
    Blk ((((((((((((w.setCell ⟨g, 0, none⟩ a').setCell ⟨g, 1, none⟩ b').setCell ⟨g, 2, none⟩ c').setCell ⟨g, 3, none⟩ d').setCell ⟨g, 4, none⟩ e').setCell ⟨g, 5, none⟩ f').setCell ⟨g, 6, none⟩ m').setCell ⟨g, 7, none⟩ n').setCell ⟨g, 8, none⟩ o').setCell ⟨g, 9, none⟩ p').setCell ⟨g, 10, none⟩ q').setCell ⟨g, 11, none⟩ r') g #[a', b', c', d', e', f', m', n', o', p', q', r'] t := by
  have h := (((((((((((hh.set 0 a').set 1 b').set 2 c').set 3 d').set 4 e').set 5 f').set 6 m').set 7 n').set 8 o').set 9 p').set 10 q').set 11 r'
  simpa only [List.setIfInBounds_toArray, List.set_cons_zero, List.set_cons_succ] using h
theorem Blk.lo6 {w : World} {g t : Nat} {a b c d e f m n o p q r a' b' c' d' e' f' : Value} (hh : Blk w g #[a, b, c, d, e, f, m, n, o, p, q, r] t) :
    Blk ((((((w.setCell ⟨g, 0, none⟩ a').setCell ⟨g, 1, none⟩ b').setCell ⟨g, 2, none⟩ c').setCell ⟨g, 3, none⟩ d').setCell ⟨g, 4, none⟩ e').setCell ⟨g, 5, none⟩ f') g #[a', b', c', d', e', f', m, n, o, p, q, r] t :=
  (((((hh.set 0 a').set 1 b').set 2 c').set 3 d').set 4 e').set 5 f'
theorem Blk.hi6 {w : World} {g t : Nat} {a b c d e f m n o p q r m' n' o' p' q' r' : Value} (hh : Blk w g #[a, b, c, d, e, f, m, n, o, p, q, r] t) :
    Blk ((((((w.setCell ⟨g, 6, none⟩ m').setCell ⟨g, 7, none⟩ n').setCell ⟨g, 8, none⟩ o').setCell ⟨g, 9, none⟩ p').setCell ⟨g, 10, none⟩ q').setCell ⟨g, 11, none⟩ r') g #[a, b, c, d, e, f, m', n', o', p', q', r'] t :=
  (((((hh.set 6 m').set 7 n').set 8 o').set 9 p').set 10 q').set 11 r'
theorem Blk.farHi6 {w : World} {g g2 t : Nat} {cs : Array Value} {a b c d e f : Value} (h : Blk w g cs t) (hne : g ≠ g2) :
    Blk ((((((w.setCell ⟨g2, 6, none⟩ a).setCell ⟨g2, 7, none⟩ b).setCell ⟨g2, 8, none⟩ c).setCell ⟨g2, 9, none⟩ d).setCell ⟨g2, 10, none⟩ e).setCell ⟨g2, 11, none⟩ f) g cs t :=
  (((((h.far hne _).far hne _).far hne _).far hne _).far hne _).far hne _
theorem Row.farHi6 {w : World} {base g : Nat} {v a b c d e f : Value} {ms : List Msg} (h : Row w base v ms) (hne : ∀ k, v.ownBlock = some k → k ≠ g) :
    Row ((((((w.setCell ⟨g, 6, none⟩ a).setCell ⟨g, 7, none⟩ b).setCell ⟨g, 8, none⟩ c).setCell ⟨g, 9, none⟩ d).setCell ⟨g, 10, none⟩ e).setCell ⟨g, 11, none⟩ f) base v ms :=
  (((((h.apart hne).apart hne).apart hne).apart hne).apart hne).apart hne
theorem Row.apart12 {w : World} {base g : Nat} {v a' b' c' d' e' f' m' n' o' p' q' r' : Value} {ms : List Msg} (h : Row w base v ms) (hne : ∀ k, v.ownBlock = some k → k ≠ g) :
    Row ((((((((((((w.setCell ⟨g, 0, none⟩ a').setCell ⟨g, 1, none⟩ b').setCell ⟨g, 2, none⟩ c').setCell ⟨g, 3, none⟩ d').setCell ⟨g, 4, none⟩ e').setCell ⟨g, 5, none⟩ f').setCell ⟨g, 6, none⟩ m').setCell ⟨g, 7, none⟩ n').setCell ⟨g, 8, none⟩ o').setCell ⟨g, 9, none⟩ p').setCell ⟨g, 10, none⟩ q').setCell ⟨g, 11, none⟩ r') base v ms :=
  (((((((((((h.apart hne).apart hne).apart hne).apart hne).apart hne).apart hne).apart hne).apart hne).apart hne).apart hne).apart hne).apart hne
theorem g_far {w W : World} {row : Option Nat} {g i : Nat} {u : Value} (h : w.grownBy W row) (hg : w.heap.size ≤ g) : w.grownBy (W.setCell ⟨g, i, none⟩ u) row := by
  refine ⟨h.os, h.tape, h.output, by simpa using h.size, fun k hk hne => ?_⟩
  rw [Below.heap_setCell W ⟨g, i, none⟩ u k (by show k ≠ g; omega)]
  exact h.block k hk hne
theorem g_far12 {w W : World} {row : Option Nat} {g : Nat} {a' b' c' d' e' f' m' n' o' p' q' r' : Value} (h : w.grownBy W row) (hg : w.heap.size ≤ g) :
    w.grownBy ((((((((((((W.setCell ⟨g, 0, none⟩ a').setCell ⟨g, 1, none⟩ b').setCell ⟨g, 2, none⟩ c').setCell ⟨g, 3, none⟩ d').setCell ⟨g, 4, none⟩ e').setCell ⟨g, 5, none⟩ f').setCell ⟨g, 6, none⟩ m').setCell ⟨g, 7, none⟩ n').setCell ⟨g, 8, none⟩ o').setCell ⟨g, 9, none⟩ p').setCell ⟨g, 10, none⟩ q').setCell ⟨g, 11, none⟩ r') row :=
  g_far (g_far (g_far (g_far (g_far (g_far (g_far (g_far (g_far (g_far (g_far (g_far h hg) hg) hg) hg) hg) hg) hg) hg) hg) hg) hg) hg
theorem b_hi6 {w W : World} {g : Nat} {a b c d e f : Value} (h : Below w.heap.size w W) (hg : w.heap.size ≤ g) :
    Below w.heap.size w ((((((W.setCell ⟨g, 6, none⟩ a).setCell ⟨g, 7, none⟩ b).setCell ⟨g, 8, none⟩ c).setCell ⟨g, 9, none⟩ d).setCell ⟨g, 10, none⟩ e).setCell ⟨g, 11, none⟩ f) :=
  b_set (b_set (b_set (b_set (b_set (b_set h hg) hg) hg) hg) hg) hg
/-- append(s, x...) at a step of a drawn region, with the new row's place. -/
theorem step_append_row2 {ops : Array Oper} {o : Oper} {a : Act} {w : World} {K : Act → World → Prop} {Q : Exit → Act → World → Prop} {E : Prop} (hgd : o.guard = none) (s x : Operand)
    (ho : o.op = .call { callee := .builtin .append, args := #[s, x], argTypes := #[32, 32] }) (base base2 : Nat) (v u : Value) (ms os : List Msg) (hs : a.eval s = v) (hx : a.eval x = u)
    (hv : Row w base v ms) (hu : Row w base2 u os) (hlen : ms.length + os.length ≤ 1000000) (hbase : base ≤ w.heap.size)
    (h : ∀ v' w', Row w' base v' (ms ++ os) → w.grownBy w' v.ownBlock → (∀ k, v'.ownBlock = some k → v.ownBlock = some k ∨ w.heap.size ≤ k) → K (a.put o.dst v') w') :
    if Region.wanted o (yielded ops a.tmps) = true then Oper.wp Try.prog o a w K Q else E := by
  obtain ⟨i0, hi, hz0, hz1, hz2⟩ := info_parts info51
  rcases hu.1.2 with ⟨h1, h2⟩ | ⟨g, cap, cur, h1, h2, h3, h4, h5, h6, h7⟩
  · have he : os = [] := List.eq_nil_of_length_eq_zero h2
    subst he
    have hw : Region.wanted o (yielded ops a.tmps) = true := by simp [Region.wanted, hgd]
    rw [if_pos hw]
    have hrun := run_append_owned_none (P := Try.prog) (w := w) base 32 o.type 51 i0 8 Try.underlying32 hi v ms.length (ms.flatMap cM) hv.1
    have hk := h v w (by rw [List.append_nil]; exact hv) (g_refl _ _) (fun k hk => .inl hk)
    unfold Oper.wp
    simp [execOp, ho, resolve, invoke, builtin, hs, hx, h1, hrun, Result.andThen]
    exact hk
  · have hne : os ≠ [] := by
      intro he
      have := hu.2 he
      rw [h1] at this
      simp at this
    have hpos : 0 < os.length := List.length_pos_iff.2 hne
    refine step_append_lies w hgd s x 32 ho base 51 i0 zM 8 96 Try.underlying32 hi hz0 hz1 hz2 rfl (by decide) v ms.length (ms.flatMap cM) hs hv.1 ⟨g, 0, none⟩ os.length cap (os.flatMap cM) (hx.trans h1) (by have := hu.1.1; rw [this]) (World.ownsRow.cells hu.1 (by rw [h1]; rfl)) (flat_one os) hpos (by simp only [maxLen]; omega) (by omega) hbase _ rfl ?_
    intro g2 cap2 w2 hown hgrow hor hlt
    refine h _ _ ⟨?_, ?_⟩ hgrow ?_
    · rw [List.length_append, List.flatMap_append]
      exact hown
    · intro h
      exact absurd (List.append_eq_nil_iff.1 h).2 hne
    · intro k hk
      simp [Value.ownBlock] at hk
      subst hk
      rcases hor with h | h
      · exact .inl h
      · exact .inr (by omega)
/-- What step leaves. -/
def Stepped (base : Nat) (v : Value) (a b : Ses) (ms : List Msg) (w : World) (e : Ending) (w' : World) : Prop :=
  ∃ v', e = .returned (.tuple #[A12 a b, v']) ∧ Row w' base v' ms ∧ w.grownBy w' v.ownBlock
set_option maxHeartbeats 4000000 in
theorem step_exp_f (a b : Ses) (base : Nat) (v : Value) (sent ms' : List Msg) (k q now : Int) (hk0 : 0 ≤ k) (hk1 : k ≤ 255) (t' : Ses) (hkk : (k % 7 == 5) = true) (hn0 : (k % 7 == 0) = false) (HC : Hid (∀ w, Calls Try.prog 26 #[S6 a, .int .i64 now, .int .i64 3] w (Gave t' ms' w))) (w : World) (hv : Row w base v sent) (hbase : base ≤ w.heap.size) (hlen : sent.length + ms'.length ≤ 1000000) :
    Calls Try.prog 12 #[A12 a b, v, .agg #[.int .u8 k, .bool false, .int .u8 q], .int .i64 now] w (Stepped base v t' b (sent ++ ms') w) := by
  have HROW := Lib.hid hv
  have HV := Lib.hid (fun k hk => (hv.block k hk).2)
  clear hv
  have HT0 : Hid (Blk (((w.alloc (.cells (c12 a b) 29)).alloc (.cells #[.int .u8 k, .bool false, .int .u8 q] 36)).alloc (.cells z12 29)) (w.heap.size + 2) z12 29) := by
    have h1 := Blk.new ((w.alloc (.cells (c12 a b) 29)).alloc (.cells #[.int .u8 k, .bool false, .int .u8 q] 36)) z12 29
    rw [World.size_alloc, World.size_alloc] at h1
    exact h1
  have HL0 : Hid (Blk (((w.alloc (.cells (c12 a b) 29)).alloc (.cells #[.int .u8 k, .bool false, .int .u8 q] 36)).alloc (.cells z12 29)) w.heap.size (c12 a b) 29) := ((Blk.new _ _ _).alloc _).alloc _
  have HS0 : Hid (Blk (((w.alloc (.cells (c12 a b) 29)).alloc (.cells #[.int .u8 k, .bool false, .int .u8 q] 36)).alloc (.cells z12 29)) (w.heap.size + 1) #[.int .u8 k, .bool false, .int .u8 q] 36) := by
    have h1 := (Blk.new (w.alloc (.cells (c12 a b) 29)) #[.int .u8 k, .bool false, .int .u8 q] 36).alloc (.cells z12 29)
    rw [World.size_alloc] at h1
    exact h1
  have HB0 : Hid (Below w.heap.size w (((w.alloc (.cells (c12 a b) 29)).alloc (.cells #[.int .u8 k, .bool false, .int .u8 q] 36)).alloc (.cells z12 29))) := b_alloc (b_alloc (b_alloc (Below.refl _ _) _) _) _
  have HR0 : Hid (Row (((w.alloc (.cells (c12 a b) 29)).alloc (.cells #[.int .u8 k, .bool false, .int .u8 q] 36)).alloc (.cells z12 29)) base v sent) := HROW.out.below HB0.out
  have HZ0 : Hid ((((w.alloc (.cells (c12 a b) 29)).alloc (.cells #[.int .u8 k, .bool false, .int .u8 q] 36)).alloc (.cells z12 29)).heap.size = w.heap.size + 3) := Lib.hid (by simp)
  obtain ⟨l', r', e', n', p', d'⟩ := t'
  go_enter Try.func12, Try.ntmps12
  go_wp2_with fail
  refine (HC.out _).mono ?_
  rintro e wz ⟨m, rfl, hr, hb⟩
  have hr1 := hr.lower (Nat.le_of_eq HZ0.out.symm)
  have hL1 := HL0.out.below hb
  have hT1 := HT0.out.below hb
  have hb1 := b_step HB0.out hb
  have hR1 := HR0.out.below hb
  have HSZ : Hid (w.heap.size + 3 ≤ wz.heap.size) := by have h1 := hb.size; rw [HZ0.out] at h1; exact h1
  have lt1 := hL1.lt
  obtain ⟨y0, y1, y2, y3, y4, y5, y6, y7, y8, y9, y10, y11, z0, z1, z2, z3, z4, z5, z6, z7, z8, z9, z10, z11⟩ := hL1.twelve
  have LL := Lib.hid (hL1.lo6 (a' := (.int .i64 l')) (b' := (.int .i64 r')) (c' := (.int .i64 e')) (d' := (.int .i64 n')) (e' := (.int .i64 p')) (f' := (.int .i64 d')))
  have TT := Lib.hid (hT1.far6 (g' := w.heap.size) (a := (.int .i64 l')) (b := (.int .i64 r')) (c := (.int .i64 e')) (d := (.int .i64 n')) (e := (.int .i64 p')) (f := (.int .i64 d')) (by omega))
  have RV := Lib.hid (hR1.apart6 (g := w.heap.size) (a := (.int .i64 l')) (b := (.int .i64 r')) (c := (.int .i64 e')) (d := (.int .i64 n')) (e := (.int .i64 p')) (f := (.int .i64 d')) (fun k hk => Nat.ne_of_lt (HV.out k hk)))
  have RM := Lib.hid (hr1.apart6 (g := w.heap.size) (a := (.int .i64 l')) (b := (.int .i64 r')) (c := (.int .i64 e')) (d := (.int .i64 n')) (e := (.int .i64 p')) (f := (.int .i64 d')) (fun k hk => by have := (hr1.block k hk).1; omega))
  have BB := Lib.hid (b_store6 (g := w.heap.size) (a := (.int .i64 l')) (b := (.int .i64 r')) (c := (.int .i64 e')) (d := (.int .i64 n')) (e := (.int .i64 p')) (f := (.int .i64 d')) hb1 (Nat.le_refl _))
  clear hr hr1 hL1 hT1 hb1 hR1 hb HL0 HT0 HS0 HB0 HR0 HZ0
  go_wp2_with fail
  refine start_ (n := 6) (S := fun w' => w'.cell? ⟨w.heap.size, 0, none⟩ = some (.int .i64 l') ∧ w'.cell? ⟨w.heap.size, 1, none⟩ = some (.int .i64 r') ∧ w'.cell? ⟨w.heap.size, 2, none⟩ = some (.int .i64 e') ∧ w'.cell? ⟨w.heap.size, 3, none⟩ = some (.int .i64 n') ∧ w'.cell? ⟨w.heap.size, 4, none⟩ = some (.int .i64 p') ∧ w'.cell? ⟨w.heap.size, 5, none⟩ = some (.int .i64 d') ∧ w'.cell? ⟨w.heap.size, 6, none⟩ = some (.int .i64 b.l) ∧ w'.cell? ⟨w.heap.size, 7, none⟩ = some (.int .i64 b.r) ∧ w'.cell? ⟨w.heap.size, 8, none⟩ = some (.int .i64 b.e) ∧ w'.cell? ⟨w.heap.size, 9, none⟩ = some (.int .i64 b.n) ∧ w'.cell? ⟨w.heap.size, 10, none⟩ = some (.int .i64 b.p) ∧ w'.cell? ⟨w.heap.size, 11, none⟩ = some (.int .i64 b.d)) (ds := [4]) #[false, false, false, false, false, false] (by kernel_rfl) rfl rfl ⟨(LL.out.drew.cell 0), (LL.out.drew.cell 1), (LL.out.drew.cell 2), (LL.out.drew.cell 3), (LL.out.drew.cell 4), (LL.out.drew.cell 5), (LL.out.drew.cell 6), (LL.out.drew.cell 7), (LL.out.drew.cell 8), (LL.out.drew.cell 9), (LL.out.drew.cell 10), (LL.out.drew.cell 11)⟩ (fun hHeld => ?_)
  refine pure_ (i := 1) (N := some 83) (v := ?_) (a' := ?_) #[false, true, false, false, false, false] rfl rfl (by kernel_rfl) (fun _ _ _ h => h) (Or.inl ⟨by rfl, ?_⟩) ?_ ?_
  rotate_left
  · intro w'
    go_simp
    with_reducible rfl
  rotate_left
  · simp only [Act.put, List.setIfInBounds_toArray, List.set_cons_zero, List.set_cons_succ, i64_w, i32_w]
    rfl
  refine pure_ (i := 2) (N := some 84) (v := ?_) (a' := ?_) #[false, true, true, false, false, false] rfl rfl (by kernel_rfl) (fun _ _ _ h => h) (Or.inl ⟨by rfl, ?_⟩) ?_ ?_
  rotate_left
  · intro w'
    go_simp
    with_reducible rfl
  rotate_left
  · simp only [Act.put, List.setIfInBounds_toArray, List.set_cons_zero, List.set_cons_succ, i64_w, i32_w]
    rfl
  refine take_ (i := 0) (N := some 82) (v := ?_) (a' := ?_) #[true, true, true, false, false, false] rfl rfl (by kernel_rfl) (fun _ _ _ h => h) (Or.inl ⟨by rfl, ?_⟩) hHeld ?_ ?_
  rotate_left
  · rintro w' ⟨s0, s1, s2, s3, s4, s5, s6, s7, s8, s9, s10, s11⟩
    go_simp
    with_reducible rfl
  rotate_left
  · simp only [Act.put, List.setIfInBounds_toArray, List.set_cons_zero, List.set_cons_succ, i64_w, i32_w]
    rfl
  refine one_ (i := 3) (N := some 85) #[true, true, true, true, false, false] rfl rfl (by kernel_rfl) (by decide) (fun K hK => ?_)
  refine step_append_row2 rfl (.tmp 83) (.tmp 84) (by rfl) base (w.heap.size + 3) v m sent ms' (by rfl) (by rfl) (RV.out.drew) (RM.out.drew) hlen (Nat.le_trans hbase (b_drew BB.out).size) ?_
  intro v2 w2 hrow2 hgrow hor
  have hB2 := (LL.out.drew).grown hgrow (fun e => by have := HV.out _ e.symm; omega)
  have hT2 := (TT.out.drew).grown hgrow (fun e => by have := HV.out _ e.symm; omega)
  have G1 := Lib.hid (g_far12 (g := w.heap.size + 2) (a' := (.int .i64 l')) (b' := (.int .i64 r')) (c' := (.int .i64 e')) (d' := (.int .i64 n')) (e' := (.int .i64 p')) (f' := (.int .i64 d')) (m' := (.int .i64 b.l)) (n' := (.int .i64 b.r)) (o' := (.int .i64 b.e)) (p' := (.int .i64 b.n)) (q' := (.int .i64 b.p)) (r' := (.int .i64 b.d)) (g_trans' (g_drew (g_below BB.out)) hgrow) (by omega))
  have R1 := Lib.hid (hrow2.apart12 (g := w.heap.size + 2) (a' := (.int .i64 l')) (b' := (.int .i64 r')) (c' := (.int .i64 e')) (d' := (.int .i64 n')) (e' := (.int .i64 p')) (f' := (.int .i64 d')) (m' := (.int .i64 b.l)) (n' := (.int .i64 b.r)) (o' := (.int .i64 b.e)) (p' := (.int .i64 b.n)) (q' := (.int .i64 b.p)) (r' := (.int .i64 b.d)) (fun k hk => (hor k hk).elim (fun h1 => by have h4 := HV.out k h1; omega) (fun h1 => by have h3 := HSZ.out; simp at h1; omega)))
  have T1 := Lib.hid (hT2.store12 (a' := (.int .i64 l')) (b' := (.int .i64 r')) (c' := (.int .i64 e')) (d' := (.int .i64 n')) (e' := (.int .i64 p')) (f' := (.int .i64 d')) (m' := (.int .i64 b.l)) (n' := (.int .i64 b.r)) (o' := (.int .i64 b.e)) (p' := (.int .i64 b.n)) (q' := (.int .i64 b.p)) (r' := (.int .i64 b.d)))
  obtain ⟨y0, y1, y2, y3, y4, y5, y6, y7, y8, y9, y10, y11, z0, z1, z2, z3, z4, z5, z6, z7, z8, z9, z10, z11⟩ := hT2.twelve
  clear hT2 hrow2 hgrow hor
  refine hK.out _ _ ⟨(hB2.cell 0), (hB2.cell 1), (hB2.cell 2), (hB2.cell 3), (hB2.cell 4), (hB2.cell 5), (hB2.cell 6), (hB2.cell 7), (hB2.cell 8), (hB2.cell 9), (hB2.cell 10), (hB2.cell 11)⟩ (fun hHeld => ?_)
  clear hK K
  refine norm_ (a' := ?_) ?_ ?_
  rotate_left
  · show Act.put _ (some 85) _ = _
    simp only [Act.put, List.setIfInBounds_toArray, List.set_cons_zero, List.set_cons_succ, i64_w, i32_w]
    rfl
  refine last_ (i := 4) (N := none) #[true, true, true, true, true, false] rfl rfl (by kernel_rfl) (by decide) (fun K hK => ?_)
  refine skip_ (w1 := ?_) (by rfl) rfl ?_ ?_
  rotate_left
  · go_simp
    rfl
  refine hK.out _ _ ?_
  clear hK K
  refine pure_ (i := 5) (N := some 9) (v := ?_) (a' := ?_) #[true, true, true, true, true, true] rfl rfl (by kernel_rfl) (fun _ _ _ h => h) (Or.inl ⟨by rfl, ?_⟩) ?_ ?_
  rotate_left
  · intro w'
    go_simp
    with_reducible rfl
  rotate_left
  · simp only [Act.put, List.setIfInBounds_toArray, List.set_cons_zero, List.set_cons_succ, i64_w, i32_w]
    rfl
  refine done_ (by kernel_rfl) ?_
  go_wp2_with fail
  exact bodyPost_ret (results_ct rfl _ _ (w.heap.size + 2) 29 #[(.int .i64 l'), (.int .i64 r'), (.int .i64 e'), (.int .i64 n'), (.int .i64 p'), (.int .i64 d'), (.int .i64 b.l), (.int .i64 b.r), (.int .i64 b.e), (.int .i64 b.n), (.int .i64 b.p), (.int .i64 b.d)] _ rfl T1.out Try.underlying29 rfl (by kernel_rfl)) rfl ⟨v2, rfl, R1.out, G1.out⟩
set_option maxHeartbeats 4000000 in
theorem step_exp_t (a b : Ses) (base : Nat) (v : Value) (sent ms' : List Msg) (k q now : Int) (hk0 : 0 ≤ k) (hk1 : k ≤ 255) (t' : Ses) (hkk : (k % 7 == 5) = true) (hn0 : (k % 7 == 0) = false) (HC : Hid (∀ w, Calls Try.prog 26 #[S6 b, .int .i64 now, .int .i64 3] w (Gave t' ms' w))) (w : World) (hv : Row w base v sent) (hbase : base ≤ w.heap.size) (hlen : sent.length + ms'.length ≤ 1000000) :
    Calls Try.prog 12 #[A12 a b, v, .agg #[.int .u8 k, .bool true, .int .u8 q], .int .i64 now] w (Stepped base v a t' (sent ++ ms') w) := by
  have HROW := Lib.hid hv
  have HV := Lib.hid (fun k hk => (hv.block k hk).2)
  clear hv
  have HT0 : Hid (Blk (((w.alloc (.cells (c12 a b) 29)).alloc (.cells #[.int .u8 k, .bool true, .int .u8 q] 36)).alloc (.cells z12 29)) (w.heap.size + 2) z12 29) := by
    have h1 := Blk.new ((w.alloc (.cells (c12 a b) 29)).alloc (.cells #[.int .u8 k, .bool true, .int .u8 q] 36)) z12 29
    rw [World.size_alloc, World.size_alloc] at h1
    exact h1
  have HL0 : Hid (Blk (((w.alloc (.cells (c12 a b) 29)).alloc (.cells #[.int .u8 k, .bool true, .int .u8 q] 36)).alloc (.cells z12 29)) w.heap.size (c12 a b) 29) := ((Blk.new _ _ _).alloc _).alloc _
  have HS0 : Hid (Blk (((w.alloc (.cells (c12 a b) 29)).alloc (.cells #[.int .u8 k, .bool true, .int .u8 q] 36)).alloc (.cells z12 29)) (w.heap.size + 1) #[.int .u8 k, .bool true, .int .u8 q] 36) := by
    have h1 := (Blk.new (w.alloc (.cells (c12 a b) 29)) #[.int .u8 k, .bool true, .int .u8 q] 36).alloc (.cells z12 29)
    rw [World.size_alloc] at h1
    exact h1
  have HB0 : Hid (Below w.heap.size w (((w.alloc (.cells (c12 a b) 29)).alloc (.cells #[.int .u8 k, .bool true, .int .u8 q] 36)).alloc (.cells z12 29))) := b_alloc (b_alloc (b_alloc (Below.refl _ _) _) _) _
  have HR0 : Hid (Row (((w.alloc (.cells (c12 a b) 29)).alloc (.cells #[.int .u8 k, .bool true, .int .u8 q] 36)).alloc (.cells z12 29)) base v sent) := HROW.out.below HB0.out
  have HZ0 : Hid ((((w.alloc (.cells (c12 a b) 29)).alloc (.cells #[.int .u8 k, .bool true, .int .u8 q] 36)).alloc (.cells z12 29)).heap.size = w.heap.size + 3) := Lib.hid (by simp)
  obtain ⟨l', r', e', n', p', d'⟩ := t'
  go_enter Try.func12, Try.ntmps12
  go_wp2_with fail
  refine (HC.out _).mono ?_
  rintro e wz ⟨m, rfl, hr, hb⟩
  have hr1 := hr.lower (Nat.le_of_eq HZ0.out.symm)
  have hL1 := HL0.out.below hb
  have hT1 := HT0.out.below hb
  have hb1 := b_step HB0.out hb
  have hR1 := HR0.out.below hb
  have HSZ : Hid (w.heap.size + 3 ≤ wz.heap.size) := by have h1 := hb.size; rw [HZ0.out] at h1; exact h1
  have lt1 := hL1.lt
  obtain ⟨y0, y1, y2, y3, y4, y5, y6, y7, y8, y9, y10, y11, z0, z1, z2, z3, z4, z5, z6, z7, z8, z9, z10, z11⟩ := hL1.twelve
  have LL := Lib.hid (hL1.hi6 (m' := (.int .i64 l')) (n' := (.int .i64 r')) (o' := (.int .i64 e')) (p' := (.int .i64 n')) (q' := (.int .i64 p')) (r' := (.int .i64 d')))
  have TT := Lib.hid (hT1.farHi6 (g2 := w.heap.size) (a := (.int .i64 l')) (b := (.int .i64 r')) (c := (.int .i64 e')) (d := (.int .i64 n')) (e := (.int .i64 p')) (f := (.int .i64 d')) (by omega))
  have RV := Lib.hid (hR1.farHi6 (g := w.heap.size) (a := (.int .i64 l')) (b := (.int .i64 r')) (c := (.int .i64 e')) (d := (.int .i64 n')) (e := (.int .i64 p')) (f := (.int .i64 d')) (fun k hk => Nat.ne_of_lt (HV.out k hk)))
  have RM := Lib.hid (hr1.farHi6 (g := w.heap.size) (a := (.int .i64 l')) (b := (.int .i64 r')) (c := (.int .i64 e')) (d := (.int .i64 n')) (e := (.int .i64 p')) (f := (.int .i64 d')) (fun k hk => by have := (hr1.block k hk).1; omega))
  have BB := Lib.hid (b_hi6 (g := w.heap.size) (a := (.int .i64 l')) (b := (.int .i64 r')) (c := (.int .i64 e')) (d := (.int .i64 n')) (e := (.int .i64 p')) (f := (.int .i64 d')) hb1 (Nat.le_refl _))
  clear hr hr1 hL1 hT1 hb1 hR1 hb HL0 HT0 HS0 HB0 HR0 HZ0
  go_wp2_with fail
  refine start_ (n := 6) (S := fun w' => w'.cell? ⟨w.heap.size, 0, none⟩ = some (.int .i64 a.l) ∧ w'.cell? ⟨w.heap.size, 1, none⟩ = some (.int .i64 a.r) ∧ w'.cell? ⟨w.heap.size, 2, none⟩ = some (.int .i64 a.e) ∧ w'.cell? ⟨w.heap.size, 3, none⟩ = some (.int .i64 a.n) ∧ w'.cell? ⟨w.heap.size, 4, none⟩ = some (.int .i64 a.p) ∧ w'.cell? ⟨w.heap.size, 5, none⟩ = some (.int .i64 a.d) ∧ w'.cell? ⟨w.heap.size, 6, none⟩ = some (.int .i64 l') ∧ w'.cell? ⟨w.heap.size, 7, none⟩ = some (.int .i64 r') ∧ w'.cell? ⟨w.heap.size, 8, none⟩ = some (.int .i64 e') ∧ w'.cell? ⟨w.heap.size, 9, none⟩ = some (.int .i64 n') ∧ w'.cell? ⟨w.heap.size, 10, none⟩ = some (.int .i64 p') ∧ w'.cell? ⟨w.heap.size, 11, none⟩ = some (.int .i64 d')) (ds := [4]) #[false, false, false, false, false, false] (by kernel_rfl) rfl rfl ⟨(LL.out.drew.cell 0), (LL.out.drew.cell 1), (LL.out.drew.cell 2), (LL.out.drew.cell 3), (LL.out.drew.cell 4), (LL.out.drew.cell 5), (LL.out.drew.cell 6), (LL.out.drew.cell 7), (LL.out.drew.cell 8), (LL.out.drew.cell 9), (LL.out.drew.cell 10), (LL.out.drew.cell 11)⟩ (fun hHeld => ?_)
  refine pure_ (i := 1) (N := some 83) (v := ?_) (a' := ?_) #[false, true, false, false, false, false] rfl rfl (by kernel_rfl) (fun _ _ _ h => h) (Or.inl ⟨by rfl, ?_⟩) ?_ ?_
  rotate_left
  · intro w'
    go_simp
    with_reducible rfl
  rotate_left
  · simp only [Act.put, List.setIfInBounds_toArray, List.set_cons_zero, List.set_cons_succ, i64_w, i32_w]
    rfl
  refine pure_ (i := 2) (N := some 84) (v := ?_) (a' := ?_) #[false, true, true, false, false, false] rfl rfl (by kernel_rfl) (fun _ _ _ h => h) (Or.inl ⟨by rfl, ?_⟩) ?_ ?_
  rotate_left
  · intro w'
    go_simp
    with_reducible rfl
  rotate_left
  · simp only [Act.put, List.setIfInBounds_toArray, List.set_cons_zero, List.set_cons_succ, i64_w, i32_w]
    rfl
  refine take_ (i := 0) (N := some 82) (v := ?_) (a' := ?_) #[true, true, true, false, false, false] rfl rfl (by kernel_rfl) (fun _ _ _ h => h) (Or.inl ⟨by rfl, ?_⟩) hHeld ?_ ?_
  rotate_left
  · rintro w' ⟨s0, s1, s2, s3, s4, s5, s6, s7, s8, s9, s10, s11⟩
    go_simp
    with_reducible rfl
  rotate_left
  · simp only [Act.put, List.setIfInBounds_toArray, List.set_cons_zero, List.set_cons_succ, i64_w, i32_w]
    rfl
  refine one_ (i := 3) (N := some 85) #[true, true, true, true, false, false] rfl rfl (by kernel_rfl) (by decide) (fun K hK => ?_)
  refine step_append_row2 rfl (.tmp 83) (.tmp 84) (by rfl) base (w.heap.size + 3) v m sent ms' (by rfl) (by rfl) (RV.out.drew) (RM.out.drew) hlen (Nat.le_trans hbase (b_drew BB.out).size) ?_
  intro v2 w2 hrow2 hgrow hor
  have hB2 := (LL.out.drew).grown hgrow (fun e => by have := HV.out _ e.symm; omega)
  have hT2 := (TT.out.drew).grown hgrow (fun e => by have := HV.out _ e.symm; omega)
  have G1 := Lib.hid (g_far12 (g := w.heap.size + 2) (a' := (.int .i64 a.l)) (b' := (.int .i64 a.r)) (c' := (.int .i64 a.e)) (d' := (.int .i64 a.n)) (e' := (.int .i64 a.p)) (f' := (.int .i64 a.d)) (m' := (.int .i64 l')) (n' := (.int .i64 r')) (o' := (.int .i64 e')) (p' := (.int .i64 n')) (q' := (.int .i64 p')) (r' := (.int .i64 d')) (g_trans' (g_drew (g_below BB.out)) hgrow) (by omega))
  have R1 := Lib.hid (hrow2.apart12 (g := w.heap.size + 2) (a' := (.int .i64 a.l)) (b' := (.int .i64 a.r)) (c' := (.int .i64 a.e)) (d' := (.int .i64 a.n)) (e' := (.int .i64 a.p)) (f' := (.int .i64 a.d)) (m' := (.int .i64 l')) (n' := (.int .i64 r')) (o' := (.int .i64 e')) (p' := (.int .i64 n')) (q' := (.int .i64 p')) (r' := (.int .i64 d')) (fun k hk => (hor k hk).elim (fun h1 => by have h4 := HV.out k h1; omega) (fun h1 => by have h3 := HSZ.out; simp at h1; omega)))
  have T1 := Lib.hid (hT2.store12 (a' := (.int .i64 a.l)) (b' := (.int .i64 a.r)) (c' := (.int .i64 a.e)) (d' := (.int .i64 a.n)) (e' := (.int .i64 a.p)) (f' := (.int .i64 a.d)) (m' := (.int .i64 l')) (n' := (.int .i64 r')) (o' := (.int .i64 e')) (p' := (.int .i64 n')) (q' := (.int .i64 p')) (r' := (.int .i64 d')))
  obtain ⟨y0, y1, y2, y3, y4, y5, y6, y7, y8, y9, y10, y11, z0, z1, z2, z3, z4, z5, z6, z7, z8, z9, z10, z11⟩ := hT2.twelve
  clear hT2 hrow2 hgrow hor
  refine hK.out _ _ ⟨(hB2.cell 0), (hB2.cell 1), (hB2.cell 2), (hB2.cell 3), (hB2.cell 4), (hB2.cell 5), (hB2.cell 6), (hB2.cell 7), (hB2.cell 8), (hB2.cell 9), (hB2.cell 10), (hB2.cell 11)⟩ (fun hHeld => ?_)
  clear hK K
  refine norm_ (a' := ?_) ?_ ?_
  rotate_left
  · show Act.put _ (some 85) _ = _
    simp only [Act.put, List.setIfInBounds_toArray, List.set_cons_zero, List.set_cons_succ, i64_w, i32_w]
    rfl
  refine last_ (i := 4) (N := none) #[true, true, true, true, true, false] rfl rfl (by kernel_rfl) (by decide) (fun K hK => ?_)
  refine skip_ (w1 := ?_) (by rfl) rfl ?_ ?_
  rotate_left
  · go_simp
    rfl
  refine hK.out _ _ ?_
  clear hK K
  refine pure_ (i := 5) (N := some 9) (v := ?_) (a' := ?_) #[true, true, true, true, true, true] rfl rfl (by kernel_rfl) (fun _ _ _ h => h) (Or.inl ⟨by rfl, ?_⟩) ?_ ?_
  rotate_left
  · intro w'
    go_simp
    with_reducible rfl
  rotate_left
  · simp only [Act.put, List.setIfInBounds_toArray, List.set_cons_zero, List.set_cons_succ, i64_w, i32_w]
    rfl
  refine done_ (by kernel_rfl) ?_
  go_wp2_with fail
  exact bodyPost_ret (results_ct rfl _ _ (w.heap.size + 2) 29 #[(.int .i64 a.l), (.int .i64 a.r), (.int .i64 a.e), (.int .i64 a.n), (.int .i64 a.p), (.int .i64 a.d), (.int .i64 l'), (.int .i64 r'), (.int .i64 e'), (.int .i64 n'), (.int .i64 p'), (.int .i64 d')] _ rfl T1.out Try.underlying29 rfl (by kernel_rfl)) rfl ⟨v2, rfl, R1.out, G1.out⟩
set_option maxHeartbeats 4000000 in
theorem step_clo_f (a b : Ses) (base : Nat) (v : Value) (sent ms' : List Msg) (k q now : Int) (hk0 : 0 ≤ k) (hk1 : k ≤ 255) (t' : Ses) (hkk : (k % 7 == 6) = true) (hn0 : (k % 7 == 0) = false) (hn5 : (k % 7 == 5) = false) (HC : Hid (∀ w, Calls Try.prog 13 #[S6 a] w (Gave t' ms' w))) (w : World) (hv : Row w base v sent) (hbase : base ≤ w.heap.size) (hlen : sent.length + ms'.length ≤ 1000000) :
    Calls Try.prog 12 #[A12 a b, v, .agg #[.int .u8 k, .bool false, .int .u8 q], .int .i64 now] w (Stepped base v t' b (sent ++ ms') w) := by
  have HROW := Lib.hid hv
  have HV := Lib.hid (fun k hk => (hv.block k hk).2)
  clear hv
  have HT0 : Hid (Blk (((w.alloc (.cells (c12 a b) 29)).alloc (.cells #[.int .u8 k, .bool false, .int .u8 q] 36)).alloc (.cells z12 29)) (w.heap.size + 2) z12 29) := by
    have h1 := Blk.new ((w.alloc (.cells (c12 a b) 29)).alloc (.cells #[.int .u8 k, .bool false, .int .u8 q] 36)) z12 29
    rw [World.size_alloc, World.size_alloc] at h1
    exact h1
  have HL0 : Hid (Blk (((w.alloc (.cells (c12 a b) 29)).alloc (.cells #[.int .u8 k, .bool false, .int .u8 q] 36)).alloc (.cells z12 29)) w.heap.size (c12 a b) 29) := ((Blk.new _ _ _).alloc _).alloc _
  have HS0 : Hid (Blk (((w.alloc (.cells (c12 a b) 29)).alloc (.cells #[.int .u8 k, .bool false, .int .u8 q] 36)).alloc (.cells z12 29)) (w.heap.size + 1) #[.int .u8 k, .bool false, .int .u8 q] 36) := by
    have h1 := (Blk.new (w.alloc (.cells (c12 a b) 29)) #[.int .u8 k, .bool false, .int .u8 q] 36).alloc (.cells z12 29)
    rw [World.size_alloc] at h1
    exact h1
  have HB0 : Hid (Below w.heap.size w (((w.alloc (.cells (c12 a b) 29)).alloc (.cells #[.int .u8 k, .bool false, .int .u8 q] 36)).alloc (.cells z12 29))) := b_alloc (b_alloc (b_alloc (Below.refl _ _) _) _) _
  have HR0 : Hid (Row (((w.alloc (.cells (c12 a b) 29)).alloc (.cells #[.int .u8 k, .bool false, .int .u8 q] 36)).alloc (.cells z12 29)) base v sent) := HROW.out.below HB0.out
  have HZ0 : Hid ((((w.alloc (.cells (c12 a b) 29)).alloc (.cells #[.int .u8 k, .bool false, .int .u8 q] 36)).alloc (.cells z12 29)).heap.size = w.heap.size + 3) := Lib.hid (by simp)
  obtain ⟨l', r', e', n', p', d'⟩ := t'
  go_enter Try.func12, Try.ntmps12
  go_wp2_with fail
  refine (HC.out _).mono ?_
  rintro e wz ⟨m, rfl, hr, hb⟩
  have hr1 := hr.lower (Nat.le_of_eq HZ0.out.symm)
  have hL1 := HL0.out.below hb
  have hT1 := HT0.out.below hb
  have hb1 := b_step HB0.out hb
  have hR1 := HR0.out.below hb
  have HSZ : Hid (w.heap.size + 3 ≤ wz.heap.size) := by have h1 := hb.size; rw [HZ0.out] at h1; exact h1
  have lt1 := hL1.lt
  obtain ⟨y0, y1, y2, y3, y4, y5, y6, y7, y8, y9, y10, y11, z0, z1, z2, z3, z4, z5, z6, z7, z8, z9, z10, z11⟩ := hL1.twelve
  have LL := Lib.hid (hL1.lo6 (a' := (.int .i64 l')) (b' := (.int .i64 r')) (c' := (.int .i64 e')) (d' := (.int .i64 n')) (e' := (.int .i64 p')) (f' := (.int .i64 d')))
  have TT := Lib.hid (hT1.far6 (g' := w.heap.size) (a := (.int .i64 l')) (b := (.int .i64 r')) (c := (.int .i64 e')) (d := (.int .i64 n')) (e := (.int .i64 p')) (f := (.int .i64 d')) (by omega))
  have RV := Lib.hid (hR1.apart6 (g := w.heap.size) (a := (.int .i64 l')) (b := (.int .i64 r')) (c := (.int .i64 e')) (d := (.int .i64 n')) (e := (.int .i64 p')) (f := (.int .i64 d')) (fun k hk => Nat.ne_of_lt (HV.out k hk)))
  have RM := Lib.hid (hr1.apart6 (g := w.heap.size) (a := (.int .i64 l')) (b := (.int .i64 r')) (c := (.int .i64 e')) (d := (.int .i64 n')) (e := (.int .i64 p')) (f := (.int .i64 d')) (fun k hk => by have := (hr1.block k hk).1; omega))
  have BB := Lib.hid (b_store6 (g := w.heap.size) (a := (.int .i64 l')) (b := (.int .i64 r')) (c := (.int .i64 e')) (d := (.int .i64 n')) (e := (.int .i64 p')) (f := (.int .i64 d')) hb1 (Nat.le_refl _))
  clear hr hr1 hL1 hT1 hb1 hR1 hb HL0 HT0 HS0 HB0 HR0 HZ0
  go_wp2_with fail
  refine start_ (n := 6) (S := fun w' => w'.cell? ⟨w.heap.size, 0, none⟩ = some (.int .i64 l') ∧ w'.cell? ⟨w.heap.size, 1, none⟩ = some (.int .i64 r') ∧ w'.cell? ⟨w.heap.size, 2, none⟩ = some (.int .i64 e') ∧ w'.cell? ⟨w.heap.size, 3, none⟩ = some (.int .i64 n') ∧ w'.cell? ⟨w.heap.size, 4, none⟩ = some (.int .i64 p') ∧ w'.cell? ⟨w.heap.size, 5, none⟩ = some (.int .i64 d') ∧ w'.cell? ⟨w.heap.size, 6, none⟩ = some (.int .i64 b.l) ∧ w'.cell? ⟨w.heap.size, 7, none⟩ = some (.int .i64 b.r) ∧ w'.cell? ⟨w.heap.size, 8, none⟩ = some (.int .i64 b.e) ∧ w'.cell? ⟨w.heap.size, 9, none⟩ = some (.int .i64 b.n) ∧ w'.cell? ⟨w.heap.size, 10, none⟩ = some (.int .i64 b.p) ∧ w'.cell? ⟨w.heap.size, 11, none⟩ = some (.int .i64 b.d)) (ds := [4]) #[false, false, false, false, false, false] (by kernel_rfl) rfl rfl ⟨(LL.out.drew.cell 0), (LL.out.drew.cell 1), (LL.out.drew.cell 2), (LL.out.drew.cell 3), (LL.out.drew.cell 4), (LL.out.drew.cell 5), (LL.out.drew.cell 6), (LL.out.drew.cell 7), (LL.out.drew.cell 8), (LL.out.drew.cell 9), (LL.out.drew.cell 10), (LL.out.drew.cell 11)⟩ (fun hHeld => ?_)
  refine pure_ (i := 1) (N := some 83) (v := ?_) (a' := ?_) #[false, true, false, false, false, false] rfl rfl (by kernel_rfl) (fun _ _ _ h => h) (Or.inl ⟨by rfl, ?_⟩) ?_ ?_
  rotate_left
  · intro w'
    go_simp
    with_reducible rfl
  rotate_left
  · simp only [Act.put, List.setIfInBounds_toArray, List.set_cons_zero, List.set_cons_succ, i64_w, i32_w]
    rfl
  refine pure_ (i := 2) (N := some 84) (v := ?_) (a' := ?_) #[false, true, true, false, false, false] rfl rfl (by kernel_rfl) (fun _ _ _ h => h) (Or.inl ⟨by rfl, ?_⟩) ?_ ?_
  rotate_left
  · intro w'
    go_simp
    with_reducible rfl
  rotate_left
  · simp only [Act.put, List.setIfInBounds_toArray, List.set_cons_zero, List.set_cons_succ, i64_w, i32_w]
    rfl
  refine take_ (i := 0) (N := some 82) (v := ?_) (a' := ?_) #[true, true, true, false, false, false] rfl rfl (by kernel_rfl) (fun _ _ _ h => h) (Or.inl ⟨by rfl, ?_⟩) hHeld ?_ ?_
  rotate_left
  · rintro w' ⟨s0, s1, s2, s3, s4, s5, s6, s7, s8, s9, s10, s11⟩
    go_simp
    with_reducible rfl
  rotate_left
  · simp only [Act.put, List.setIfInBounds_toArray, List.set_cons_zero, List.set_cons_succ, i64_w, i32_w]
    rfl
  refine one_ (i := 3) (N := some 85) #[true, true, true, true, false, false] rfl rfl (by kernel_rfl) (by decide) (fun K hK => ?_)
  refine step_append_row2 rfl (.tmp 83) (.tmp 84) (by rfl) base (w.heap.size + 3) v m sent ms' (by rfl) (by rfl) (RV.out.drew) (RM.out.drew) hlen (Nat.le_trans hbase (b_drew BB.out).size) ?_
  intro v2 w2 hrow2 hgrow hor
  have hB2 := (LL.out.drew).grown hgrow (fun e => by have := HV.out _ e.symm; omega)
  have hT2 := (TT.out.drew).grown hgrow (fun e => by have := HV.out _ e.symm; omega)
  have G1 := Lib.hid (g_far12 (g := w.heap.size + 2) (a' := (.int .i64 l')) (b' := (.int .i64 r')) (c' := (.int .i64 e')) (d' := (.int .i64 n')) (e' := (.int .i64 p')) (f' := (.int .i64 d')) (m' := (.int .i64 b.l)) (n' := (.int .i64 b.r)) (o' := (.int .i64 b.e)) (p' := (.int .i64 b.n)) (q' := (.int .i64 b.p)) (r' := (.int .i64 b.d)) (g_trans' (g_drew (g_below BB.out)) hgrow) (by omega))
  have R1 := Lib.hid (hrow2.apart12 (g := w.heap.size + 2) (a' := (.int .i64 l')) (b' := (.int .i64 r')) (c' := (.int .i64 e')) (d' := (.int .i64 n')) (e' := (.int .i64 p')) (f' := (.int .i64 d')) (m' := (.int .i64 b.l)) (n' := (.int .i64 b.r)) (o' := (.int .i64 b.e)) (p' := (.int .i64 b.n)) (q' := (.int .i64 b.p)) (r' := (.int .i64 b.d)) (fun k hk => (hor k hk).elim (fun h1 => by have h4 := HV.out k h1; omega) (fun h1 => by have h3 := HSZ.out; simp at h1; omega)))
  have T1 := Lib.hid (hT2.store12 (a' := (.int .i64 l')) (b' := (.int .i64 r')) (c' := (.int .i64 e')) (d' := (.int .i64 n')) (e' := (.int .i64 p')) (f' := (.int .i64 d')) (m' := (.int .i64 b.l)) (n' := (.int .i64 b.r)) (o' := (.int .i64 b.e)) (p' := (.int .i64 b.n)) (q' := (.int .i64 b.p)) (r' := (.int .i64 b.d)))
  obtain ⟨y0, y1, y2, y3, y4, y5, y6, y7, y8, y9, y10, y11, z0, z1, z2, z3, z4, z5, z6, z7, z8, z9, z10, z11⟩ := hT2.twelve
  clear hT2 hrow2 hgrow hor
  refine hK.out _ _ ⟨(hB2.cell 0), (hB2.cell 1), (hB2.cell 2), (hB2.cell 3), (hB2.cell 4), (hB2.cell 5), (hB2.cell 6), (hB2.cell 7), (hB2.cell 8), (hB2.cell 9), (hB2.cell 10), (hB2.cell 11)⟩ (fun hHeld => ?_)
  clear hK K
  refine norm_ (a' := ?_) ?_ ?_
  rotate_left
  · show Act.put _ (some 85) _ = _
    simp only [Act.put, List.setIfInBounds_toArray, List.set_cons_zero, List.set_cons_succ, i64_w, i32_w]
    rfl
  refine last_ (i := 4) (N := none) #[true, true, true, true, true, false] rfl rfl (by kernel_rfl) (by decide) (fun K hK => ?_)
  refine skip_ (w1 := ?_) (by rfl) rfl ?_ ?_
  rotate_left
  · go_simp
    rfl
  refine hK.out _ _ ?_
  clear hK K
  refine pure_ (i := 5) (N := some 9) (v := ?_) (a' := ?_) #[true, true, true, true, true, true] rfl rfl (by kernel_rfl) (fun _ _ _ h => h) (Or.inl ⟨by rfl, ?_⟩) ?_ ?_
  rotate_left
  · intro w'
    go_simp
    with_reducible rfl
  rotate_left
  · simp only [Act.put, List.setIfInBounds_toArray, List.set_cons_zero, List.set_cons_succ, i64_w, i32_w]
    rfl
  refine done_ (by kernel_rfl) ?_
  go_wp2_with fail
  exact bodyPost_ret (results_ct rfl _ _ (w.heap.size + 2) 29 #[(.int .i64 l'), (.int .i64 r'), (.int .i64 e'), (.int .i64 n'), (.int .i64 p'), (.int .i64 d'), (.int .i64 b.l), (.int .i64 b.r), (.int .i64 b.e), (.int .i64 b.n), (.int .i64 b.p), (.int .i64 b.d)] _ rfl T1.out Try.underlying29 rfl (by kernel_rfl)) rfl ⟨v2, rfl, R1.out, G1.out⟩
set_option maxHeartbeats 4000000 in
theorem step_clo_t (a b : Ses) (base : Nat) (v : Value) (sent ms' : List Msg) (k q now : Int) (hk0 : 0 ≤ k) (hk1 : k ≤ 255) (t' : Ses) (hkk : (k % 7 == 6) = true) (hn0 : (k % 7 == 0) = false) (hn5 : (k % 7 == 5) = false) (HC : Hid (∀ w, Calls Try.prog 13 #[S6 b] w (Gave t' ms' w))) (w : World) (hv : Row w base v sent) (hbase : base ≤ w.heap.size) (hlen : sent.length + ms'.length ≤ 1000000) :
    Calls Try.prog 12 #[A12 a b, v, .agg #[.int .u8 k, .bool true, .int .u8 q], .int .i64 now] w (Stepped base v a t' (sent ++ ms') w) := by
  have HROW := Lib.hid hv
  have HV := Lib.hid (fun k hk => (hv.block k hk).2)
  clear hv
  have HT0 : Hid (Blk (((w.alloc (.cells (c12 a b) 29)).alloc (.cells #[.int .u8 k, .bool true, .int .u8 q] 36)).alloc (.cells z12 29)) (w.heap.size + 2) z12 29) := by
    have h1 := Blk.new ((w.alloc (.cells (c12 a b) 29)).alloc (.cells #[.int .u8 k, .bool true, .int .u8 q] 36)) z12 29
    rw [World.size_alloc, World.size_alloc] at h1
    exact h1
  have HL0 : Hid (Blk (((w.alloc (.cells (c12 a b) 29)).alloc (.cells #[.int .u8 k, .bool true, .int .u8 q] 36)).alloc (.cells z12 29)) w.heap.size (c12 a b) 29) := ((Blk.new _ _ _).alloc _).alloc _
  have HS0 : Hid (Blk (((w.alloc (.cells (c12 a b) 29)).alloc (.cells #[.int .u8 k, .bool true, .int .u8 q] 36)).alloc (.cells z12 29)) (w.heap.size + 1) #[.int .u8 k, .bool true, .int .u8 q] 36) := by
    have h1 := (Blk.new (w.alloc (.cells (c12 a b) 29)) #[.int .u8 k, .bool true, .int .u8 q] 36).alloc (.cells z12 29)
    rw [World.size_alloc] at h1
    exact h1
  have HB0 : Hid (Below w.heap.size w (((w.alloc (.cells (c12 a b) 29)).alloc (.cells #[.int .u8 k, .bool true, .int .u8 q] 36)).alloc (.cells z12 29))) := b_alloc (b_alloc (b_alloc (Below.refl _ _) _) _) _
  have HR0 : Hid (Row (((w.alloc (.cells (c12 a b) 29)).alloc (.cells #[.int .u8 k, .bool true, .int .u8 q] 36)).alloc (.cells z12 29)) base v sent) := HROW.out.below HB0.out
  have HZ0 : Hid ((((w.alloc (.cells (c12 a b) 29)).alloc (.cells #[.int .u8 k, .bool true, .int .u8 q] 36)).alloc (.cells z12 29)).heap.size = w.heap.size + 3) := Lib.hid (by simp)
  obtain ⟨l', r', e', n', p', d'⟩ := t'
  go_enter Try.func12, Try.ntmps12
  go_wp2_with fail
  refine (HC.out _).mono ?_
  rintro e wz ⟨m, rfl, hr, hb⟩
  have hr1 := hr.lower (Nat.le_of_eq HZ0.out.symm)
  have hL1 := HL0.out.below hb
  have hT1 := HT0.out.below hb
  have hb1 := b_step HB0.out hb
  have hR1 := HR0.out.below hb
  have HSZ : Hid (w.heap.size + 3 ≤ wz.heap.size) := by have h1 := hb.size; rw [HZ0.out] at h1; exact h1
  have lt1 := hL1.lt
  obtain ⟨y0, y1, y2, y3, y4, y5, y6, y7, y8, y9, y10, y11, z0, z1, z2, z3, z4, z5, z6, z7, z8, z9, z10, z11⟩ := hL1.twelve
  have LL := Lib.hid (hL1.hi6 (m' := (.int .i64 l')) (n' := (.int .i64 r')) (o' := (.int .i64 e')) (p' := (.int .i64 n')) (q' := (.int .i64 p')) (r' := (.int .i64 d')))
  have TT := Lib.hid (hT1.farHi6 (g2 := w.heap.size) (a := (.int .i64 l')) (b := (.int .i64 r')) (c := (.int .i64 e')) (d := (.int .i64 n')) (e := (.int .i64 p')) (f := (.int .i64 d')) (by omega))
  have RV := Lib.hid (hR1.farHi6 (g := w.heap.size) (a := (.int .i64 l')) (b := (.int .i64 r')) (c := (.int .i64 e')) (d := (.int .i64 n')) (e := (.int .i64 p')) (f := (.int .i64 d')) (fun k hk => Nat.ne_of_lt (HV.out k hk)))
  have RM := Lib.hid (hr1.farHi6 (g := w.heap.size) (a := (.int .i64 l')) (b := (.int .i64 r')) (c := (.int .i64 e')) (d := (.int .i64 n')) (e := (.int .i64 p')) (f := (.int .i64 d')) (fun k hk => by have := (hr1.block k hk).1; omega))
  have BB := Lib.hid (b_hi6 (g := w.heap.size) (a := (.int .i64 l')) (b := (.int .i64 r')) (c := (.int .i64 e')) (d := (.int .i64 n')) (e := (.int .i64 p')) (f := (.int .i64 d')) hb1 (Nat.le_refl _))
  clear hr hr1 hL1 hT1 hb1 hR1 hb HL0 HT0 HS0 HB0 HR0 HZ0
  go_wp2_with fail
  refine start_ (n := 6) (S := fun w' => w'.cell? ⟨w.heap.size, 0, none⟩ = some (.int .i64 a.l) ∧ w'.cell? ⟨w.heap.size, 1, none⟩ = some (.int .i64 a.r) ∧ w'.cell? ⟨w.heap.size, 2, none⟩ = some (.int .i64 a.e) ∧ w'.cell? ⟨w.heap.size, 3, none⟩ = some (.int .i64 a.n) ∧ w'.cell? ⟨w.heap.size, 4, none⟩ = some (.int .i64 a.p) ∧ w'.cell? ⟨w.heap.size, 5, none⟩ = some (.int .i64 a.d) ∧ w'.cell? ⟨w.heap.size, 6, none⟩ = some (.int .i64 l') ∧ w'.cell? ⟨w.heap.size, 7, none⟩ = some (.int .i64 r') ∧ w'.cell? ⟨w.heap.size, 8, none⟩ = some (.int .i64 e') ∧ w'.cell? ⟨w.heap.size, 9, none⟩ = some (.int .i64 n') ∧ w'.cell? ⟨w.heap.size, 10, none⟩ = some (.int .i64 p') ∧ w'.cell? ⟨w.heap.size, 11, none⟩ = some (.int .i64 d')) (ds := [4]) #[false, false, false, false, false, false] (by kernel_rfl) rfl rfl ⟨(LL.out.drew.cell 0), (LL.out.drew.cell 1), (LL.out.drew.cell 2), (LL.out.drew.cell 3), (LL.out.drew.cell 4), (LL.out.drew.cell 5), (LL.out.drew.cell 6), (LL.out.drew.cell 7), (LL.out.drew.cell 8), (LL.out.drew.cell 9), (LL.out.drew.cell 10), (LL.out.drew.cell 11)⟩ (fun hHeld => ?_)
  refine pure_ (i := 1) (N := some 83) (v := ?_) (a' := ?_) #[false, true, false, false, false, false] rfl rfl (by kernel_rfl) (fun _ _ _ h => h) (Or.inl ⟨by rfl, ?_⟩) ?_ ?_
  rotate_left
  · intro w'
    go_simp
    with_reducible rfl
  rotate_left
  · simp only [Act.put, List.setIfInBounds_toArray, List.set_cons_zero, List.set_cons_succ, i64_w, i32_w]
    rfl
  refine pure_ (i := 2) (N := some 84) (v := ?_) (a' := ?_) #[false, true, true, false, false, false] rfl rfl (by kernel_rfl) (fun _ _ _ h => h) (Or.inl ⟨by rfl, ?_⟩) ?_ ?_
  rotate_left
  · intro w'
    go_simp
    with_reducible rfl
  rotate_left
  · simp only [Act.put, List.setIfInBounds_toArray, List.set_cons_zero, List.set_cons_succ, i64_w, i32_w]
    rfl
  refine take_ (i := 0) (N := some 82) (v := ?_) (a' := ?_) #[true, true, true, false, false, false] rfl rfl (by kernel_rfl) (fun _ _ _ h => h) (Or.inl ⟨by rfl, ?_⟩) hHeld ?_ ?_
  rotate_left
  · rintro w' ⟨s0, s1, s2, s3, s4, s5, s6, s7, s8, s9, s10, s11⟩
    go_simp
    with_reducible rfl
  rotate_left
  · simp only [Act.put, List.setIfInBounds_toArray, List.set_cons_zero, List.set_cons_succ, i64_w, i32_w]
    rfl
  refine one_ (i := 3) (N := some 85) #[true, true, true, true, false, false] rfl rfl (by kernel_rfl) (by decide) (fun K hK => ?_)
  refine step_append_row2 rfl (.tmp 83) (.tmp 84) (by rfl) base (w.heap.size + 3) v m sent ms' (by rfl) (by rfl) (RV.out.drew) (RM.out.drew) hlen (Nat.le_trans hbase (b_drew BB.out).size) ?_
  intro v2 w2 hrow2 hgrow hor
  have hB2 := (LL.out.drew).grown hgrow (fun e => by have := HV.out _ e.symm; omega)
  have hT2 := (TT.out.drew).grown hgrow (fun e => by have := HV.out _ e.symm; omega)
  have G1 := Lib.hid (g_far12 (g := w.heap.size + 2) (a' := (.int .i64 a.l)) (b' := (.int .i64 a.r)) (c' := (.int .i64 a.e)) (d' := (.int .i64 a.n)) (e' := (.int .i64 a.p)) (f' := (.int .i64 a.d)) (m' := (.int .i64 l')) (n' := (.int .i64 r')) (o' := (.int .i64 e')) (p' := (.int .i64 n')) (q' := (.int .i64 p')) (r' := (.int .i64 d')) (g_trans' (g_drew (g_below BB.out)) hgrow) (by omega))
  have R1 := Lib.hid (hrow2.apart12 (g := w.heap.size + 2) (a' := (.int .i64 a.l)) (b' := (.int .i64 a.r)) (c' := (.int .i64 a.e)) (d' := (.int .i64 a.n)) (e' := (.int .i64 a.p)) (f' := (.int .i64 a.d)) (m' := (.int .i64 l')) (n' := (.int .i64 r')) (o' := (.int .i64 e')) (p' := (.int .i64 n')) (q' := (.int .i64 p')) (r' := (.int .i64 d')) (fun k hk => (hor k hk).elim (fun h1 => by have h4 := HV.out k h1; omega) (fun h1 => by have h3 := HSZ.out; simp at h1; omega)))
  have T1 := Lib.hid (hT2.store12 (a' := (.int .i64 a.l)) (b' := (.int .i64 a.r)) (c' := (.int .i64 a.e)) (d' := (.int .i64 a.n)) (e' := (.int .i64 a.p)) (f' := (.int .i64 a.d)) (m' := (.int .i64 l')) (n' := (.int .i64 r')) (o' := (.int .i64 e')) (p' := (.int .i64 n')) (q' := (.int .i64 p')) (r' := (.int .i64 d')))
  obtain ⟨y0, y1, y2, y3, y4, y5, y6, y7, y8, y9, y10, y11, z0, z1, z2, z3, z4, z5, z6, z7, z8, z9, z10, z11⟩ := hT2.twelve
  clear hT2 hrow2 hgrow hor
  refine hK.out _ _ ⟨(hB2.cell 0), (hB2.cell 1), (hB2.cell 2), (hB2.cell 3), (hB2.cell 4), (hB2.cell 5), (hB2.cell 6), (hB2.cell 7), (hB2.cell 8), (hB2.cell 9), (hB2.cell 10), (hB2.cell 11)⟩ (fun hHeld => ?_)
  clear hK K
  refine norm_ (a' := ?_) ?_ ?_
  rotate_left
  · show Act.put _ (some 85) _ = _
    simp only [Act.put, List.setIfInBounds_toArray, List.set_cons_zero, List.set_cons_succ, i64_w, i32_w]
    rfl
  refine last_ (i := 4) (N := none) #[true, true, true, true, true, false] rfl rfl (by kernel_rfl) (by decide) (fun K hK => ?_)
  refine skip_ (w1 := ?_) (by rfl) rfl ?_ ?_
  rotate_left
  · go_simp
    rfl
  refine hK.out _ _ ?_
  clear hK K
  refine pure_ (i := 5) (N := some 9) (v := ?_) (a' := ?_) #[true, true, true, true, true, true] rfl rfl (by kernel_rfl) (fun _ _ _ h => h) (Or.inl ⟨by rfl, ?_⟩) ?_ ?_
  rotate_left
  · intro w'
    go_simp
    with_reducible rfl
  rotate_left
  · simp only [Act.put, List.setIfInBounds_toArray, List.set_cons_zero, List.set_cons_succ, i64_w, i32_w]
    rfl
  refine done_ (by kernel_rfl) ?_
  go_wp2_with fail
  exact bodyPost_ret (results_ct rfl _ _ (w.heap.size + 2) 29 #[(.int .i64 a.l), (.int .i64 a.r), (.int .i64 a.e), (.int .i64 a.n), (.int .i64 a.p), (.int .i64 a.d), (.int .i64 l'), (.int .i64 r'), (.int .i64 e'), (.int .i64 n'), (.int .i64 p'), (.int .i64 d')] _ rfl T1.out Try.underlying29 rfl (by kernel_rfl)) rfl ⟨v2, rfl, R1.out, G1.out⟩
set_option maxHeartbeats 4000000 in
theorem step_dial_f (a b : Ses) (base : Nat) (v : Value) (sent ms' : List Msg) (k q now : Int) (hk0 : 0 ≤ k) (hk1 : k ≤ 255) (t' : Ses) (hkk : (k % 7 == 0) = true) (HC : Hid (∀ w, Calls Try.prog 14 #[S6 a, .int .i64 now, .int .i64 3] w (Dialled t' ms' 0 w))) (w : World) (hv : Row w base v sent) (hbase : base ≤ w.heap.size) (hlen : sent.length + ms'.length ≤ 1000000) :
    Calls Try.prog 12 #[A12 a b, v, .agg #[.int .u8 k, .bool false, .int .u8 q], .int .i64 now] w (Stepped base v t' b (sent ++ ms') w) := by
  have HROW := Lib.hid hv
  have HV := Lib.hid (fun k hk => (hv.block k hk).2)
  clear hv
  have HT0 : Hid (Blk (((w.alloc (.cells (c12 a b) 29)).alloc (.cells #[.int .u8 k, .bool false, .int .u8 q] 36)).alloc (.cells z12 29)) (w.heap.size + 2) z12 29) := by
    have h1 := Blk.new ((w.alloc (.cells (c12 a b) 29)).alloc (.cells #[.int .u8 k, .bool false, .int .u8 q] 36)) z12 29
    rw [World.size_alloc, World.size_alloc] at h1
    exact h1
  have HL0 : Hid (Blk (((w.alloc (.cells (c12 a b) 29)).alloc (.cells #[.int .u8 k, .bool false, .int .u8 q] 36)).alloc (.cells z12 29)) w.heap.size (c12 a b) 29) := ((Blk.new _ _ _).alloc _).alloc _
  have HS0 : Hid (Blk (((w.alloc (.cells (c12 a b) 29)).alloc (.cells #[.int .u8 k, .bool false, .int .u8 q] 36)).alloc (.cells z12 29)) (w.heap.size + 1) #[.int .u8 k, .bool false, .int .u8 q] 36) := by
    have h1 := (Blk.new (w.alloc (.cells (c12 a b) 29)) #[.int .u8 k, .bool false, .int .u8 q] 36).alloc (.cells z12 29)
    rw [World.size_alloc] at h1
    exact h1
  have HB0 : Hid (Below w.heap.size w (((w.alloc (.cells (c12 a b) 29)).alloc (.cells #[.int .u8 k, .bool false, .int .u8 q] 36)).alloc (.cells z12 29))) := b_alloc (b_alloc (b_alloc (Below.refl _ _) _) _) _
  have HR0 : Hid (Row (((w.alloc (.cells (c12 a b) 29)).alloc (.cells #[.int .u8 k, .bool false, .int .u8 q] 36)).alloc (.cells z12 29)) base v sent) := HROW.out.below HB0.out
  have HZ0 : Hid ((((w.alloc (.cells (c12 a b) 29)).alloc (.cells #[.int .u8 k, .bool false, .int .u8 q] 36)).alloc (.cells z12 29)).heap.size = w.heap.size + 3) := Lib.hid (by simp)
  obtain ⟨l', r', e', n', p', d'⟩ := t'
  go_enter Try.func12, Try.ntmps12
  go_wp2_with fail
  refine (HC.out _).mono ?_
  rintro e wy ⟨m, rfl, hr, hb⟩
  go_upto_region 10 with fail
  have hbA := b_alloc hb (.cells (c6 ⟨l', r', e', n', p', d'⟩) 28)
  have hX := Blk.new wy (c6 ⟨l', r', e', n', p', d'⟩) 28
  have hr1 := (hr.below (b_alloc (Below.refl _ _) (.cells (c6 ⟨l', r', e', n', p', d'⟩) 28))).lower (Nat.le_of_eq HZ0.out.symm)
  have HXS : Hid (w.heap.size + 3 ≤ wy.heap.size) := by have h1 := hb.size; rw [HZ0.out] at h1; exact h1
  generalize hxb : wy.heap.size = xb at *
  generalize (wy.alloc (.cells (c6 ⟨l', r', e', n', p', d'⟩) 28)) = wz at *
  have HXB := Lib.hid hxb
  clear hxb hb hr
  have hL1 := HL0.out.below hbA
  have hT1 := HT0.out.below hbA
  have hb1 := b_step HB0.out hbA
  have hR1 := HR0.out.below hbA
  have hxlt : w.heap.size < xb := by have := HXS.out; omega
  have HSZ : Hid (w.heap.size + 3 ≤ wz.heap.size) := by have h1 := hbA.size; rw [HZ0.out] at h1; exact h1
  have lt1 := hL1.lt
  obtain ⟨y0, y1, y2, y3, y4, y5, y6, y7, y8, y9, y10, y11, z0, z1, z2, z3, z4, z5, z6, z7, z8, z9, z10, z11⟩ := hL1.twelve
  obtain ⟨x0, x1, x2, x3, x4, x5, -, -, -, -, -, -⟩ := hX.six
  have LL := Lib.hid (hL1.lo6 (a' := (.int .i64 l')) (b' := (.int .i64 r')) (c' := (.int .i64 e')) (d' := (.int .i64 n')) (e' := (.int .i64 p')) (f' := (.int .i64 d')))
  have TT := Lib.hid (hT1.far6 (g' := w.heap.size) (a := (.int .i64 l')) (b := (.int .i64 r')) (c := (.int .i64 e')) (d := (.int .i64 n')) (e := (.int .i64 p')) (f := (.int .i64 d')) (by omega))
  have RV := Lib.hid (hR1.apart6 (g := w.heap.size) (a := (.int .i64 l')) (b := (.int .i64 r')) (c := (.int .i64 e')) (d := (.int .i64 n')) (e := (.int .i64 p')) (f := (.int .i64 d')) (fun k hk => Nat.ne_of_lt (HV.out k hk)))
  have RM := Lib.hid (hr1.apart6 (g := w.heap.size) (a := (.int .i64 l')) (b := (.int .i64 r')) (c := (.int .i64 e')) (d := (.int .i64 n')) (e := (.int .i64 p')) (f := (.int .i64 d')) (fun k hk => by have := (hr1.block k hk).1; omega))
  have BB := Lib.hid (b_store6 (g := w.heap.size) (a := (.int .i64 l')) (b := (.int .i64 r')) (c := (.int .i64 e')) (d := (.int .i64 n')) (e := (.int .i64 p')) (f := (.int .i64 d')) hb1 (Nat.le_refl _))
  clear hr1 hL1 hT1 hb1 hR1 hbA HL0 HT0 HS0 HB0 HR0 HZ0
  go_wp2_with fail
  refine start_ (n := 6) (S := fun w' => w'.cell? ⟨w.heap.size, 0, none⟩ = some (.int .i64 l') ∧ w'.cell? ⟨w.heap.size, 1, none⟩ = some (.int .i64 r') ∧ w'.cell? ⟨w.heap.size, 2, none⟩ = some (.int .i64 e') ∧ w'.cell? ⟨w.heap.size, 3, none⟩ = some (.int .i64 n') ∧ w'.cell? ⟨w.heap.size, 4, none⟩ = some (.int .i64 p') ∧ w'.cell? ⟨w.heap.size, 5, none⟩ = some (.int .i64 d') ∧ w'.cell? ⟨w.heap.size, 6, none⟩ = some (.int .i64 b.l) ∧ w'.cell? ⟨w.heap.size, 7, none⟩ = some (.int .i64 b.r) ∧ w'.cell? ⟨w.heap.size, 8, none⟩ = some (.int .i64 b.e) ∧ w'.cell? ⟨w.heap.size, 9, none⟩ = some (.int .i64 b.n) ∧ w'.cell? ⟨w.heap.size, 10, none⟩ = some (.int .i64 b.p) ∧ w'.cell? ⟨w.heap.size, 11, none⟩ = some (.int .i64 b.d)) (ds := [4]) #[false, false, false, false, false, false] (by kernel_rfl) rfl rfl ⟨(LL.out.drew.cell 0), (LL.out.drew.cell 1), (LL.out.drew.cell 2), (LL.out.drew.cell 3), (LL.out.drew.cell 4), (LL.out.drew.cell 5), (LL.out.drew.cell 6), (LL.out.drew.cell 7), (LL.out.drew.cell 8), (LL.out.drew.cell 9), (LL.out.drew.cell 10), (LL.out.drew.cell 11)⟩ (fun hHeld => ?_)
  refine pure_ (i := 1) (N := some 83) (v := ?_) (a' := ?_) #[false, true, false, false, false, false] rfl rfl (by kernel_rfl) (fun _ _ _ h => h) (Or.inl ⟨by rfl, ?_⟩) ?_ ?_
  rotate_left
  · intro w'
    go_simp
    with_reducible rfl
  rotate_left
  · simp only [Act.put, List.setIfInBounds_toArray, List.set_cons_zero, List.set_cons_succ, i64_w, i32_w]
    rfl
  refine pure_ (i := 2) (N := some 84) (v := ?_) (a' := ?_) #[false, true, true, false, false, false] rfl rfl (by kernel_rfl) (fun _ _ _ h => h) (Or.inl ⟨by rfl, ?_⟩) ?_ ?_
  rotate_left
  · intro w'
    go_simp
    with_reducible rfl
  rotate_left
  · simp only [Act.put, List.setIfInBounds_toArray, List.set_cons_zero, List.set_cons_succ, i64_w, i32_w]
    rfl
  refine take_ (i := 0) (N := some 82) (v := ?_) (a' := ?_) #[true, true, true, false, false, false] rfl rfl (by kernel_rfl) (fun _ _ _ h => h) (Or.inl ⟨by rfl, ?_⟩) hHeld ?_ ?_
  rotate_left
  · rintro w' ⟨s0, s1, s2, s3, s4, s5, s6, s7, s8, s9, s10, s11⟩
    go_simp
    with_reducible rfl
  rotate_left
  · simp only [Act.put, List.setIfInBounds_toArray, List.set_cons_zero, List.set_cons_succ, i64_w, i32_w]
    rfl
  refine one_ (i := 3) (N := some 85) #[true, true, true, true, false, false] rfl rfl (by kernel_rfl) (by decide) (fun K hK => ?_)
  refine step_append_row2 rfl (.tmp 83) (.tmp 84) (by rfl) base (w.heap.size + 3) v m sent ms' (by rfl) (by rfl) (RV.out.drew) (RM.out.drew) hlen (Nat.le_trans hbase (b_drew BB.out).size) ?_
  intro v2 w2 hrow2 hgrow hor
  have hB2 := (LL.out.drew).grown hgrow (fun e => by have := HV.out _ e.symm; omega)
  have hT2 := (TT.out.drew).grown hgrow (fun e => by have := HV.out _ e.symm; omega)
  have G1 := Lib.hid (g_far12 (g := w.heap.size + 2) (a' := (.int .i64 l')) (b' := (.int .i64 r')) (c' := (.int .i64 e')) (d' := (.int .i64 n')) (e' := (.int .i64 p')) (f' := (.int .i64 d')) (m' := (.int .i64 b.l)) (n' := (.int .i64 b.r)) (o' := (.int .i64 b.e)) (p' := (.int .i64 b.n)) (q' := (.int .i64 b.p)) (r' := (.int .i64 b.d)) (g_trans' (g_drew (g_below BB.out)) hgrow) (by omega))
  have R1 := Lib.hid (hrow2.apart12 (g := w.heap.size + 2) (a' := (.int .i64 l')) (b' := (.int .i64 r')) (c' := (.int .i64 e')) (d' := (.int .i64 n')) (e' := (.int .i64 p')) (f' := (.int .i64 d')) (m' := (.int .i64 b.l)) (n' := (.int .i64 b.r)) (o' := (.int .i64 b.e)) (p' := (.int .i64 b.n)) (q' := (.int .i64 b.p)) (r' := (.int .i64 b.d)) (fun k hk => (hor k hk).elim (fun h1 => by have h4 := HV.out k h1; omega) (fun h1 => by have h3 := HSZ.out; simp at h1; omega)))
  have T1 := Lib.hid (hT2.store12 (a' := (.int .i64 l')) (b' := (.int .i64 r')) (c' := (.int .i64 e')) (d' := (.int .i64 n')) (e' := (.int .i64 p')) (f' := (.int .i64 d')) (m' := (.int .i64 b.l)) (n' := (.int .i64 b.r)) (o' := (.int .i64 b.e)) (p' := (.int .i64 b.n)) (q' := (.int .i64 b.p)) (r' := (.int .i64 b.d)))
  obtain ⟨y0, y1, y2, y3, y4, y5, y6, y7, y8, y9, y10, y11, z0, z1, z2, z3, z4, z5, z6, z7, z8, z9, z10, z11⟩ := hT2.twelve
  clear hT2 hrow2 hgrow hor
  refine hK.out _ _ ⟨(hB2.cell 0), (hB2.cell 1), (hB2.cell 2), (hB2.cell 3), (hB2.cell 4), (hB2.cell 5), (hB2.cell 6), (hB2.cell 7), (hB2.cell 8), (hB2.cell 9), (hB2.cell 10), (hB2.cell 11)⟩ (fun hHeld => ?_)
  clear hK K
  refine norm_ (a' := ?_) ?_ ?_
  rotate_left
  · show Act.put _ (some 85) _ = _
    simp only [Act.put, List.setIfInBounds_toArray, List.set_cons_zero, List.set_cons_succ, i64_w, i32_w]
    rfl
  refine last_ (i := 4) (N := none) #[true, true, true, true, true, false] rfl rfl (by kernel_rfl) (by decide) (fun K hK => ?_)
  refine skip_ (w1 := ?_) (by rfl) rfl ?_ ?_
  rotate_left
  · go_simp
    rfl
  refine hK.out _ _ ?_
  clear hK K
  refine pure_ (i := 5) (N := some 9) (v := ?_) (a' := ?_) #[true, true, true, true, true, true] rfl rfl (by kernel_rfl) (fun _ _ _ h => h) (Or.inl ⟨by rfl, ?_⟩) ?_ ?_
  rotate_left
  · intro w'
    go_simp
    with_reducible rfl
  rotate_left
  · simp only [Act.put, List.setIfInBounds_toArray, List.set_cons_zero, List.set_cons_succ, i64_w, i32_w]
    rfl
  refine done_ (by kernel_rfl) ?_
  go_wp2_with fail
  exact bodyPost_ret (results_ct rfl _ _ (w.heap.size + 2) 29 #[(.int .i64 l'), (.int .i64 r'), (.int .i64 e'), (.int .i64 n'), (.int .i64 p'), (.int .i64 d'), (.int .i64 b.l), (.int .i64 b.r), (.int .i64 b.e), (.int .i64 b.n), (.int .i64 b.p), (.int .i64 b.d)] _ rfl T1.out Try.underlying29 rfl (by kernel_rfl)) rfl ⟨v2, rfl, R1.out, G1.out⟩
set_option maxHeartbeats 4000000 in
theorem step_dial_t (a b : Ses) (base : Nat) (v : Value) (sent ms' : List Msg) (k q now : Int) (hk0 : 0 ≤ k) (hk1 : k ≤ 255) (t' : Ses) (hkk : (k % 7 == 0) = true) (HC : Hid (∀ w, Calls Try.prog 14 #[S6 b, .int .i64 now, .int .i64 3] w (Dialled t' ms' 0 w))) (w : World) (hv : Row w base v sent) (hbase : base ≤ w.heap.size) (hlen : sent.length + ms'.length ≤ 1000000) :
    Calls Try.prog 12 #[A12 a b, v, .agg #[.int .u8 k, .bool true, .int .u8 q], .int .i64 now] w (Stepped base v a t' (sent ++ ms') w) := by
  have HROW := Lib.hid hv
  have HV := Lib.hid (fun k hk => (hv.block k hk).2)
  clear hv
  have HT0 : Hid (Blk (((w.alloc (.cells (c12 a b) 29)).alloc (.cells #[.int .u8 k, .bool true, .int .u8 q] 36)).alloc (.cells z12 29)) (w.heap.size + 2) z12 29) := by
    have h1 := Blk.new ((w.alloc (.cells (c12 a b) 29)).alloc (.cells #[.int .u8 k, .bool true, .int .u8 q] 36)) z12 29
    rw [World.size_alloc, World.size_alloc] at h1
    exact h1
  have HL0 : Hid (Blk (((w.alloc (.cells (c12 a b) 29)).alloc (.cells #[.int .u8 k, .bool true, .int .u8 q] 36)).alloc (.cells z12 29)) w.heap.size (c12 a b) 29) := ((Blk.new _ _ _).alloc _).alloc _
  have HS0 : Hid (Blk (((w.alloc (.cells (c12 a b) 29)).alloc (.cells #[.int .u8 k, .bool true, .int .u8 q] 36)).alloc (.cells z12 29)) (w.heap.size + 1) #[.int .u8 k, .bool true, .int .u8 q] 36) := by
    have h1 := (Blk.new (w.alloc (.cells (c12 a b) 29)) #[.int .u8 k, .bool true, .int .u8 q] 36).alloc (.cells z12 29)
    rw [World.size_alloc] at h1
    exact h1
  have HB0 : Hid (Below w.heap.size w (((w.alloc (.cells (c12 a b) 29)).alloc (.cells #[.int .u8 k, .bool true, .int .u8 q] 36)).alloc (.cells z12 29))) := b_alloc (b_alloc (b_alloc (Below.refl _ _) _) _) _
  have HR0 : Hid (Row (((w.alloc (.cells (c12 a b) 29)).alloc (.cells #[.int .u8 k, .bool true, .int .u8 q] 36)).alloc (.cells z12 29)) base v sent) := HROW.out.below HB0.out
  have HZ0 : Hid ((((w.alloc (.cells (c12 a b) 29)).alloc (.cells #[.int .u8 k, .bool true, .int .u8 q] 36)).alloc (.cells z12 29)).heap.size = w.heap.size + 3) := Lib.hid (by simp)
  obtain ⟨l', r', e', n', p', d'⟩ := t'
  go_enter Try.func12, Try.ntmps12
  go_wp2_with fail
  refine (HC.out _).mono ?_
  rintro e wy ⟨m, rfl, hr, hb⟩
  go_upto_region 10 with fail
  have hbA := b_alloc hb (.cells (c6 ⟨l', r', e', n', p', d'⟩) 28)
  have hX := Blk.new wy (c6 ⟨l', r', e', n', p', d'⟩) 28
  have hr1 := (hr.below (b_alloc (Below.refl _ _) (.cells (c6 ⟨l', r', e', n', p', d'⟩) 28))).lower (Nat.le_of_eq HZ0.out.symm)
  have HXS : Hid (w.heap.size + 3 ≤ wy.heap.size) := by have h1 := hb.size; rw [HZ0.out] at h1; exact h1
  generalize hxb : wy.heap.size = xb at *
  generalize (wy.alloc (.cells (c6 ⟨l', r', e', n', p', d'⟩) 28)) = wz at *
  have HXB := Lib.hid hxb
  clear hxb hb hr
  have hL1 := HL0.out.below hbA
  have hT1 := HT0.out.below hbA
  have hb1 := b_step HB0.out hbA
  have hR1 := HR0.out.below hbA
  have hxlt : w.heap.size < xb := by have := HXS.out; omega
  have HSZ : Hid (w.heap.size + 3 ≤ wz.heap.size) := by have h1 := hbA.size; rw [HZ0.out] at h1; exact h1
  have lt1 := hL1.lt
  obtain ⟨y0, y1, y2, y3, y4, y5, y6, y7, y8, y9, y10, y11, z0, z1, z2, z3, z4, z5, z6, z7, z8, z9, z10, z11⟩ := hL1.twelve
  obtain ⟨x0, x1, x2, x3, x4, x5, -, -, -, -, -, -⟩ := hX.six
  have LL := Lib.hid (hL1.hi6 (m' := (.int .i64 l')) (n' := (.int .i64 r')) (o' := (.int .i64 e')) (p' := (.int .i64 n')) (q' := (.int .i64 p')) (r' := (.int .i64 d')))
  have TT := Lib.hid (hT1.farHi6 (g2 := w.heap.size) (a := (.int .i64 l')) (b := (.int .i64 r')) (c := (.int .i64 e')) (d := (.int .i64 n')) (e := (.int .i64 p')) (f := (.int .i64 d')) (by omega))
  have RV := Lib.hid (hR1.farHi6 (g := w.heap.size) (a := (.int .i64 l')) (b := (.int .i64 r')) (c := (.int .i64 e')) (d := (.int .i64 n')) (e := (.int .i64 p')) (f := (.int .i64 d')) (fun k hk => Nat.ne_of_lt (HV.out k hk)))
  have RM := Lib.hid (hr1.farHi6 (g := w.heap.size) (a := (.int .i64 l')) (b := (.int .i64 r')) (c := (.int .i64 e')) (d := (.int .i64 n')) (e := (.int .i64 p')) (f := (.int .i64 d')) (fun k hk => by have := (hr1.block k hk).1; omega))
  have BB := Lib.hid (b_hi6 (g := w.heap.size) (a := (.int .i64 l')) (b := (.int .i64 r')) (c := (.int .i64 e')) (d := (.int .i64 n')) (e := (.int .i64 p')) (f := (.int .i64 d')) hb1 (Nat.le_refl _))
  clear hr1 hL1 hT1 hb1 hR1 hbA HL0 HT0 HS0 HB0 HR0 HZ0
  go_wp2_with fail
  refine start_ (n := 6) (S := fun w' => w'.cell? ⟨w.heap.size, 0, none⟩ = some (.int .i64 a.l) ∧ w'.cell? ⟨w.heap.size, 1, none⟩ = some (.int .i64 a.r) ∧ w'.cell? ⟨w.heap.size, 2, none⟩ = some (.int .i64 a.e) ∧ w'.cell? ⟨w.heap.size, 3, none⟩ = some (.int .i64 a.n) ∧ w'.cell? ⟨w.heap.size, 4, none⟩ = some (.int .i64 a.p) ∧ w'.cell? ⟨w.heap.size, 5, none⟩ = some (.int .i64 a.d) ∧ w'.cell? ⟨w.heap.size, 6, none⟩ = some (.int .i64 l') ∧ w'.cell? ⟨w.heap.size, 7, none⟩ = some (.int .i64 r') ∧ w'.cell? ⟨w.heap.size, 8, none⟩ = some (.int .i64 e') ∧ w'.cell? ⟨w.heap.size, 9, none⟩ = some (.int .i64 n') ∧ w'.cell? ⟨w.heap.size, 10, none⟩ = some (.int .i64 p') ∧ w'.cell? ⟨w.heap.size, 11, none⟩ = some (.int .i64 d')) (ds := [4]) #[false, false, false, false, false, false] (by kernel_rfl) rfl rfl ⟨(LL.out.drew.cell 0), (LL.out.drew.cell 1), (LL.out.drew.cell 2), (LL.out.drew.cell 3), (LL.out.drew.cell 4), (LL.out.drew.cell 5), (LL.out.drew.cell 6), (LL.out.drew.cell 7), (LL.out.drew.cell 8), (LL.out.drew.cell 9), (LL.out.drew.cell 10), (LL.out.drew.cell 11)⟩ (fun hHeld => ?_)
  refine pure_ (i := 1) (N := some 83) (v := ?_) (a' := ?_) #[false, true, false, false, false, false] rfl rfl (by kernel_rfl) (fun _ _ _ h => h) (Or.inl ⟨by rfl, ?_⟩) ?_ ?_
  rotate_left
  · intro w'
    go_simp
    with_reducible rfl
  rotate_left
  · simp only [Act.put, List.setIfInBounds_toArray, List.set_cons_zero, List.set_cons_succ, i64_w, i32_w]
    rfl
  refine pure_ (i := 2) (N := some 84) (v := ?_) (a' := ?_) #[false, true, true, false, false, false] rfl rfl (by kernel_rfl) (fun _ _ _ h => h) (Or.inl ⟨by rfl, ?_⟩) ?_ ?_
  rotate_left
  · intro w'
    go_simp
    with_reducible rfl
  rotate_left
  · simp only [Act.put, List.setIfInBounds_toArray, List.set_cons_zero, List.set_cons_succ, i64_w, i32_w]
    rfl
  refine take_ (i := 0) (N := some 82) (v := ?_) (a' := ?_) #[true, true, true, false, false, false] rfl rfl (by kernel_rfl) (fun _ _ _ h => h) (Or.inl ⟨by rfl, ?_⟩) hHeld ?_ ?_
  rotate_left
  · rintro w' ⟨s0, s1, s2, s3, s4, s5, s6, s7, s8, s9, s10, s11⟩
    go_simp
    with_reducible rfl
  rotate_left
  · simp only [Act.put, List.setIfInBounds_toArray, List.set_cons_zero, List.set_cons_succ, i64_w, i32_w]
    rfl
  refine one_ (i := 3) (N := some 85) #[true, true, true, true, false, false] rfl rfl (by kernel_rfl) (by decide) (fun K hK => ?_)
  refine step_append_row2 rfl (.tmp 83) (.tmp 84) (by rfl) base (w.heap.size + 3) v m sent ms' (by rfl) (by rfl) (RV.out.drew) (RM.out.drew) hlen (Nat.le_trans hbase (b_drew BB.out).size) ?_
  intro v2 w2 hrow2 hgrow hor
  have hB2 := (LL.out.drew).grown hgrow (fun e => by have := HV.out _ e.symm; omega)
  have hT2 := (TT.out.drew).grown hgrow (fun e => by have := HV.out _ e.symm; omega)
  have G1 := Lib.hid (g_far12 (g := w.heap.size + 2) (a' := (.int .i64 a.l)) (b' := (.int .i64 a.r)) (c' := (.int .i64 a.e)) (d' := (.int .i64 a.n)) (e' := (.int .i64 a.p)) (f' := (.int .i64 a.d)) (m' := (.int .i64 l')) (n' := (.int .i64 r')) (o' := (.int .i64 e')) (p' := (.int .i64 n')) (q' := (.int .i64 p')) (r' := (.int .i64 d')) (g_trans' (g_drew (g_below BB.out)) hgrow) (by omega))
  have R1 := Lib.hid (hrow2.apart12 (g := w.heap.size + 2) (a' := (.int .i64 a.l)) (b' := (.int .i64 a.r)) (c' := (.int .i64 a.e)) (d' := (.int .i64 a.n)) (e' := (.int .i64 a.p)) (f' := (.int .i64 a.d)) (m' := (.int .i64 l')) (n' := (.int .i64 r')) (o' := (.int .i64 e')) (p' := (.int .i64 n')) (q' := (.int .i64 p')) (r' := (.int .i64 d')) (fun k hk => (hor k hk).elim (fun h1 => by have h4 := HV.out k h1; omega) (fun h1 => by have h3 := HSZ.out; simp at h1; omega)))
  have T1 := Lib.hid (hT2.store12 (a' := (.int .i64 a.l)) (b' := (.int .i64 a.r)) (c' := (.int .i64 a.e)) (d' := (.int .i64 a.n)) (e' := (.int .i64 a.p)) (f' := (.int .i64 a.d)) (m' := (.int .i64 l')) (n' := (.int .i64 r')) (o' := (.int .i64 e')) (p' := (.int .i64 n')) (q' := (.int .i64 p')) (r' := (.int .i64 d')))
  obtain ⟨y0, y1, y2, y3, y4, y5, y6, y7, y8, y9, y10, y11, z0, z1, z2, z3, z4, z5, z6, z7, z8, z9, z10, z11⟩ := hT2.twelve
  clear hT2 hrow2 hgrow hor
  refine hK.out _ _ ⟨(hB2.cell 0), (hB2.cell 1), (hB2.cell 2), (hB2.cell 3), (hB2.cell 4), (hB2.cell 5), (hB2.cell 6), (hB2.cell 7), (hB2.cell 8), (hB2.cell 9), (hB2.cell 10), (hB2.cell 11)⟩ (fun hHeld => ?_)
  clear hK K
  refine norm_ (a' := ?_) ?_ ?_
  rotate_left
  · show Act.put _ (some 85) _ = _
    simp only [Act.put, List.setIfInBounds_toArray, List.set_cons_zero, List.set_cons_succ, i64_w, i32_w]
    rfl
  refine last_ (i := 4) (N := none) #[true, true, true, true, true, false] rfl rfl (by kernel_rfl) (by decide) (fun K hK => ?_)
  refine skip_ (w1 := ?_) (by rfl) rfl ?_ ?_
  rotate_left
  · go_simp
    rfl
  refine hK.out _ _ ?_
  clear hK K
  refine pure_ (i := 5) (N := some 9) (v := ?_) (a' := ?_) #[true, true, true, true, true, true] rfl rfl (by kernel_rfl) (fun _ _ _ h => h) (Or.inl ⟨by rfl, ?_⟩) ?_ ?_
  rotate_left
  · intro w'
    go_simp
    with_reducible rfl
  rotate_left
  · simp only [Act.put, List.setIfInBounds_toArray, List.set_cons_zero, List.set_cons_succ, i64_w, i32_w]
    rfl
  refine done_ (by kernel_rfl) ?_
  go_wp2_with fail
  exact bodyPost_ret (results_ct rfl _ _ (w.heap.size + 2) 29 #[(.int .i64 a.l), (.int .i64 a.r), (.int .i64 a.e), (.int .i64 a.n), (.int .i64 a.p), (.int .i64 a.d), (.int .i64 l'), (.int .i64 r'), (.int .i64 e'), (.int .i64 n'), (.int .i64 p'), (.int .i64 d')] _ rfl T1.out Try.underlying29 rfl (by kernel_rfl)) rfl ⟨v2, rfl, R1.out, G1.out⟩
set_option maxHeartbeats 4000000 in
theorem step_ndial_f (a b : Ses) (base : Nat) (v : Value) (sent ms' : List Msg) (k q now : Int) (hk0 : 0 ≤ k) (hk1 : k ≤ 255) (t' : Ses) (c : Int) (hc : (c == 0) = false) (hms : ms' = []) (ns : List Msg) (hkk : (k % 7 == 0) = true) (HC : Hid (∀ w, Calls Try.prog 14 #[S6 a, .int .i64 now, .int .i64 3] w (Dialled t' ns c w))) (w : World) (hv : Row w base v sent) (hbase : base ≤ w.heap.size) (hlen : sent.length + ms'.length ≤ 1000000) :
    Calls Try.prog 12 #[A12 a b, v, .agg #[.int .u8 k, .bool false, .int .u8 q], .int .i64 now] w (Stepped base v a b (sent ++ ms') w) := by
  have HROW := Lib.hid hv
  have HV := Lib.hid (fun k hk => (hv.block k hk).2)
  clear hv
  have HT0 : Hid (Blk (((w.alloc (.cells (c12 a b) 29)).alloc (.cells #[.int .u8 k, .bool false, .int .u8 q] 36)).alloc (.cells z12 29)) (w.heap.size + 2) z12 29) := by
    have h1 := Blk.new ((w.alloc (.cells (c12 a b) 29)).alloc (.cells #[.int .u8 k, .bool false, .int .u8 q] 36)) z12 29
    rw [World.size_alloc, World.size_alloc] at h1
    exact h1
  have HL0 : Hid (Blk (((w.alloc (.cells (c12 a b) 29)).alloc (.cells #[.int .u8 k, .bool false, .int .u8 q] 36)).alloc (.cells z12 29)) w.heap.size (c12 a b) 29) := ((Blk.new _ _ _).alloc _).alloc _
  have HS0 : Hid (Blk (((w.alloc (.cells (c12 a b) 29)).alloc (.cells #[.int .u8 k, .bool false, .int .u8 q] 36)).alloc (.cells z12 29)) (w.heap.size + 1) #[.int .u8 k, .bool false, .int .u8 q] 36) := by
    have h1 := (Blk.new (w.alloc (.cells (c12 a b) 29)) #[.int .u8 k, .bool false, .int .u8 q] 36).alloc (.cells z12 29)
    rw [World.size_alloc] at h1
    exact h1
  have HB0 : Hid (Below w.heap.size w (((w.alloc (.cells (c12 a b) 29)).alloc (.cells #[.int .u8 k, .bool false, .int .u8 q] 36)).alloc (.cells z12 29))) := b_alloc (b_alloc (b_alloc (Below.refl _ _) _) _) _
  have HR0 : Hid (Row (((w.alloc (.cells (c12 a b) 29)).alloc (.cells #[.int .u8 k, .bool false, .int .u8 q] 36)).alloc (.cells z12 29)) base v sent) := HROW.out.below HB0.out
  have HZ0 : Hid ((((w.alloc (.cells (c12 a b) 29)).alloc (.cells #[.int .u8 k, .bool false, .int .u8 q] 36)).alloc (.cells z12 29)).heap.size = w.heap.size + 3) := Lib.hid (by simp)
  obtain ⟨l', r', e', n', p', d'⟩ := t'
  go_enter Try.func12, Try.ntmps12
  go_wp2_with fail
  refine (HC.out _).mono ?_
  rintro e wy ⟨m, rfl, hr, hb⟩
  go_upto_region 10 with fail
  have hbA := b_alloc hb (.cells (c6 ⟨l', r', e', n', p', d'⟩) 28)
  generalize hxb : wy.heap.size = xb at *
  generalize (wy.alloc (.cells (c6 ⟨l', r', e', n', p', d'⟩) 28)) = wz at *
  have HXB := Lib.hid hxb
  clear hxb hb hr
  have LL := Lib.hid (HL0.out.below hbA)
  have TT := Lib.hid (HT0.out.below hbA)
  have BB := Lib.hid (b_step HB0.out hbA)
  have RV := Lib.hid (HR0.out.below hbA)
  have RM : Hid (Row wz (w.heap.size + 3) (.slice none 0 0) ms') := by rw [hms]; exact row_nil _ _
  have HSZ : Hid (w.heap.size + 3 ≤ wz.heap.size) := by have h1 := hbA.size; rw [HZ0.out] at h1; exact h1
  have lt1 := LL.out.lt
  clear hms hbA HL0 HT0 HS0 HB0 HR0 HZ0
  go_wp2_with fail
  refine start_ (n := 6) (S := fun w' => w'.cell? ⟨w.heap.size, 0, none⟩ = some (.int .i64 a.l) ∧ w'.cell? ⟨w.heap.size, 1, none⟩ = some (.int .i64 a.r) ∧ w'.cell? ⟨w.heap.size, 2, none⟩ = some (.int .i64 a.e) ∧ w'.cell? ⟨w.heap.size, 3, none⟩ = some (.int .i64 a.n) ∧ w'.cell? ⟨w.heap.size, 4, none⟩ = some (.int .i64 a.p) ∧ w'.cell? ⟨w.heap.size, 5, none⟩ = some (.int .i64 a.d) ∧ w'.cell? ⟨w.heap.size, 6, none⟩ = some (.int .i64 b.l) ∧ w'.cell? ⟨w.heap.size, 7, none⟩ = some (.int .i64 b.r) ∧ w'.cell? ⟨w.heap.size, 8, none⟩ = some (.int .i64 b.e) ∧ w'.cell? ⟨w.heap.size, 9, none⟩ = some (.int .i64 b.n) ∧ w'.cell? ⟨w.heap.size, 10, none⟩ = some (.int .i64 b.p) ∧ w'.cell? ⟨w.heap.size, 11, none⟩ = some (.int .i64 b.d)) (ds := [4]) #[false, false, false, false, false, false] (by kernel_rfl) rfl rfl ⟨(LL.out.drew.cell 0), (LL.out.drew.cell 1), (LL.out.drew.cell 2), (LL.out.drew.cell 3), (LL.out.drew.cell 4), (LL.out.drew.cell 5), (LL.out.drew.cell 6), (LL.out.drew.cell 7), (LL.out.drew.cell 8), (LL.out.drew.cell 9), (LL.out.drew.cell 10), (LL.out.drew.cell 11)⟩ (fun hHeld => ?_)
  refine pure_ (i := 1) (N := some 83) (v := ?_) (a' := ?_) #[false, true, false, false, false, false] rfl rfl (by kernel_rfl) (fun _ _ _ h => h) (Or.inl ⟨by rfl, ?_⟩) ?_ ?_
  rotate_left
  · intro w'
    go_simp
    with_reducible rfl
  rotate_left
  · simp only [Act.put, List.setIfInBounds_toArray, List.set_cons_zero, List.set_cons_succ, i64_w, i32_w]
    rfl
  refine pure_ (i := 2) (N := some 84) (v := ?_) (a' := ?_) #[false, true, true, false, false, false] rfl rfl (by kernel_rfl) (fun _ _ _ h => h) (Or.inl ⟨by rfl, ?_⟩) ?_ ?_
  rotate_left
  · intro w'
    go_simp
    with_reducible rfl
  rotate_left
  · simp only [Act.put, List.setIfInBounds_toArray, List.set_cons_zero, List.set_cons_succ, i64_w, i32_w]
    rfl
  refine take_ (i := 0) (N := some 82) (v := ?_) (a' := ?_) #[true, true, true, false, false, false] rfl rfl (by kernel_rfl) (fun _ _ _ h => h) (Or.inl ⟨by rfl, ?_⟩) hHeld ?_ ?_
  rotate_left
  · rintro w' ⟨s0, s1, s2, s3, s4, s5, s6, s7, s8, s9, s10, s11⟩
    go_simp
    with_reducible rfl
  rotate_left
  · simp only [Act.put, List.setIfInBounds_toArray, List.set_cons_zero, List.set_cons_succ, i64_w, i32_w]
    rfl
  refine one_ (i := 3) (N := some 85) #[true, true, true, true, false, false] rfl rfl (by kernel_rfl) (by decide) (fun K hK => ?_)
  refine step_append_row2 rfl (.tmp 83) (.tmp 84) (by rfl) base (w.heap.size + 3) v (.slice none 0 0) sent ms' (by rfl) (by rfl) (RV.out.drew) (RM.out.drew) hlen (Nat.le_trans hbase (b_drew BB.out).size) ?_
  intro v2 w2 hrow2 hgrow hor
  have hB2 := (LL.out.drew).grown hgrow (fun e => by have := HV.out _ e.symm; omega)
  have hT2 := (TT.out.drew).grown hgrow (fun e => by have := HV.out _ e.symm; omega)
  have G1 := Lib.hid (g_far12 (g := w.heap.size + 2) (a' := (.int .i64 a.l)) (b' := (.int .i64 a.r)) (c' := (.int .i64 a.e)) (d' := (.int .i64 a.n)) (e' := (.int .i64 a.p)) (f' := (.int .i64 a.d)) (m' := (.int .i64 b.l)) (n' := (.int .i64 b.r)) (o' := (.int .i64 b.e)) (p' := (.int .i64 b.n)) (q' := (.int .i64 b.p)) (r' := (.int .i64 b.d)) (g_trans' (g_drew (g_below BB.out)) hgrow) (by omega))
  have R1 := Lib.hid (hrow2.apart12 (g := w.heap.size + 2) (a' := (.int .i64 a.l)) (b' := (.int .i64 a.r)) (c' := (.int .i64 a.e)) (d' := (.int .i64 a.n)) (e' := (.int .i64 a.p)) (f' := (.int .i64 a.d)) (m' := (.int .i64 b.l)) (n' := (.int .i64 b.r)) (o' := (.int .i64 b.e)) (p' := (.int .i64 b.n)) (q' := (.int .i64 b.p)) (r' := (.int .i64 b.d)) (fun k hk => (hor k hk).elim (fun h1 => by have h4 := HV.out k h1; omega) (fun h1 => by have h3 := HSZ.out; simp at h1; omega)))
  have T1 := Lib.hid (hT2.store12 (a' := (.int .i64 a.l)) (b' := (.int .i64 a.r)) (c' := (.int .i64 a.e)) (d' := (.int .i64 a.n)) (e' := (.int .i64 a.p)) (f' := (.int .i64 a.d)) (m' := (.int .i64 b.l)) (n' := (.int .i64 b.r)) (o' := (.int .i64 b.e)) (p' := (.int .i64 b.n)) (q' := (.int .i64 b.p)) (r' := (.int .i64 b.d)))
  obtain ⟨y0, y1, y2, y3, y4, y5, y6, y7, y8, y9, y10, y11, z0, z1, z2, z3, z4, z5, z6, z7, z8, z9, z10, z11⟩ := hT2.twelve
  clear hT2 hrow2 hgrow hor
  refine hK.out _ _ ⟨(hB2.cell 0), (hB2.cell 1), (hB2.cell 2), (hB2.cell 3), (hB2.cell 4), (hB2.cell 5), (hB2.cell 6), (hB2.cell 7), (hB2.cell 8), (hB2.cell 9), (hB2.cell 10), (hB2.cell 11)⟩ (fun hHeld => ?_)
  clear hK K
  refine norm_ (a' := ?_) ?_ ?_
  rotate_left
  · show Act.put _ (some 85) _ = _
    simp only [Act.put, List.setIfInBounds_toArray, List.set_cons_zero, List.set_cons_succ, i64_w, i32_w]
    rfl
  refine last_ (i := 4) (N := none) #[true, true, true, true, true, false] rfl rfl (by kernel_rfl) (by decide) (fun K hK => ?_)
  refine skip_ (w1 := ?_) (by rfl) rfl ?_ ?_
  rotate_left
  · go_simp
    rfl
  refine hK.out _ _ ?_
  clear hK K
  refine pure_ (i := 5) (N := some 9) (v := ?_) (a' := ?_) #[true, true, true, true, true, true] rfl rfl (by kernel_rfl) (fun _ _ _ h => h) (Or.inl ⟨by rfl, ?_⟩) ?_ ?_
  rotate_left
  · intro w'
    go_simp
    with_reducible rfl
  rotate_left
  · simp only [Act.put, List.setIfInBounds_toArray, List.set_cons_zero, List.set_cons_succ, i64_w, i32_w]
    rfl
  refine done_ (by kernel_rfl) ?_
  go_wp2_with fail
  exact bodyPost_ret (results_ct rfl _ _ (w.heap.size + 2) 29 #[(.int .i64 a.l), (.int .i64 a.r), (.int .i64 a.e), (.int .i64 a.n), (.int .i64 a.p), (.int .i64 a.d), (.int .i64 b.l), (.int .i64 b.r), (.int .i64 b.e), (.int .i64 b.n), (.int .i64 b.p), (.int .i64 b.d)] _ rfl T1.out Try.underlying29 rfl (by kernel_rfl)) rfl ⟨v2, rfl, R1.out, G1.out⟩
set_option maxHeartbeats 4000000 in
theorem step_ndial_t (a b : Ses) (base : Nat) (v : Value) (sent ms' : List Msg) (k q now : Int) (hk0 : 0 ≤ k) (hk1 : k ≤ 255) (t' : Ses) (c : Int) (hc : (c == 0) = false) (hms : ms' = []) (ns : List Msg) (hkk : (k % 7 == 0) = true) (HC : Hid (∀ w, Calls Try.prog 14 #[S6 b, .int .i64 now, .int .i64 3] w (Dialled t' ns c w))) (w : World) (hv : Row w base v sent) (hbase : base ≤ w.heap.size) (hlen : sent.length + ms'.length ≤ 1000000) :
    Calls Try.prog 12 #[A12 a b, v, .agg #[.int .u8 k, .bool true, .int .u8 q], .int .i64 now] w (Stepped base v a b (sent ++ ms') w) := by
  have HROW := Lib.hid hv
  have HV := Lib.hid (fun k hk => (hv.block k hk).2)
  clear hv
  have HT0 : Hid (Blk (((w.alloc (.cells (c12 a b) 29)).alloc (.cells #[.int .u8 k, .bool true, .int .u8 q] 36)).alloc (.cells z12 29)) (w.heap.size + 2) z12 29) := by
    have h1 := Blk.new ((w.alloc (.cells (c12 a b) 29)).alloc (.cells #[.int .u8 k, .bool true, .int .u8 q] 36)) z12 29
    rw [World.size_alloc, World.size_alloc] at h1
    exact h1
  have HL0 : Hid (Blk (((w.alloc (.cells (c12 a b) 29)).alloc (.cells #[.int .u8 k, .bool true, .int .u8 q] 36)).alloc (.cells z12 29)) w.heap.size (c12 a b) 29) := ((Blk.new _ _ _).alloc _).alloc _
  have HS0 : Hid (Blk (((w.alloc (.cells (c12 a b) 29)).alloc (.cells #[.int .u8 k, .bool true, .int .u8 q] 36)).alloc (.cells z12 29)) (w.heap.size + 1) #[.int .u8 k, .bool true, .int .u8 q] 36) := by
    have h1 := (Blk.new (w.alloc (.cells (c12 a b) 29)) #[.int .u8 k, .bool true, .int .u8 q] 36).alloc (.cells z12 29)
    rw [World.size_alloc] at h1
    exact h1
  have HB0 : Hid (Below w.heap.size w (((w.alloc (.cells (c12 a b) 29)).alloc (.cells #[.int .u8 k, .bool true, .int .u8 q] 36)).alloc (.cells z12 29))) := b_alloc (b_alloc (b_alloc (Below.refl _ _) _) _) _
  have HR0 : Hid (Row (((w.alloc (.cells (c12 a b) 29)).alloc (.cells #[.int .u8 k, .bool true, .int .u8 q] 36)).alloc (.cells z12 29)) base v sent) := HROW.out.below HB0.out
  have HZ0 : Hid ((((w.alloc (.cells (c12 a b) 29)).alloc (.cells #[.int .u8 k, .bool true, .int .u8 q] 36)).alloc (.cells z12 29)).heap.size = w.heap.size + 3) := Lib.hid (by simp)
  obtain ⟨l', r', e', n', p', d'⟩ := t'
  go_enter Try.func12, Try.ntmps12
  go_wp2_with fail
  refine (HC.out _).mono ?_
  rintro e wy ⟨m, rfl, hr, hb⟩
  go_upto_region 10 with fail
  have hbA := b_alloc hb (.cells (c6 ⟨l', r', e', n', p', d'⟩) 28)
  generalize hxb : wy.heap.size = xb at *
  generalize (wy.alloc (.cells (c6 ⟨l', r', e', n', p', d'⟩) 28)) = wz at *
  have HXB := Lib.hid hxb
  clear hxb hb hr
  have LL := Lib.hid (HL0.out.below hbA)
  have TT := Lib.hid (HT0.out.below hbA)
  have BB := Lib.hid (b_step HB0.out hbA)
  have RV := Lib.hid (HR0.out.below hbA)
  have RM : Hid (Row wz (w.heap.size + 3) (.slice none 0 0) ms') := by rw [hms]; exact row_nil _ _
  have HSZ : Hid (w.heap.size + 3 ≤ wz.heap.size) := by have h1 := hbA.size; rw [HZ0.out] at h1; exact h1
  have lt1 := LL.out.lt
  clear hms hbA HL0 HT0 HS0 HB0 HR0 HZ0
  go_wp2_with fail
  refine start_ (n := 6) (S := fun w' => w'.cell? ⟨w.heap.size, 0, none⟩ = some (.int .i64 a.l) ∧ w'.cell? ⟨w.heap.size, 1, none⟩ = some (.int .i64 a.r) ∧ w'.cell? ⟨w.heap.size, 2, none⟩ = some (.int .i64 a.e) ∧ w'.cell? ⟨w.heap.size, 3, none⟩ = some (.int .i64 a.n) ∧ w'.cell? ⟨w.heap.size, 4, none⟩ = some (.int .i64 a.p) ∧ w'.cell? ⟨w.heap.size, 5, none⟩ = some (.int .i64 a.d) ∧ w'.cell? ⟨w.heap.size, 6, none⟩ = some (.int .i64 b.l) ∧ w'.cell? ⟨w.heap.size, 7, none⟩ = some (.int .i64 b.r) ∧ w'.cell? ⟨w.heap.size, 8, none⟩ = some (.int .i64 b.e) ∧ w'.cell? ⟨w.heap.size, 9, none⟩ = some (.int .i64 b.n) ∧ w'.cell? ⟨w.heap.size, 10, none⟩ = some (.int .i64 b.p) ∧ w'.cell? ⟨w.heap.size, 11, none⟩ = some (.int .i64 b.d)) (ds := [4]) #[false, false, false, false, false, false] (by kernel_rfl) rfl rfl ⟨(LL.out.drew.cell 0), (LL.out.drew.cell 1), (LL.out.drew.cell 2), (LL.out.drew.cell 3), (LL.out.drew.cell 4), (LL.out.drew.cell 5), (LL.out.drew.cell 6), (LL.out.drew.cell 7), (LL.out.drew.cell 8), (LL.out.drew.cell 9), (LL.out.drew.cell 10), (LL.out.drew.cell 11)⟩ (fun hHeld => ?_)
  refine pure_ (i := 1) (N := some 83) (v := ?_) (a' := ?_) #[false, true, false, false, false, false] rfl rfl (by kernel_rfl) (fun _ _ _ h => h) (Or.inl ⟨by rfl, ?_⟩) ?_ ?_
  rotate_left
  · intro w'
    go_simp
    with_reducible rfl
  rotate_left
  · simp only [Act.put, List.setIfInBounds_toArray, List.set_cons_zero, List.set_cons_succ, i64_w, i32_w]
    rfl
  refine pure_ (i := 2) (N := some 84) (v := ?_) (a' := ?_) #[false, true, true, false, false, false] rfl rfl (by kernel_rfl) (fun _ _ _ h => h) (Or.inl ⟨by rfl, ?_⟩) ?_ ?_
  rotate_left
  · intro w'
    go_simp
    with_reducible rfl
  rotate_left
  · simp only [Act.put, List.setIfInBounds_toArray, List.set_cons_zero, List.set_cons_succ, i64_w, i32_w]
    rfl
  refine take_ (i := 0) (N := some 82) (v := ?_) (a' := ?_) #[true, true, true, false, false, false] rfl rfl (by kernel_rfl) (fun _ _ _ h => h) (Or.inl ⟨by rfl, ?_⟩) hHeld ?_ ?_
  rotate_left
  · rintro w' ⟨s0, s1, s2, s3, s4, s5, s6, s7, s8, s9, s10, s11⟩
    go_simp
    with_reducible rfl
  rotate_left
  · simp only [Act.put, List.setIfInBounds_toArray, List.set_cons_zero, List.set_cons_succ, i64_w, i32_w]
    rfl
  refine one_ (i := 3) (N := some 85) #[true, true, true, true, false, false] rfl rfl (by kernel_rfl) (by decide) (fun K hK => ?_)
  refine step_append_row2 rfl (.tmp 83) (.tmp 84) (by rfl) base (w.heap.size + 3) v (.slice none 0 0) sent ms' (by rfl) (by rfl) (RV.out.drew) (RM.out.drew) hlen (Nat.le_trans hbase (b_drew BB.out).size) ?_
  intro v2 w2 hrow2 hgrow hor
  have hB2 := (LL.out.drew).grown hgrow (fun e => by have := HV.out _ e.symm; omega)
  have hT2 := (TT.out.drew).grown hgrow (fun e => by have := HV.out _ e.symm; omega)
  have G1 := Lib.hid (g_far12 (g := w.heap.size + 2) (a' := (.int .i64 a.l)) (b' := (.int .i64 a.r)) (c' := (.int .i64 a.e)) (d' := (.int .i64 a.n)) (e' := (.int .i64 a.p)) (f' := (.int .i64 a.d)) (m' := (.int .i64 b.l)) (n' := (.int .i64 b.r)) (o' := (.int .i64 b.e)) (p' := (.int .i64 b.n)) (q' := (.int .i64 b.p)) (r' := (.int .i64 b.d)) (g_trans' (g_drew (g_below BB.out)) hgrow) (by omega))
  have R1 := Lib.hid (hrow2.apart12 (g := w.heap.size + 2) (a' := (.int .i64 a.l)) (b' := (.int .i64 a.r)) (c' := (.int .i64 a.e)) (d' := (.int .i64 a.n)) (e' := (.int .i64 a.p)) (f' := (.int .i64 a.d)) (m' := (.int .i64 b.l)) (n' := (.int .i64 b.r)) (o' := (.int .i64 b.e)) (p' := (.int .i64 b.n)) (q' := (.int .i64 b.p)) (r' := (.int .i64 b.d)) (fun k hk => (hor k hk).elim (fun h1 => by have h4 := HV.out k h1; omega) (fun h1 => by have h3 := HSZ.out; simp at h1; omega)))
  have T1 := Lib.hid (hT2.store12 (a' := (.int .i64 a.l)) (b' := (.int .i64 a.r)) (c' := (.int .i64 a.e)) (d' := (.int .i64 a.n)) (e' := (.int .i64 a.p)) (f' := (.int .i64 a.d)) (m' := (.int .i64 b.l)) (n' := (.int .i64 b.r)) (o' := (.int .i64 b.e)) (p' := (.int .i64 b.n)) (q' := (.int .i64 b.p)) (r' := (.int .i64 b.d)))
  obtain ⟨y0, y1, y2, y3, y4, y5, y6, y7, y8, y9, y10, y11, z0, z1, z2, z3, z4, z5, z6, z7, z8, z9, z10, z11⟩ := hT2.twelve
  clear hT2 hrow2 hgrow hor
  refine hK.out _ _ ⟨(hB2.cell 0), (hB2.cell 1), (hB2.cell 2), (hB2.cell 3), (hB2.cell 4), (hB2.cell 5), (hB2.cell 6), (hB2.cell 7), (hB2.cell 8), (hB2.cell 9), (hB2.cell 10), (hB2.cell 11)⟩ (fun hHeld => ?_)
  clear hK K
  refine norm_ (a' := ?_) ?_ ?_
  rotate_left
  · show Act.put _ (some 85) _ = _
    simp only [Act.put, List.setIfInBounds_toArray, List.set_cons_zero, List.set_cons_succ, i64_w, i32_w]
    rfl
  refine last_ (i := 4) (N := none) #[true, true, true, true, true, false] rfl rfl (by kernel_rfl) (by decide) (fun K hK => ?_)
  refine skip_ (w1 := ?_) (by rfl) rfl ?_ ?_
  rotate_left
  · go_simp
    rfl
  refine hK.out _ _ ?_
  clear hK K
  refine pure_ (i := 5) (N := some 9) (v := ?_) (a' := ?_) #[true, true, true, true, true, true] rfl rfl (by kernel_rfl) (fun _ _ _ h => h) (Or.inl ⟨by rfl, ?_⟩) ?_ ?_
  rotate_left
  · intro w'
    go_simp
    with_reducible rfl
  rotate_left
  · simp only [Act.put, List.setIfInBounds_toArray, List.set_cons_zero, List.set_cons_succ, i64_w, i32_w]
    rfl
  refine done_ (by kernel_rfl) ?_
  go_wp2_with fail
  exact bodyPost_ret (results_ct rfl _ _ (w.heap.size + 2) 29 #[(.int .i64 a.l), (.int .i64 a.r), (.int .i64 a.e), (.int .i64 a.n), (.int .i64 a.p), (.int .i64 a.d), (.int .i64 b.l), (.int .i64 b.r), (.int .i64 b.e), (.int .i64 b.n), (.int .i64 b.p), (.int .i64 b.d)] _ rfl T1.out Try.underlying29 rfl (by kernel_rfl)) rfl ⟨v2, rfl, R1.out, G1.out⟩
set_option maxHeartbeats 4000000 in
theorem step_nrecv_f (a b : Ses) (base : Nat) (v : Value) (sent ms' : List Msg) (hsent : sent = []) (k q now : Int) (hk0 : 0 ≤ k) (hk1 : k ≤ 255) (hms : ms' = []) (hn0 : (k % 7 == 0) = false) (hn5 : (k % 7 == 5) = false) (hn6 : (k % 7 == 6) = false) (w : World) (hv : Row w base v sent) (hbase : base ≤ w.heap.size) (hlen : sent.length + ms'.length ≤ 1000000) :
    Calls Try.prog 12 #[A12 a b, v, .agg #[.int .u8 k, .bool false, .int .u8 q], .int .i64 now] w (Stepped base v a b (sent ++ ms') w) := by
  have HROW := Lib.hid hv
  have HV := Lib.hid (fun k hk => (hv.block k hk).2)
  clear hv
  have hvn := HROW.out.2 hsent
  subst hvn hsent
  have HT0 : Hid (Blk (((w.alloc (.cells (c12 a b) 29)).alloc (.cells #[.int .u8 k, .bool false, .int .u8 q] 36)).alloc (.cells z12 29)) (w.heap.size + 2) z12 29) := by
    have h1 := Blk.new ((w.alloc (.cells (c12 a b) 29)).alloc (.cells #[.int .u8 k, .bool false, .int .u8 q] 36)) z12 29
    rw [World.size_alloc, World.size_alloc] at h1
    exact h1
  have HL0 : Hid (Blk (((w.alloc (.cells (c12 a b) 29)).alloc (.cells #[.int .u8 k, .bool false, .int .u8 q] 36)).alloc (.cells z12 29)) w.heap.size (c12 a b) 29) := ((Blk.new _ _ _).alloc _).alloc _
  have HS0 : Hid (Blk (((w.alloc (.cells (c12 a b) 29)).alloc (.cells #[.int .u8 k, .bool false, .int .u8 q] 36)).alloc (.cells z12 29)) (w.heap.size + 1) #[.int .u8 k, .bool false, .int .u8 q] 36) := by
    have h1 := (Blk.new (w.alloc (.cells (c12 a b) 29)) #[.int .u8 k, .bool false, .int .u8 q] 36).alloc (.cells z12 29)
    rw [World.size_alloc] at h1
    exact h1
  have HB0 : Hid (Below w.heap.size w (((w.alloc (.cells (c12 a b) 29)).alloc (.cells #[.int .u8 k, .bool false, .int .u8 q] 36)).alloc (.cells z12 29))) := b_alloc (b_alloc (b_alloc (Below.refl _ _) _) _) _
  have HR0 : Hid (Row (((w.alloc (.cells (c12 a b) 29)).alloc (.cells #[.int .u8 k, .bool false, .int .u8 q] 36)).alloc (.cells z12 29)) base (.slice none 0 0) []) := HROW.out.below HB0.out
  have HZ0 : Hid ((((w.alloc (.cells (c12 a b) 29)).alloc (.cells #[.int .u8 k, .bool false, .int .u8 q] 36)).alloc (.cells z12 29)).heap.size = w.heap.size + 3) := Lib.hid (by simp)
  have RM : Hid (∀ W, Row W (w.heap.size + 3) (.slice none 0 0) ms') := fun W => by rw [hms]; exact row_nil _ _
  have HSZ : Hid (w.heap.size + 3 ≤ (((w.alloc (.cells (c12 a b) 29)).alloc (.cells #[.int .u8 k, .bool false, .int .u8 q] 36)).alloc (.cells z12 29)).heap.size) := Lib.hid (Nat.le_of_eq HZ0.out.symm)
  clear hms HS0 HZ0
  go_enter Try.func12, Try.ntmps12
  go_upto_region 16 with fail
  generalize (((w.alloc (.cells (c12 a b) 29)).alloc (.cells #[.int .u8 k, .bool false, .int .u8 q] 36)).alloc (.cells z12 29)) = wz at *
  have lt1 := HL0.out.lt
  refine start_ (n := 6) (S := fun w' => w'.cell? ⟨w.heap.size, 0, none⟩ = some (.int .i64 a.l) ∧ w'.cell? ⟨w.heap.size, 1, none⟩ = some (.int .i64 a.r) ∧ w'.cell? ⟨w.heap.size, 2, none⟩ = some (.int .i64 a.e) ∧ w'.cell? ⟨w.heap.size, 3, none⟩ = some (.int .i64 a.n) ∧ w'.cell? ⟨w.heap.size, 4, none⟩ = some (.int .i64 a.p) ∧ w'.cell? ⟨w.heap.size, 5, none⟩ = some (.int .i64 a.d) ∧ w'.cell? ⟨w.heap.size, 6, none⟩ = some (.int .i64 b.l) ∧ w'.cell? ⟨w.heap.size, 7, none⟩ = some (.int .i64 b.r) ∧ w'.cell? ⟨w.heap.size, 8, none⟩ = some (.int .i64 b.e) ∧ w'.cell? ⟨w.heap.size, 9, none⟩ = some (.int .i64 b.n) ∧ w'.cell? ⟨w.heap.size, 10, none⟩ = some (.int .i64 b.p) ∧ w'.cell? ⟨w.heap.size, 11, none⟩ = some (.int .i64 b.d)) (ds := [4]) #[false, false, false, false, false, false] (by kernel_rfl) rfl rfl ⟨(HL0.out.drew.cell 0), (HL0.out.drew.cell 1), (HL0.out.drew.cell 2), (HL0.out.drew.cell 3), (HL0.out.drew.cell 4), (HL0.out.drew.cell 5), (HL0.out.drew.cell 6), (HL0.out.drew.cell 7), (HL0.out.drew.cell 8), (HL0.out.drew.cell 9), (HL0.out.drew.cell 10), (HL0.out.drew.cell 11)⟩ (fun hHeld => ?_)
  refine pure_ (i := 1) (N := some 83) (v := ?_) (a' := ?_) #[false, true, false, false, false, false] rfl rfl (by kernel_rfl) (fun _ _ _ h => h) (Or.inl ⟨by rfl, ?_⟩) ?_ ?_
  rotate_left
  · intro w'
    go_simp
    with_reducible rfl
  rotate_left
  · simp only [Act.put, List.setIfInBounds_toArray, List.set_cons_zero, List.set_cons_succ, i64_w, i32_w]
    rfl
  refine pure_ (i := 2) (N := some 84) (v := ?_) (a' := ?_) #[false, true, true, false, false, false] rfl rfl (by kernel_rfl) (fun _ _ _ h => h) (Or.inl ⟨by rfl, ?_⟩) ?_ ?_
  rotate_left
  · intro w'
    go_simp
    with_reducible rfl
  rotate_left
  · simp only [Act.put, List.setIfInBounds_toArray, List.set_cons_zero, List.set_cons_succ, i64_w, i32_w]
    rfl
  refine take_ (i := 0) (N := some 82) (v := ?_) (a' := ?_) #[true, true, true, false, false, false] rfl rfl (by kernel_rfl) (fun _ _ _ h => h) (Or.inl ⟨by rfl, ?_⟩) hHeld ?_ ?_
  rotate_left
  · rintro w' ⟨s0, s1, s2, s3, s4, s5, s6, s7, s8, s9, s10, s11⟩
    go_simp
    with_reducible rfl
  rotate_left
  · simp only [Act.put, List.setIfInBounds_toArray, List.set_cons_zero, List.set_cons_succ, i64_w, i32_w]
    rfl
  refine one_ (i := 3) (N := some 85) #[true, true, true, true, false, false] rfl rfl (by kernel_rfl) (by decide) (fun K hK => ?_)
  refine step_append_row2 rfl (.tmp 83) (.tmp 84) (by rfl) base (w.heap.size + 3) (.slice none 0 0) (.slice none 0 0) [] ms' (by rfl) (by rfl) (HR0.out.drew) (RM.out _) hlen (Nat.le_trans hbase (b_drew HB0.out).size) ?_
  intro v2 w2 hrow2 hgrow hor
  have hB2 := (HL0.out.drew).grown hgrow (fun e => by have := HV.out _ e.symm; omega)
  have hT2 := (HT0.out.drew).grown hgrow (fun e => by have := HV.out _ e.symm; omega)
  have G1 := Lib.hid (g_far12 (g := w.heap.size + 2) (a' := (.int .i64 a.l)) (b' := (.int .i64 a.r)) (c' := (.int .i64 a.e)) (d' := (.int .i64 a.n)) (e' := (.int .i64 a.p)) (f' := (.int .i64 a.d)) (m' := (.int .i64 b.l)) (n' := (.int .i64 b.r)) (o' := (.int .i64 b.e)) (p' := (.int .i64 b.n)) (q' := (.int .i64 b.p)) (r' := (.int .i64 b.d)) (g_trans' (g_drew (g_below HB0.out)) hgrow) (by omega))
  have R1 := Lib.hid (hrow2.apart12 (g := w.heap.size + 2) (a' := (.int .i64 a.l)) (b' := (.int .i64 a.r)) (c' := (.int .i64 a.e)) (d' := (.int .i64 a.n)) (e' := (.int .i64 a.p)) (f' := (.int .i64 a.d)) (m' := (.int .i64 b.l)) (n' := (.int .i64 b.r)) (o' := (.int .i64 b.e)) (p' := (.int .i64 b.n)) (q' := (.int .i64 b.p)) (r' := (.int .i64 b.d)) (fun k hk => (hor k hk).elim (fun h1 => by have h4 := HV.out k h1; omega) (fun h1 => by have h3 := HSZ.out; simp at h1; omega)))
  have T1 := Lib.hid (hT2.store12 (a' := (.int .i64 a.l)) (b' := (.int .i64 a.r)) (c' := (.int .i64 a.e)) (d' := (.int .i64 a.n)) (e' := (.int .i64 a.p)) (f' := (.int .i64 a.d)) (m' := (.int .i64 b.l)) (n' := (.int .i64 b.r)) (o' := (.int .i64 b.e)) (p' := (.int .i64 b.n)) (q' := (.int .i64 b.p)) (r' := (.int .i64 b.d)))
  obtain ⟨y0, y1, y2, y3, y4, y5, y6, y7, y8, y9, y10, y11, z0, z1, z2, z3, z4, z5, z6, z7, z8, z9, z10, z11⟩ := hT2.twelve
  clear hT2 hrow2 hgrow hor
  refine hK.out _ _ ⟨(hB2.cell 0), (hB2.cell 1), (hB2.cell 2), (hB2.cell 3), (hB2.cell 4), (hB2.cell 5), (hB2.cell 6), (hB2.cell 7), (hB2.cell 8), (hB2.cell 9), (hB2.cell 10), (hB2.cell 11)⟩ (fun hHeld => ?_)
  clear hK K
  refine norm_ (a' := ?_) ?_ ?_
  rotate_left
  · show Act.put _ (some 85) _ = _
    simp only [Act.put, List.setIfInBounds_toArray, List.set_cons_zero, List.set_cons_succ, i64_w, i32_w]
    rfl
  refine last_ (i := 4) (N := none) #[true, true, true, true, true, false] rfl rfl (by kernel_rfl) (by decide) (fun K hK => ?_)
  refine skip_ (w1 := ?_) (by rfl) rfl ?_ ?_
  rotate_left
  · go_simp
    rfl
  refine hK.out _ _ ?_
  clear hK K
  refine pure_ (i := 5) (N := some 9) (v := ?_) (a' := ?_) #[true, true, true, true, true, true] rfl rfl (by kernel_rfl) (fun _ _ _ h => h) (Or.inl ⟨by rfl, ?_⟩) ?_ ?_
  rotate_left
  · intro w'
    go_simp
    with_reducible rfl
  rotate_left
  · simp only [Act.put, List.setIfInBounds_toArray, List.set_cons_zero, List.set_cons_succ, i64_w, i32_w]
    rfl
  refine done_ (by kernel_rfl) ?_
  go_wp2_with fail
  exact bodyPost_ret (results_ct rfl _ _ (w.heap.size + 2) 29 #[(.int .i64 a.l), (.int .i64 a.r), (.int .i64 a.e), (.int .i64 a.n), (.int .i64 a.p), (.int .i64 a.d), (.int .i64 b.l), (.int .i64 b.r), (.int .i64 b.e), (.int .i64 b.n), (.int .i64 b.p), (.int .i64 b.d)] _ rfl T1.out Try.underlying29 rfl (by kernel_rfl)) rfl ⟨v2, rfl, R1.out, G1.out⟩
set_option maxHeartbeats 4000000 in
theorem step_nrecv_t (a b : Ses) (base : Nat) (v : Value) (sent ms' : List Msg) (hsent : sent = []) (k q now : Int) (hk0 : 0 ≤ k) (hk1 : k ≤ 255) (hms : ms' = []) (hn0 : (k % 7 == 0) = false) (hn5 : (k % 7 == 5) = false) (hn6 : (k % 7 == 6) = false) (w : World) (hv : Row w base v sent) (hbase : base ≤ w.heap.size) (hlen : sent.length + ms'.length ≤ 1000000) :
    Calls Try.prog 12 #[A12 a b, v, .agg #[.int .u8 k, .bool true, .int .u8 q], .int .i64 now] w (Stepped base v a b (sent ++ ms') w) := by
  have HROW := Lib.hid hv
  have HV := Lib.hid (fun k hk => (hv.block k hk).2)
  clear hv
  have hvn := HROW.out.2 hsent
  subst hvn hsent
  have HT0 : Hid (Blk (((w.alloc (.cells (c12 a b) 29)).alloc (.cells #[.int .u8 k, .bool true, .int .u8 q] 36)).alloc (.cells z12 29)) (w.heap.size + 2) z12 29) := by
    have h1 := Blk.new ((w.alloc (.cells (c12 a b) 29)).alloc (.cells #[.int .u8 k, .bool true, .int .u8 q] 36)) z12 29
    rw [World.size_alloc, World.size_alloc] at h1
    exact h1
  have HL0 : Hid (Blk (((w.alloc (.cells (c12 a b) 29)).alloc (.cells #[.int .u8 k, .bool true, .int .u8 q] 36)).alloc (.cells z12 29)) w.heap.size (c12 a b) 29) := ((Blk.new _ _ _).alloc _).alloc _
  have HS0 : Hid (Blk (((w.alloc (.cells (c12 a b) 29)).alloc (.cells #[.int .u8 k, .bool true, .int .u8 q] 36)).alloc (.cells z12 29)) (w.heap.size + 1) #[.int .u8 k, .bool true, .int .u8 q] 36) := by
    have h1 := (Blk.new (w.alloc (.cells (c12 a b) 29)) #[.int .u8 k, .bool true, .int .u8 q] 36).alloc (.cells z12 29)
    rw [World.size_alloc] at h1
    exact h1
  have HB0 : Hid (Below w.heap.size w (((w.alloc (.cells (c12 a b) 29)).alloc (.cells #[.int .u8 k, .bool true, .int .u8 q] 36)).alloc (.cells z12 29))) := b_alloc (b_alloc (b_alloc (Below.refl _ _) _) _) _
  have HR0 : Hid (Row (((w.alloc (.cells (c12 a b) 29)).alloc (.cells #[.int .u8 k, .bool true, .int .u8 q] 36)).alloc (.cells z12 29)) base (.slice none 0 0) []) := HROW.out.below HB0.out
  have HZ0 : Hid ((((w.alloc (.cells (c12 a b) 29)).alloc (.cells #[.int .u8 k, .bool true, .int .u8 q] 36)).alloc (.cells z12 29)).heap.size = w.heap.size + 3) := Lib.hid (by simp)
  have RM : Hid (∀ W, Row W (w.heap.size + 3) (.slice none 0 0) ms') := fun W => by rw [hms]; exact row_nil _ _
  have HSZ : Hid (w.heap.size + 3 ≤ (((w.alloc (.cells (c12 a b) 29)).alloc (.cells #[.int .u8 k, .bool true, .int .u8 q] 36)).alloc (.cells z12 29)).heap.size) := Lib.hid (Nat.le_of_eq HZ0.out.symm)
  clear hms HS0 HZ0
  go_enter Try.func12, Try.ntmps12
  go_upto_region 16 with fail
  generalize (((w.alloc (.cells (c12 a b) 29)).alloc (.cells #[.int .u8 k, .bool true, .int .u8 q] 36)).alloc (.cells z12 29)) = wz at *
  have lt1 := HL0.out.lt
  refine start_ (n := 6) (S := fun w' => w'.cell? ⟨w.heap.size, 0, none⟩ = some (.int .i64 a.l) ∧ w'.cell? ⟨w.heap.size, 1, none⟩ = some (.int .i64 a.r) ∧ w'.cell? ⟨w.heap.size, 2, none⟩ = some (.int .i64 a.e) ∧ w'.cell? ⟨w.heap.size, 3, none⟩ = some (.int .i64 a.n) ∧ w'.cell? ⟨w.heap.size, 4, none⟩ = some (.int .i64 a.p) ∧ w'.cell? ⟨w.heap.size, 5, none⟩ = some (.int .i64 a.d) ∧ w'.cell? ⟨w.heap.size, 6, none⟩ = some (.int .i64 b.l) ∧ w'.cell? ⟨w.heap.size, 7, none⟩ = some (.int .i64 b.r) ∧ w'.cell? ⟨w.heap.size, 8, none⟩ = some (.int .i64 b.e) ∧ w'.cell? ⟨w.heap.size, 9, none⟩ = some (.int .i64 b.n) ∧ w'.cell? ⟨w.heap.size, 10, none⟩ = some (.int .i64 b.p) ∧ w'.cell? ⟨w.heap.size, 11, none⟩ = some (.int .i64 b.d)) (ds := [4]) #[false, false, false, false, false, false] (by kernel_rfl) rfl rfl ⟨(HL0.out.drew.cell 0), (HL0.out.drew.cell 1), (HL0.out.drew.cell 2), (HL0.out.drew.cell 3), (HL0.out.drew.cell 4), (HL0.out.drew.cell 5), (HL0.out.drew.cell 6), (HL0.out.drew.cell 7), (HL0.out.drew.cell 8), (HL0.out.drew.cell 9), (HL0.out.drew.cell 10), (HL0.out.drew.cell 11)⟩ (fun hHeld => ?_)
  refine pure_ (i := 1) (N := some 83) (v := ?_) (a' := ?_) #[false, true, false, false, false, false] rfl rfl (by kernel_rfl) (fun _ _ _ h => h) (Or.inl ⟨by rfl, ?_⟩) ?_ ?_
  rotate_left
  · intro w'
    go_simp
    with_reducible rfl
  rotate_left
  · simp only [Act.put, List.setIfInBounds_toArray, List.set_cons_zero, List.set_cons_succ, i64_w, i32_w]
    rfl
  refine pure_ (i := 2) (N := some 84) (v := ?_) (a' := ?_) #[false, true, true, false, false, false] rfl rfl (by kernel_rfl) (fun _ _ _ h => h) (Or.inl ⟨by rfl, ?_⟩) ?_ ?_
  rotate_left
  · intro w'
    go_simp
    with_reducible rfl
  rotate_left
  · simp only [Act.put, List.setIfInBounds_toArray, List.set_cons_zero, List.set_cons_succ, i64_w, i32_w]
    rfl
  refine take_ (i := 0) (N := some 82) (v := ?_) (a' := ?_) #[true, true, true, false, false, false] rfl rfl (by kernel_rfl) (fun _ _ _ h => h) (Or.inl ⟨by rfl, ?_⟩) hHeld ?_ ?_
  rotate_left
  · rintro w' ⟨s0, s1, s2, s3, s4, s5, s6, s7, s8, s9, s10, s11⟩
    go_simp
    with_reducible rfl
  rotate_left
  · simp only [Act.put, List.setIfInBounds_toArray, List.set_cons_zero, List.set_cons_succ, i64_w, i32_w]
    rfl
  refine one_ (i := 3) (N := some 85) #[true, true, true, true, false, false] rfl rfl (by kernel_rfl) (by decide) (fun K hK => ?_)
  refine step_append_row2 rfl (.tmp 83) (.tmp 84) (by rfl) base (w.heap.size + 3) (.slice none 0 0) (.slice none 0 0) [] ms' (by rfl) (by rfl) (HR0.out.drew) (RM.out _) hlen (Nat.le_trans hbase (b_drew HB0.out).size) ?_
  intro v2 w2 hrow2 hgrow hor
  have hB2 := (HL0.out.drew).grown hgrow (fun e => by have := HV.out _ e.symm; omega)
  have hT2 := (HT0.out.drew).grown hgrow (fun e => by have := HV.out _ e.symm; omega)
  have G1 := Lib.hid (g_far12 (g := w.heap.size + 2) (a' := (.int .i64 a.l)) (b' := (.int .i64 a.r)) (c' := (.int .i64 a.e)) (d' := (.int .i64 a.n)) (e' := (.int .i64 a.p)) (f' := (.int .i64 a.d)) (m' := (.int .i64 b.l)) (n' := (.int .i64 b.r)) (o' := (.int .i64 b.e)) (p' := (.int .i64 b.n)) (q' := (.int .i64 b.p)) (r' := (.int .i64 b.d)) (g_trans' (g_drew (g_below HB0.out)) hgrow) (by omega))
  have R1 := Lib.hid (hrow2.apart12 (g := w.heap.size + 2) (a' := (.int .i64 a.l)) (b' := (.int .i64 a.r)) (c' := (.int .i64 a.e)) (d' := (.int .i64 a.n)) (e' := (.int .i64 a.p)) (f' := (.int .i64 a.d)) (m' := (.int .i64 b.l)) (n' := (.int .i64 b.r)) (o' := (.int .i64 b.e)) (p' := (.int .i64 b.n)) (q' := (.int .i64 b.p)) (r' := (.int .i64 b.d)) (fun k hk => (hor k hk).elim (fun h1 => by have h4 := HV.out k h1; omega) (fun h1 => by have h3 := HSZ.out; simp at h1; omega)))
  have T1 := Lib.hid (hT2.store12 (a' := (.int .i64 a.l)) (b' := (.int .i64 a.r)) (c' := (.int .i64 a.e)) (d' := (.int .i64 a.n)) (e' := (.int .i64 a.p)) (f' := (.int .i64 a.d)) (m' := (.int .i64 b.l)) (n' := (.int .i64 b.r)) (o' := (.int .i64 b.e)) (p' := (.int .i64 b.n)) (q' := (.int .i64 b.p)) (r' := (.int .i64 b.d)))
  obtain ⟨y0, y1, y2, y3, y4, y5, y6, y7, y8, y9, y10, y11, z0, z1, z2, z3, z4, z5, z6, z7, z8, z9, z10, z11⟩ := hT2.twelve
  clear hT2 hrow2 hgrow hor
  refine hK.out _ _ ⟨(hB2.cell 0), (hB2.cell 1), (hB2.cell 2), (hB2.cell 3), (hB2.cell 4), (hB2.cell 5), (hB2.cell 6), (hB2.cell 7), (hB2.cell 8), (hB2.cell 9), (hB2.cell 10), (hB2.cell 11)⟩ (fun hHeld => ?_)
  clear hK K
  refine norm_ (a' := ?_) ?_ ?_
  rotate_left
  · show Act.put _ (some 85) _ = _
    simp only [Act.put, List.setIfInBounds_toArray, List.set_cons_zero, List.set_cons_succ, i64_w, i32_w]
    rfl
  refine last_ (i := 4) (N := none) #[true, true, true, true, true, false] rfl rfl (by kernel_rfl) (by decide) (fun K hK => ?_)
  refine skip_ (w1 := ?_) (by rfl) rfl ?_ ?_
  rotate_left
  · go_simp
    rfl
  refine hK.out _ _ ?_
  clear hK K
  refine pure_ (i := 5) (N := some 9) (v := ?_) (a' := ?_) #[true, true, true, true, true, true] rfl rfl (by kernel_rfl) (fun _ _ _ h => h) (Or.inl ⟨by rfl, ?_⟩) ?_ ?_
  rotate_left
  · intro w'
    go_simp
    with_reducible rfl
  rotate_left
  · simp only [Act.put, List.setIfInBounds_toArray, List.set_cons_zero, List.set_cons_succ, i64_w, i32_w]
    rfl
  refine done_ (by kernel_rfl) ?_
  go_wp2_with fail
  exact bodyPost_ret (results_ct rfl _ _ (w.heap.size + 2) 29 #[(.int .i64 a.l), (.int .i64 a.r), (.int .i64 a.e), (.int .i64 a.n), (.int .i64 a.p), (.int .i64 a.d), (.int .i64 b.l), (.int .i64 b.r), (.int .i64 b.e), (.int .i64 b.n), (.int .i64 b.p), (.int .i64 b.d)] _ rfl T1.out Try.underlying29 rfl (by kernel_rfl)) rfl ⟨v2, rfl, R1.out, G1.out⟩
set_option maxHeartbeats 4000000 in
theorem step_recv_f (a b : Ses) (base : Nat) (v : Value) (sent ms' : List Msg) (k q now : Int) (hk0 : 0 ≤ k) (hk1 : k ≤ 255) (t' : Ses) (hn0 : (k % 7 == 0) = false) (hn5 : (k % 7 == 5) = false) (hn6 : (k % 7 == 6) = false) (g cap j : Nat) (msg : Msg) (hv0 : v = .slice (some ⟨g, 0, none⟩) sent.length cap) (hjl : j < sent.length) (hsn : sent ≠ []) (hqj : (wrap64 q).tmod (sent.length : Int) = j) (hmsg : sent[j]? = some msg) (hcap : sent.length ≤ cap) (HC : Hid (∀ w, Calls Try.prog 17 #[S6 a, .int .i64 now, MV msg 0 (.slice none 0 0) (.slice none 0 0)] w (Gave t' ms' w))) (w : World) (hv : Row w base v sent) (hbase : base ≤ w.heap.size) (hlen : sent.length + ms'.length ≤ 1000000) :
    Calls Try.prog 12 #[A12 a b, v, .agg #[.int .u8 k, .bool false, .int .u8 q], .int .i64 now] w (Stepped base v t' b (sent ++ ms') w) := by
  have HROW := Lib.hid hv
  have HV := Lib.hid (fun k hk => (hv.block k hk).2)
  clear hv
  subst hv0
  have hx : ∀ i, i < 8 → w.cell? ⟨g, j * 8 + i, none⟩ = (cM msg)[i]? := by
    rcases HROW.out.open with ⟨h1, h2⟩ | ⟨g1, cap1, h1, h2, h3, h4, h5⟩
    · rw [h2] at hjl
      simp at hjl
    · have h6 := h5 j hjl
      simp only [Value.slice.injEq, Option.some.injEq, Addr.mk.injEq, and_true, true_and] at h1
      obtain ⟨rfl, rfl⟩ := h1
      have h7 : sent[j] = msg := by
        rw [List.getElem?_eq_getElem hjl] at hmsg
        exact Option.some.inj hmsg
      rw [h7] at h6
      exact h6
  have HT0 : Hid (Blk (((w.alloc (.cells (c12 a b) 29)).alloc (.cells #[.int .u8 k, .bool false, .int .u8 q] 36)).alloc (.cells z12 29)) (w.heap.size + 2) z12 29) := by
    have h1 := Blk.new ((w.alloc (.cells (c12 a b) 29)).alloc (.cells #[.int .u8 k, .bool false, .int .u8 q] 36)) z12 29
    rw [World.size_alloc, World.size_alloc] at h1
    exact h1
  have HL0 : Hid (Blk (((w.alloc (.cells (c12 a b) 29)).alloc (.cells #[.int .u8 k, .bool false, .int .u8 q] 36)).alloc (.cells z12 29)) w.heap.size (c12 a b) 29) := ((Blk.new _ _ _).alloc _).alloc _
  have HS0 : Hid (Blk (((w.alloc (.cells (c12 a b) 29)).alloc (.cells #[.int .u8 k, .bool false, .int .u8 q] 36)).alloc (.cells z12 29)) (w.heap.size + 1) #[.int .u8 k, .bool false, .int .u8 q] 36) := by
    have h1 := (Blk.new (w.alloc (.cells (c12 a b) 29)) #[.int .u8 k, .bool false, .int .u8 q] 36).alloc (.cells z12 29)
    rw [World.size_alloc] at h1
    exact h1
  have HB0 : Hid (Below w.heap.size w (((w.alloc (.cells (c12 a b) 29)).alloc (.cells #[.int .u8 k, .bool false, .int .u8 q] 36)).alloc (.cells z12 29))) := b_alloc (b_alloc (b_alloc (Below.refl _ _) _) _) _
  have HR0 : Hid (Row (((w.alloc (.cells (c12 a b) 29)).alloc (.cells #[.int .u8 k, .bool false, .int .u8 q] 36)).alloc (.cells z12 29)) base (.slice (some ⟨g, 0, none⟩) sent.length cap) sent) := HROW.out.below HB0.out
  have HZ0 : Hid ((((w.alloc (.cells (c12 a b) 29)).alloc (.cells #[.int .u8 k, .bool false, .int .u8 q] 36)).alloc (.cells z12 29)).heap.size = w.heap.size + 3) := Lib.hid (by simp)
  have hx2 : ∀ i u, (cM msg)[i]? = some u → i < 8 → (((w.alloc (.cells (c12 a b) 29)).alloc (.cells #[.int .u8 k, .bool false, .int .u8 q] 36)).alloc (.cells z12 29)).cell? ⟨g, j * 8 + i, none⟩ = some u := fun i u hu hi => cell_below ((hx i hi).trans hu) HB0.out
  have x0 := hx2 0 _ rfl (by omega)
  have x1 := hx2 1 _ rfl (by omega)
  have x2 := hx2 2 _ rfl (by omega)
  have x3 := hx2 3 _ rfl (by omega)
  have x4 := hx2 4 _ rfl (by omega)
  have x5 := hx2 5 _ rfl (by omega)
  have x6 := hx2 6 _ rfl (by omega)
  have x7 := hx2 7 _ rfl (by omega)
  simp only [Nat.add_zero] at x0
  clear hx hx2 hmsg
  obtain ⟨l', r', e', n', p', d'⟩ := t'
  have h0l : (0 : Int) < (sent.length : Int) := by omega
  have h0j : (0 : Int) ≤ (j : Int) := by omega
  have h1j : (j : Int) < (sent.length : Int) := by omega
  have HX := Lib.hid (And.intro x0 (And.intro x1 (And.intro x2 (And.intro x3 (And.intro x4 (And.intro x5 (And.intro x6 x7)))))))
  clear x0 x1 x2 x3 x4 x5 x6 x7
  go_enter Try.func12, Try.ntmps12
  go_upto_region 7 with fail
  obtain ⟨x0, x1, x2, x3, x4, x5, x6, x7⟩ := HX.out
  clear HX
  generalize (((w.alloc (.cells (c12 a b) 29)).alloc (.cells #[.int .u8 k, .bool false, .int .u8 q] 36)).alloc (.cells z12 29)) = w0 at *
  refine start_ (n := 21) (S := fun w' => w'.cell? ⟨w.heap.size, 0, none⟩ = some (.int .i64 a.l) ∧ w'.cell? ⟨w.heap.size, 1, none⟩ = some (.int .i64 a.r) ∧ w'.cell? ⟨w.heap.size, 2, none⟩ = some (.int .i64 a.e) ∧ w'.cell? ⟨w.heap.size, 3, none⟩ = some (.int .i64 a.n) ∧ w'.cell? ⟨w.heap.size, 4, none⟩ = some (.int .i64 a.p) ∧ w'.cell? ⟨w.heap.size, 5, none⟩ = some (.int .i64 a.d) ∧ w'.cell? ⟨w.heap.size + 1, 2, none⟩ = some (.int .u8 q) ∧ w'.cell? ⟨g, j * 8, none⟩ = some (.int .i64 msg.k) ∧ w'.cell? ⟨g, j * 8 + 1, none⟩ = some (.int .i64 msg.f) ∧ w'.cell? ⟨g, j * 8 + 2, none⟩ = some (.int .i64 msg.t) ∧ w'.cell? ⟨g, j * 8 + 3, none⟩ = some (.int .i64 msg.n) ∧ w'.cell? ⟨g, j * 8 + 4, none⟩ = some (.int .i64 0) ∧ w'.cell? ⟨g, j * 8 + 5, none⟩ = some (.int .i64 msg.e) ∧ w'.cell? ⟨g, j * 8 + 6, none⟩ = some (.slice none 0 0) ∧ w'.cell? ⟨g, j * 8 + 7, none⟩ = some (.slice none 0 0)) (ds := [19]) #[false, false, false, false, false, false, false, false, false, false, false, false, false, false, false, false, false, false, false, false, false] (by kernel_rfl) rfl rfl ⟨(HL0.out.drew.cell 0), (HL0.out.drew.cell 1), (HL0.out.drew.cell 2), (HL0.out.drew.cell 3), (HL0.out.drew.cell 4), (HL0.out.drew.cell 5), (HS0.out.drew.cell 2), x0, x1, x2, x3, x4, x5, x6, x7⟩ (fun hHeld => ?_)
  refine pure_ (i := 0) (N := some 24) (v := ?_) (a' := ?_) #[true, false, false, false, false, false, false, false, false, false, false, false, false, false, false, false, false, false, false, false, false] rfl rfl (by kernel_rfl) (fun _ _ _ h => h) (Or.inl ⟨by rfl, ?_⟩) ?_ ?_
  rotate_left
  · intro w'
    go_simp
    with_reducible rfl
  rotate_left
  · simp only [Act.put, List.setIfInBounds_toArray, List.set_cons_zero, List.set_cons_succ, i64_w, i32_w]
    rfl
  refine pure_ (i := 1) (N := some 25) (v := ?_) (a' := ?_) #[true, true, false, false, false, false, false, false, false, false, false, false, false, false, false, false, false, false, false, false, false] rfl rfl (by kernel_rfl) (fun _ _ _ h => h) (Or.inl ⟨by rfl, ?_⟩) ?_ ?_
  rotate_left
  · intro w'
    go_simp
    with_reducible rfl
  rotate_left
  · simp only [Act.put, List.setIfInBounds_toArray, List.set_cons_zero, List.set_cons_succ, i64_w, i32_w]
    rfl
  refine pure_ (i := 2) (N := some 26) (v := ?_) (a' := ?_) #[true, true, true, false, false, false, false, false, false, false, false, false, false, false, false, false, false, false, false, false, false] rfl rfl (by kernel_rfl) (fun _ _ _ h => h) (Or.inl ⟨by rfl, ?_⟩) ?_ ?_
  rotate_left
  · intro w'
    go_simp
    with_reducible rfl
  rotate_left
  · simp only [Act.put, List.setIfInBounds_toArray, List.set_cons_zero, List.set_cons_succ, i64_w, i32_w]
    rfl
  refine pure_ (i := 4) (N := some 28) (v := ?_) (a' := ?_) #[true, true, true, false, true, false, false, false, false, false, false, false, false, false, false, false, false, false, false, false, false] rfl rfl (by kernel_rfl) (fun _ _ _ h => h) (Or.inl ⟨by rfl, ?_⟩) ?_ ?_
  rotate_left
  · intro w'
    go_simp
    with_reducible rfl
  rotate_left
  · simp only [Act.put, List.setIfInBounds_toArray, List.set_cons_zero, List.set_cons_succ, i64_w, i32_w]
    rfl
  refine pure_ (i := 5) (N := some 29) (v := ?_) (a' := ?_) #[true, true, true, false, true, true, false, false, false, false, false, false, false, false, false, false, false, false, false, false, false] rfl rfl (by kernel_rfl) (fun _ _ _ h => h) (Or.inl ⟨by rfl, ?_⟩) ?_ ?_
  rotate_left
  · intro w'
    go_simp
    with_reducible rfl
  rotate_left
  · simp only [Act.put, List.setIfInBounds_toArray, List.set_cons_zero, List.set_cons_succ, i64_w, i32_w]
    rfl
  refine pure_ (i := 6) (N := some 30) (v := ?_) (a' := ?_) #[true, true, true, false, true, true, true, false, false, false, false, false, false, false, false, false, false, false, false, false, false] rfl rfl (by kernel_rfl) (fun _ _ _ h => h) (Or.inl ⟨by rfl, ?_⟩) ?_ ?_
  rotate_left
  · intro w'
    go_simp
    with_reducible rfl
  rotate_left
  · simp only [Act.put, List.setIfInBounds_toArray, List.set_cons_zero, List.set_cons_succ, i64_w, i32_w]
    rfl
  refine pure_ (i := 9) (N := some 33) (v := ?_) (a' := ?_) #[true, true, true, false, true, true, true, false, false, true, false, false, false, false, false, false, false, false, false, false, false] rfl rfl (by kernel_rfl) (fun _ _ _ h => h) (Or.inl ⟨by rfl, ?_⟩) ?_ ?_
  rotate_left
  · intro w'
    go_simp
    with_reducible rfl
  rotate_left
  · simp only [Act.put, List.setIfInBounds_toArray, List.set_cons_zero, List.set_cons_succ, i64_w, i32_w]
    rfl
  refine pure_ (i := 10) (N := some 34) (v := ?_) (a' := ?_) #[true, true, true, false, true, true, true, false, false, true, true, false, false, false, false, false, false, false, false, false, false] rfl rfl (by kernel_rfl) (fun _ _ _ h => h) (Or.inl ⟨by rfl, ?_⟩) ?_ ?_
  rotate_left
  · intro w'
    go_simp
    with_reducible rfl
  rotate_left
  · simp only [Act.put, List.setIfInBounds_toArray, List.set_cons_zero, List.set_cons_succ, i64_w, i32_w]
    rfl
  refine take_ (i := 3) (N := some 27) (v := ?_) (a' := ?_) #[true, true, true, true, true, true, true, false, false, true, true, false, false, false, false, false, false, false, false, false, false] rfl rfl (by kernel_rfl) (fun _ _ _ h => h) (Or.inl ⟨by rfl, ?_⟩) hHeld ?_ ?_
  rotate_left
  · rintro w' ⟨s0, s1, s2, s3, s4, s5, s6, s7, s8, s9, s10, s11, s12, s13, s14⟩
    go_simp
    with_reducible rfl
  rotate_left
  · simp only [Act.put, List.setIfInBounds_toArray, List.set_cons_zero, List.set_cons_succ, i64_w, i32_w]
    rfl
  refine take_ (i := 7) (N := some 31) (v := ?_) (a' := ?_) #[true, true, true, true, true, true, true, true, false, true, true, false, false, false, false, false, false, false, false, false, false] rfl rfl (by kernel_rfl) (fun _ _ _ h => h) (Or.inl ⟨by rfl, ?_⟩) hHeld ?_ ?_
  rotate_left
  · rintro w' ⟨s0, s1, s2, s3, s4, s5, s6, s7, s8, s9, s10, s11, s12, s13, s14⟩
    go_simp
    with_reducible rfl
  rotate_left
  · simp only [Act.put, List.setIfInBounds_toArray, List.set_cons_zero, List.set_cons_succ, i64_w, i32_w]
    rfl
  refine pure_ (i := 8) (N := some 32) (v := ?_) (a' := ?_) #[true, true, true, true, true, true, true, true, true, true, true, false, false, false, false, false, false, false, false, false, false] rfl rfl (by kernel_rfl) (fun _ _ _ h => h) (Or.inl ⟨by rfl, ?_⟩) ?_ ?_
  rotate_left
  · intro w'
    go_simp
    with_reducible rfl
  rotate_left
  · simp only [Act.put, List.setIfInBounds_toArray, List.set_cons_zero, List.set_cons_succ, i64_w, i32_w]
    rfl
  refine pure_ (i := 11) (N := some 35) (v := ?_) (a' := ?_) #[true, true, true, true, true, true, true, true, true, true, true, true, false, false, false, false, false, false, false, false, false] rfl rfl (by kernel_rfl) (fun _ _ _ h => h) (Or.inl ⟨by rfl, ?_⟩) ?_ ?_
  rotate_left
  · intro w'
    go_simp
    with_reducible rfl
  rotate_left
  · simp only [Act.put, List.setIfInBounds_toArray, List.set_cons_zero, List.set_cons_succ, i64_w, i32_w]
    rfl
  refine pure_ (i := 12) (N := some 36) (v := ?_) (a' := ?_) #[true, true, true, true, true, true, true, true, true, true, true, true, true, false, false, false, false, false, false, false, false] rfl rfl (by kernel_rfl) (fun _ _ _ h => h) (Or.inl ⟨by rfl, ?_⟩) ?_ ?_
  rotate_left
  · intro w'
    go_simp
    with_reducible rfl
  rotate_left
  · simp only [Act.put, List.setIfInBounds_toArray, List.set_cons_zero, List.set_cons_succ, i64_w, i32_w]
    rfl
  refine take_ (i := 13) (N := some 37) (v := ?_) (a' := ?_) #[true, true, true, true, true, true, true, true, true, true, true, true, true, true, false, false, false, false, false, false, false] rfl rfl (by kernel_rfl) (fun _ _ _ h => h) (Or.inl ⟨by rfl, ?_⟩) hHeld ?_ ?_
  rotate_left
  · rintro w' ⟨s0, s1, s2, s3, s4, s5, s6, s7, s8, s9, s10, s11, s12, s13, s14⟩
    go_simp
    with_reducible rfl
  rotate_left
  · simp only [Act.put, List.setIfInBounds_toArray, List.set_cons_zero, List.set_cons_succ, i64_w, i32_w]
    rfl
  refine one_ (i := 14) (N := some 38) #[true, true, true, true, true, true, true, true, true, true, true, true, true, true, true, false, false, false, false, false, false] rfl rfl (by kernel_rfl) (by decide) (fun K hK => ?_)
  refine goes_ Try.func17 (by kernel_rfl) rfl #[S6 a, .int .i64 now, MV msg 0 (.slice none 0 0) (.slice none 0 0)] (by rfl) rfl rfl (by simp only [List.map_toArray, List.map_cons, List.map_nil]; rfl) ?_
  with_reducible refine (HC.out _).mono ?_
  rintro e wz ⟨m, he, hr, hb⟩
  subst he
  refine ⟨_, rfl, ?_⟩
  have hr1 := hr.lower (Nat.le_of_eq HZ0.out.symm)
  have hL1 := HL0.out.drew.below hb
  have hT1 := HT0.out.drew.below hb
  have hb1 := b_step (b_drew HB0.out) hb
  have hR1 := Row.below HR0.out.drew hb
  have HSZ : Hid (w.heap.size + 3 ≤ wz.heap.size) := by have h1 := hb.size; have h2 : w0.drew.heap.size = w.heap.size + 3 := HZ0.out; rw [h2] at h1; exact h1
  have lt1 := hL1.lt
  obtain ⟨y0, y1, y2, y3, y4, y5, y6, y7, y8, y9, y10, y11, z0, z1, z2, z3, z4, z5, z6, z7, z8, z9, z10, z11⟩ := hL1.twelve
  have LL := Lib.hid (hL1.lo6 (a' := (.int .i64 l')) (b' := (.int .i64 r')) (c' := (.int .i64 e')) (d' := (.int .i64 n')) (e' := (.int .i64 p')) (f' := (.int .i64 d')))
  have TT := Lib.hid (hT1.far6 (g' := w.heap.size) (a := (.int .i64 l')) (b := (.int .i64 r')) (c := (.int .i64 e')) (d := (.int .i64 n')) (e := (.int .i64 p')) (f := (.int .i64 d')) (by omega))
  have RV := Lib.hid (hR1.apart6 (g := w.heap.size) (a := (.int .i64 l')) (b := (.int .i64 r')) (c := (.int .i64 e')) (d := (.int .i64 n')) (e := (.int .i64 p')) (f := (.int .i64 d')) (fun k hk => Nat.ne_of_lt (HV.out k hk)))
  have RM := Lib.hid (hr1.apart6 (g := w.heap.size) (a := (.int .i64 l')) (b := (.int .i64 r')) (c := (.int .i64 e')) (d := (.int .i64 n')) (e := (.int .i64 p')) (f := (.int .i64 d')) (fun k hk => by have := (hr1.block k hk).1; omega))
  have BB := Lib.hid (b_store6 (g := w.heap.size) (a := (.int .i64 l')) (b := (.int .i64 r')) (c := (.int .i64 e')) (d := (.int .i64 n')) (e := (.int .i64 p')) (f := (.int .i64 d')) hb1 (Nat.le_refl _))
  refine hK.out _ _ ⟨(cell_below hHeld.1 hb), (cell_below hHeld.2.1 hb), (cell_below hHeld.2.2.1 hb), (cell_below hHeld.2.2.2.1 hb), (cell_below hHeld.2.2.2.2.1 hb), (cell_below hHeld.2.2.2.2.2.1 hb), (cell_below hHeld.2.2.2.2.2.2.1 hb), (cell_below hHeld.2.2.2.2.2.2.2.1 hb), (cell_below hHeld.2.2.2.2.2.2.2.2.1 hb), (cell_below hHeld.2.2.2.2.2.2.2.2.2.1 hb), (cell_below hHeld.2.2.2.2.2.2.2.2.2.2.1 hb), (cell_below hHeld.2.2.2.2.2.2.2.2.2.2.2.1 hb), (cell_below hHeld.2.2.2.2.2.2.2.2.2.2.2.2.1 hb), (cell_below hHeld.2.2.2.2.2.2.2.2.2.2.2.2.2.1 hb), (cell_below hHeld.2.2.2.2.2.2.2.2.2.2.2.2.2.2 hb)⟩ (fun hHeld => ?_)
  clear hK K
  refine norm_ (a' := ?_) ?_ ?_
  rotate_left
  · show Act.put _ (some 38) _ = _
    simp only [Act.put, List.setIfInBounds_toArray, List.set_cons_zero, List.set_cons_succ, i64_w, i32_w]
    rfl
  refine pure_ (i := 15) (N := some 23) (v := ?_) (a' := ?_) #[true, true, true, true, true, true, true, true, true, true, true, true, true, true, true, true, false, false, false, false, false] rfl rfl (by kernel_rfl) (fun _ _ _ h => h) (Or.inl ⟨by rfl, ?_⟩) ?_ ?_
  rotate_left
  · intro w'
    go_simp
    with_reducible rfl
  rotate_left
  · simp only [Act.put, List.setIfInBounds_toArray, List.set_cons_zero, List.set_cons_succ, i64_w, i32_w]
    rfl
  refine pure_ (i := 16) (N := some 39) (v := ?_) (a' := ?_) #[true, true, true, true, true, true, true, true, true, true, true, true, true, true, true, true, true, false, false, false, false] rfl rfl (by kernel_rfl) (fun _ _ _ h => h) (Or.inl ⟨by rfl, ?_⟩) ?_ ?_
  rotate_left
  · intro w'
    go_simp
    with_reducible rfl
  rotate_left
  · simp only [Act.put, List.setIfInBounds_toArray, List.set_cons_zero, List.set_cons_succ, i64_w, i32_w]
    rfl
  refine pure_ (i := 17) (N := some 40) (v := ?_) (a' := ?_) #[true, true, true, true, true, true, true, true, true, true, true, true, true, true, true, true, true, true, false, false, false] rfl rfl (by kernel_rfl) (fun _ _ _ h => h) (Or.inl ⟨by rfl, ?_⟩) ?_ ?_
  rotate_left
  · intro w'
    go_simp
    with_reducible rfl
  rotate_left
  · simp only [Act.put, List.setIfInBounds_toArray, List.set_cons_zero, List.set_cons_succ, i64_w, i32_w]
    rfl
  refine pure_ (i := 18) (N := some 41) (v := ?_) (a' := ?_) #[true, true, true, true, true, true, true, true, true, true, true, true, true, true, true, true, true, true, true, false, false] rfl rfl (by kernel_rfl) (fun _ _ _ h => h) (Or.inl ⟨by rfl, ?_⟩) ?_ ?_
  rotate_left
  · intro w'
    go_simp
    with_reducible rfl
  rotate_left
  · simp only [Act.put, List.setIfInBounds_toArray, List.set_cons_zero, List.set_cons_succ, i64_w, i32_w]
    rfl
  refine last_ (i := 19) (N := none) #[true, true, true, true, true, true, true, true, true, true, true, true, true, true, true, true, true, true, true, true, false] rfl rfl (by kernel_rfl) (by decide) (fun K hK => ?_)
  refine skip_ (w1 := ?_) (by rfl) rfl ?_ ?_
  rotate_left
  · go_simp
    rfl
  refine hK.out _ _ ?_
  clear hK K
  refine pure_ (i := 20) (N := some 11) (v := ?_) (a' := ?_) #[true, true, true, true, true, true, true, true, true, true, true, true, true, true, true, true, true, true, true, true, true] rfl rfl (by kernel_rfl) (fun _ _ _ h => h) (Or.inl ⟨by rfl, ?_⟩) ?_ ?_
  rotate_left
  · intro w'
    go_simp
    with_reducible rfl
  rotate_left
  · simp only [Act.put, List.setIfInBounds_toArray, List.set_cons_zero, List.set_cons_succ, i64_w, i32_w]
    rfl
  refine done_ (by kernel_rfl) ?_
  clear hr1 hL1 hT1 hb1 hR1 hr hb HL0 HT0 HS0 HB0 HR0 HZ0 x0 x1 x2 x3 x4 x5 x6 x7
  go_wp2_with fail
  refine start_ (n := 6) (S := fun w' => w'.cell? ⟨w.heap.size, 0, none⟩ = some (.int .i64 l') ∧ w'.cell? ⟨w.heap.size, 1, none⟩ = some (.int .i64 r') ∧ w'.cell? ⟨w.heap.size, 2, none⟩ = some (.int .i64 e') ∧ w'.cell? ⟨w.heap.size, 3, none⟩ = some (.int .i64 n') ∧ w'.cell? ⟨w.heap.size, 4, none⟩ = some (.int .i64 p') ∧ w'.cell? ⟨w.heap.size, 5, none⟩ = some (.int .i64 d') ∧ w'.cell? ⟨w.heap.size, 6, none⟩ = some (.int .i64 b.l) ∧ w'.cell? ⟨w.heap.size, 7, none⟩ = some (.int .i64 b.r) ∧ w'.cell? ⟨w.heap.size, 8, none⟩ = some (.int .i64 b.e) ∧ w'.cell? ⟨w.heap.size, 9, none⟩ = some (.int .i64 b.n) ∧ w'.cell? ⟨w.heap.size, 10, none⟩ = some (.int .i64 b.p) ∧ w'.cell? ⟨w.heap.size, 11, none⟩ = some (.int .i64 b.d)) (ds := [4]) #[false, false, false, false, false, false] (by kernel_rfl) rfl rfl ⟨(LL.out.drew.cell 0), (LL.out.drew.cell 1), (LL.out.drew.cell 2), (LL.out.drew.cell 3), (LL.out.drew.cell 4), (LL.out.drew.cell 5), (LL.out.drew.cell 6), (LL.out.drew.cell 7), (LL.out.drew.cell 8), (LL.out.drew.cell 9), (LL.out.drew.cell 10), (LL.out.drew.cell 11)⟩ (fun hHeld => ?_)
  refine pure_ (i := 1) (N := some 83) (v := ?_) (a' := ?_) #[false, true, false, false, false, false] rfl rfl (by kernel_rfl) (fun _ _ _ h => h) (Or.inl ⟨by rfl, ?_⟩) ?_ ?_
  rotate_left
  · intro w'
    go_simp
    with_reducible rfl
  rotate_left
  · simp only [Act.put, List.setIfInBounds_toArray, List.set_cons_zero, List.set_cons_succ, i64_w, i32_w]
    rfl
  refine pure_ (i := 2) (N := some 84) (v := ?_) (a' := ?_) #[false, true, true, false, false, false] rfl rfl (by kernel_rfl) (fun _ _ _ h => h) (Or.inl ⟨by rfl, ?_⟩) ?_ ?_
  rotate_left
  · intro w'
    go_simp
    with_reducible rfl
  rotate_left
  · simp only [Act.put, List.setIfInBounds_toArray, List.set_cons_zero, List.set_cons_succ, i64_w, i32_w]
    rfl
  refine take_ (i := 0) (N := some 82) (v := ?_) (a' := ?_) #[true, true, true, false, false, false] rfl rfl (by kernel_rfl) (fun _ _ _ h => h) (Or.inl ⟨by rfl, ?_⟩) hHeld ?_ ?_
  rotate_left
  · rintro w' ⟨s0, s1, s2, s3, s4, s5, s6, s7, s8, s9, s10, s11⟩
    go_simp
    with_reducible rfl
  rotate_left
  · simp only [Act.put, List.setIfInBounds_toArray, List.set_cons_zero, List.set_cons_succ, i64_w, i32_w]
    rfl
  refine one_ (i := 3) (N := some 85) #[true, true, true, true, false, false] rfl rfl (by kernel_rfl) (by decide) (fun K hK => ?_)
  refine step_append_row2 rfl (.tmp 83) (.tmp 84) (by rfl) base (w.heap.size + 3) (.slice (some ⟨g, 0, none⟩) sent.length cap) m sent ms' (by rfl) (by rfl) (RV.out.drew) (RM.out.drew) hlen (Nat.le_trans hbase (b_drew BB.out).size) ?_
  intro v2 w2 hrow2 hgrow hor
  have hB2 := (LL.out.drew).grown hgrow (fun e => by have := HV.out _ e.symm; omega)
  have hT2 := (TT.out.drew).grown hgrow (fun e => by have := HV.out _ e.symm; omega)
  have G1 := Lib.hid (g_far12 (g := w.heap.size + 2) (a' := (.int .i64 l')) (b' := (.int .i64 r')) (c' := (.int .i64 e')) (d' := (.int .i64 n')) (e' := (.int .i64 p')) (f' := (.int .i64 d')) (m' := (.int .i64 b.l)) (n' := (.int .i64 b.r)) (o' := (.int .i64 b.e)) (p' := (.int .i64 b.n)) (q' := (.int .i64 b.p)) (r' := (.int .i64 b.d)) (g_trans' (g_drew (g_below BB.out)) hgrow) (by omega))
  have R1 := Lib.hid (hrow2.apart12 (g := w.heap.size + 2) (a' := (.int .i64 l')) (b' := (.int .i64 r')) (c' := (.int .i64 e')) (d' := (.int .i64 n')) (e' := (.int .i64 p')) (f' := (.int .i64 d')) (m' := (.int .i64 b.l)) (n' := (.int .i64 b.r)) (o' := (.int .i64 b.e)) (p' := (.int .i64 b.n)) (q' := (.int .i64 b.p)) (r' := (.int .i64 b.d)) (fun k hk => (hor k hk).elim (fun h1 => by have h4 := HV.out k h1; omega) (fun h1 => by have h3 := HSZ.out; simp at h1; omega)))
  have T1 := Lib.hid (hT2.store12 (a' := (.int .i64 l')) (b' := (.int .i64 r')) (c' := (.int .i64 e')) (d' := (.int .i64 n')) (e' := (.int .i64 p')) (f' := (.int .i64 d')) (m' := (.int .i64 b.l)) (n' := (.int .i64 b.r)) (o' := (.int .i64 b.e)) (p' := (.int .i64 b.n)) (q' := (.int .i64 b.p)) (r' := (.int .i64 b.d)))
  obtain ⟨y0, y1, y2, y3, y4, y5, y6, y7, y8, y9, y10, y11, z0, z1, z2, z3, z4, z5, z6, z7, z8, z9, z10, z11⟩ := hT2.twelve
  clear hT2 hrow2 hgrow hor
  refine hK.out _ _ ⟨(hB2.cell 0), (hB2.cell 1), (hB2.cell 2), (hB2.cell 3), (hB2.cell 4), (hB2.cell 5), (hB2.cell 6), (hB2.cell 7), (hB2.cell 8), (hB2.cell 9), (hB2.cell 10), (hB2.cell 11)⟩ (fun hHeld => ?_)
  clear hK K
  refine norm_ (a' := ?_) ?_ ?_
  rotate_left
  · show Act.put _ (some 85) _ = _
    simp only [Act.put, List.setIfInBounds_toArray, List.set_cons_zero, List.set_cons_succ, i64_w, i32_w]
    rfl
  refine last_ (i := 4) (N := none) #[true, true, true, true, true, false] rfl rfl (by kernel_rfl) (by decide) (fun K hK => ?_)
  refine skip_ (w1 := ?_) (by rfl) rfl ?_ ?_
  rotate_left
  · go_simp
    rfl
  refine hK.out _ _ ?_
  clear hK K
  refine pure_ (i := 5) (N := some 9) (v := ?_) (a' := ?_) #[true, true, true, true, true, true] rfl rfl (by kernel_rfl) (fun _ _ _ h => h) (Or.inl ⟨by rfl, ?_⟩) ?_ ?_
  rotate_left
  · intro w'
    go_simp
    with_reducible rfl
  rotate_left
  · simp only [Act.put, List.setIfInBounds_toArray, List.set_cons_zero, List.set_cons_succ, i64_w, i32_w]
    rfl
  refine done_ (by kernel_rfl) ?_
  go_wp2_with fail
  exact bodyPost_ret (results_ct rfl _ _ (w.heap.size + 2) 29 #[(.int .i64 l'), (.int .i64 r'), (.int .i64 e'), (.int .i64 n'), (.int .i64 p'), (.int .i64 d'), (.int .i64 b.l), (.int .i64 b.r), (.int .i64 b.e), (.int .i64 b.n), (.int .i64 b.p), (.int .i64 b.d)] _ rfl T1.out Try.underlying29 rfl (by kernel_rfl)) rfl ⟨v2, rfl, R1.out, G1.out⟩
set_option maxHeartbeats 4000000 in
theorem step_recv_t (a b : Ses) (base : Nat) (v : Value) (sent ms' : List Msg) (k q now : Int) (hk0 : 0 ≤ k) (hk1 : k ≤ 255) (t' : Ses) (hn0 : (k % 7 == 0) = false) (hn5 : (k % 7 == 5) = false) (hn6 : (k % 7 == 6) = false) (g cap j : Nat) (msg : Msg) (hv0 : v = .slice (some ⟨g, 0, none⟩) sent.length cap) (hjl : j < sent.length) (hsn : sent ≠ []) (hqj : (wrap64 q).tmod (sent.length : Int) = j) (hmsg : sent[j]? = some msg) (hcap : sent.length ≤ cap) (HC : Hid (∀ w, Calls Try.prog 17 #[S6 b, .int .i64 now, MV msg 0 (.slice none 0 0) (.slice none 0 0)] w (Gave t' ms' w))) (w : World) (hv : Row w base v sent) (hbase : base ≤ w.heap.size) (hlen : sent.length + ms'.length ≤ 1000000) :
    Calls Try.prog 12 #[A12 a b, v, .agg #[.int .u8 k, .bool true, .int .u8 q], .int .i64 now] w (Stepped base v a t' (sent ++ ms') w) := by
  have HROW := Lib.hid hv
  have HV := Lib.hid (fun k hk => (hv.block k hk).2)
  clear hv
  subst hv0
  have hx : ∀ i, i < 8 → w.cell? ⟨g, j * 8 + i, none⟩ = (cM msg)[i]? := by
    rcases HROW.out.open with ⟨h1, h2⟩ | ⟨g1, cap1, h1, h2, h3, h4, h5⟩
    · rw [h2] at hjl
      simp at hjl
    · have h6 := h5 j hjl
      simp only [Value.slice.injEq, Option.some.injEq, Addr.mk.injEq, and_true, true_and] at h1
      obtain ⟨rfl, rfl⟩ := h1
      have h7 : sent[j] = msg := by
        rw [List.getElem?_eq_getElem hjl] at hmsg
        exact Option.some.inj hmsg
      rw [h7] at h6
      exact h6
  have HT0 : Hid (Blk (((w.alloc (.cells (c12 a b) 29)).alloc (.cells #[.int .u8 k, .bool true, .int .u8 q] 36)).alloc (.cells z12 29)) (w.heap.size + 2) z12 29) := by
    have h1 := Blk.new ((w.alloc (.cells (c12 a b) 29)).alloc (.cells #[.int .u8 k, .bool true, .int .u8 q] 36)) z12 29
    rw [World.size_alloc, World.size_alloc] at h1
    exact h1
  have HL0 : Hid (Blk (((w.alloc (.cells (c12 a b) 29)).alloc (.cells #[.int .u8 k, .bool true, .int .u8 q] 36)).alloc (.cells z12 29)) w.heap.size (c12 a b) 29) := ((Blk.new _ _ _).alloc _).alloc _
  have HS0 : Hid (Blk (((w.alloc (.cells (c12 a b) 29)).alloc (.cells #[.int .u8 k, .bool true, .int .u8 q] 36)).alloc (.cells z12 29)) (w.heap.size + 1) #[.int .u8 k, .bool true, .int .u8 q] 36) := by
    have h1 := (Blk.new (w.alloc (.cells (c12 a b) 29)) #[.int .u8 k, .bool true, .int .u8 q] 36).alloc (.cells z12 29)
    rw [World.size_alloc] at h1
    exact h1
  have HB0 : Hid (Below w.heap.size w (((w.alloc (.cells (c12 a b) 29)).alloc (.cells #[.int .u8 k, .bool true, .int .u8 q] 36)).alloc (.cells z12 29))) := b_alloc (b_alloc (b_alloc (Below.refl _ _) _) _) _
  have HR0 : Hid (Row (((w.alloc (.cells (c12 a b) 29)).alloc (.cells #[.int .u8 k, .bool true, .int .u8 q] 36)).alloc (.cells z12 29)) base (.slice (some ⟨g, 0, none⟩) sent.length cap) sent) := HROW.out.below HB0.out
  have HZ0 : Hid ((((w.alloc (.cells (c12 a b) 29)).alloc (.cells #[.int .u8 k, .bool true, .int .u8 q] 36)).alloc (.cells z12 29)).heap.size = w.heap.size + 3) := Lib.hid (by simp)
  have hx2 : ∀ i u, (cM msg)[i]? = some u → i < 8 → (((w.alloc (.cells (c12 a b) 29)).alloc (.cells #[.int .u8 k, .bool true, .int .u8 q] 36)).alloc (.cells z12 29)).cell? ⟨g, j * 8 + i, none⟩ = some u := fun i u hu hi => cell_below ((hx i hi).trans hu) HB0.out
  have x0 := hx2 0 _ rfl (by omega)
  have x1 := hx2 1 _ rfl (by omega)
  have x2 := hx2 2 _ rfl (by omega)
  have x3 := hx2 3 _ rfl (by omega)
  have x4 := hx2 4 _ rfl (by omega)
  have x5 := hx2 5 _ rfl (by omega)
  have x6 := hx2 6 _ rfl (by omega)
  have x7 := hx2 7 _ rfl (by omega)
  simp only [Nat.add_zero] at x0
  clear hx hx2 hmsg
  obtain ⟨l', r', e', n', p', d'⟩ := t'
  have h0l : (0 : Int) < (sent.length : Int) := by omega
  have h0j : (0 : Int) ≤ (j : Int) := by omega
  have h1j : (j : Int) < (sent.length : Int) := by omega
  have HX := Lib.hid (And.intro x0 (And.intro x1 (And.intro x2 (And.intro x3 (And.intro x4 (And.intro x5 (And.intro x6 x7)))))))
  clear x0 x1 x2 x3 x4 x5 x6 x7
  go_enter Try.func12, Try.ntmps12
  go_upto_region 7 with fail
  obtain ⟨x0, x1, x2, x3, x4, x5, x6, x7⟩ := HX.out
  clear HX
  generalize (((w.alloc (.cells (c12 a b) 29)).alloc (.cells #[.int .u8 k, .bool true, .int .u8 q] 36)).alloc (.cells z12 29)) = w0 at *
  refine start_ (n := 21) (S := fun w' => w'.cell? ⟨w.heap.size, 6, none⟩ = some (.int .i64 b.l) ∧ w'.cell? ⟨w.heap.size, 7, none⟩ = some (.int .i64 b.r) ∧ w'.cell? ⟨w.heap.size, 8, none⟩ = some (.int .i64 b.e) ∧ w'.cell? ⟨w.heap.size, 9, none⟩ = some (.int .i64 b.n) ∧ w'.cell? ⟨w.heap.size, 10, none⟩ = some (.int .i64 b.p) ∧ w'.cell? ⟨w.heap.size, 11, none⟩ = some (.int .i64 b.d) ∧ w'.cell? ⟨w.heap.size + 1, 2, none⟩ = some (.int .u8 q) ∧ w'.cell? ⟨g, j * 8, none⟩ = some (.int .i64 msg.k) ∧ w'.cell? ⟨g, j * 8 + 1, none⟩ = some (.int .i64 msg.f) ∧ w'.cell? ⟨g, j * 8 + 2, none⟩ = some (.int .i64 msg.t) ∧ w'.cell? ⟨g, j * 8 + 3, none⟩ = some (.int .i64 msg.n) ∧ w'.cell? ⟨g, j * 8 + 4, none⟩ = some (.int .i64 0) ∧ w'.cell? ⟨g, j * 8 + 5, none⟩ = some (.int .i64 msg.e) ∧ w'.cell? ⟨g, j * 8 + 6, none⟩ = some (.slice none 0 0) ∧ w'.cell? ⟨g, j * 8 + 7, none⟩ = some (.slice none 0 0)) (ds := [19]) #[false, false, false, false, false, false, false, false, false, false, false, false, false, false, false, false, false, false, false, false, false] (by kernel_rfl) rfl rfl ⟨(HL0.out.drew.cell 6), (HL0.out.drew.cell 7), (HL0.out.drew.cell 8), (HL0.out.drew.cell 9), (HL0.out.drew.cell 10), (HL0.out.drew.cell 11), (HS0.out.drew.cell 2), x0, x1, x2, x3, x4, x5, x6, x7⟩ (fun hHeld => ?_)
  refine pure_ (i := 0) (N := some 24) (v := ?_) (a' := ?_) #[true, false, false, false, false, false, false, false, false, false, false, false, false, false, false, false, false, false, false, false, false] rfl rfl (by kernel_rfl) (fun _ _ _ h => h) (Or.inl ⟨by rfl, ?_⟩) ?_ ?_
  rotate_left
  · intro w'
    go_simp
    with_reducible rfl
  rotate_left
  · simp only [Act.put, List.setIfInBounds_toArray, List.set_cons_zero, List.set_cons_succ, i64_w, i32_w]
    rfl
  refine pure_ (i := 1) (N := some 25) (v := ?_) (a' := ?_) #[true, true, false, false, false, false, false, false, false, false, false, false, false, false, false, false, false, false, false, false, false] rfl rfl (by kernel_rfl) (fun _ _ _ h => h) (Or.inl ⟨by rfl, ?_⟩) ?_ ?_
  rotate_left
  · intro w'
    go_simp
    with_reducible rfl
  rotate_left
  · simp only [Act.put, List.setIfInBounds_toArray, List.set_cons_zero, List.set_cons_succ, i64_w, i32_w]
    rfl
  refine pure_ (i := 2) (N := some 26) (v := ?_) (a' := ?_) #[true, true, true, false, false, false, false, false, false, false, false, false, false, false, false, false, false, false, false, false, false] rfl rfl (by kernel_rfl) (fun _ _ _ h => h) (Or.inl ⟨by rfl, ?_⟩) ?_ ?_
  rotate_left
  · intro w'
    go_simp
    with_reducible rfl
  rotate_left
  · simp only [Act.put, List.setIfInBounds_toArray, List.set_cons_zero, List.set_cons_succ, i64_w, i32_w]
    rfl
  refine pure_ (i := 4) (N := some 28) (v := ?_) (a' := ?_) #[true, true, true, false, true, false, false, false, false, false, false, false, false, false, false, false, false, false, false, false, false] rfl rfl (by kernel_rfl) (fun _ _ _ h => h) (Or.inl ⟨by rfl, ?_⟩) ?_ ?_
  rotate_left
  · intro w'
    go_simp
    with_reducible rfl
  rotate_left
  · simp only [Act.put, List.setIfInBounds_toArray, List.set_cons_zero, List.set_cons_succ, i64_w, i32_w]
    rfl
  refine pure_ (i := 5) (N := some 29) (v := ?_) (a' := ?_) #[true, true, true, false, true, true, false, false, false, false, false, false, false, false, false, false, false, false, false, false, false] rfl rfl (by kernel_rfl) (fun _ _ _ h => h) (Or.inl ⟨by rfl, ?_⟩) ?_ ?_
  rotate_left
  · intro w'
    go_simp
    with_reducible rfl
  rotate_left
  · simp only [Act.put, List.setIfInBounds_toArray, List.set_cons_zero, List.set_cons_succ, i64_w, i32_w]
    rfl
  refine pure_ (i := 6) (N := some 30) (v := ?_) (a' := ?_) #[true, true, true, false, true, true, true, false, false, false, false, false, false, false, false, false, false, false, false, false, false] rfl rfl (by kernel_rfl) (fun _ _ _ h => h) (Or.inl ⟨by rfl, ?_⟩) ?_ ?_
  rotate_left
  · intro w'
    go_simp
    with_reducible rfl
  rotate_left
  · simp only [Act.put, List.setIfInBounds_toArray, List.set_cons_zero, List.set_cons_succ, i64_w, i32_w]
    rfl
  refine pure_ (i := 9) (N := some 33) (v := ?_) (a' := ?_) #[true, true, true, false, true, true, true, false, false, true, false, false, false, false, false, false, false, false, false, false, false] rfl rfl (by kernel_rfl) (fun _ _ _ h => h) (Or.inl ⟨by rfl, ?_⟩) ?_ ?_
  rotate_left
  · intro w'
    go_simp
    with_reducible rfl
  rotate_left
  · simp only [Act.put, List.setIfInBounds_toArray, List.set_cons_zero, List.set_cons_succ, i64_w, i32_w]
    rfl
  refine pure_ (i := 10) (N := some 34) (v := ?_) (a' := ?_) #[true, true, true, false, true, true, true, false, false, true, true, false, false, false, false, false, false, false, false, false, false] rfl rfl (by kernel_rfl) (fun _ _ _ h => h) (Or.inl ⟨by rfl, ?_⟩) ?_ ?_
  rotate_left
  · intro w'
    go_simp
    with_reducible rfl
  rotate_left
  · simp only [Act.put, List.setIfInBounds_toArray, List.set_cons_zero, List.set_cons_succ, i64_w, i32_w]
    rfl
  refine take_ (i := 3) (N := some 27) (v := ?_) (a' := ?_) #[true, true, true, true, true, true, true, false, false, true, true, false, false, false, false, false, false, false, false, false, false] rfl rfl (by kernel_rfl) (fun _ _ _ h => h) (Or.inl ⟨by rfl, ?_⟩) hHeld ?_ ?_
  rotate_left
  · rintro w' ⟨s0, s1, s2, s3, s4, s5, s6, s7, s8, s9, s10, s11, s12, s13, s14⟩
    go_simp
    with_reducible rfl
  rotate_left
  · simp only [Act.put, List.setIfInBounds_toArray, List.set_cons_zero, List.set_cons_succ, i64_w, i32_w]
    rfl
  refine take_ (i := 7) (N := some 31) (v := ?_) (a' := ?_) #[true, true, true, true, true, true, true, true, false, true, true, false, false, false, false, false, false, false, false, false, false] rfl rfl (by kernel_rfl) (fun _ _ _ h => h) (Or.inl ⟨by rfl, ?_⟩) hHeld ?_ ?_
  rotate_left
  · rintro w' ⟨s0, s1, s2, s3, s4, s5, s6, s7, s8, s9, s10, s11, s12, s13, s14⟩
    go_simp
    with_reducible rfl
  rotate_left
  · simp only [Act.put, List.setIfInBounds_toArray, List.set_cons_zero, List.set_cons_succ, i64_w, i32_w]
    rfl
  refine pure_ (i := 8) (N := some 32) (v := ?_) (a' := ?_) #[true, true, true, true, true, true, true, true, true, true, true, false, false, false, false, false, false, false, false, false, false] rfl rfl (by kernel_rfl) (fun _ _ _ h => h) (Or.inl ⟨by rfl, ?_⟩) ?_ ?_
  rotate_left
  · intro w'
    go_simp
    with_reducible rfl
  rotate_left
  · simp only [Act.put, List.setIfInBounds_toArray, List.set_cons_zero, List.set_cons_succ, i64_w, i32_w]
    rfl
  refine pure_ (i := 11) (N := some 35) (v := ?_) (a' := ?_) #[true, true, true, true, true, true, true, true, true, true, true, true, false, false, false, false, false, false, false, false, false] rfl rfl (by kernel_rfl) (fun _ _ _ h => h) (Or.inl ⟨by rfl, ?_⟩) ?_ ?_
  rotate_left
  · intro w'
    go_simp
    with_reducible rfl
  rotate_left
  · simp only [Act.put, List.setIfInBounds_toArray, List.set_cons_zero, List.set_cons_succ, i64_w, i32_w]
    rfl
  refine pure_ (i := 12) (N := some 36) (v := ?_) (a' := ?_) #[true, true, true, true, true, true, true, true, true, true, true, true, true, false, false, false, false, false, false, false, false] rfl rfl (by kernel_rfl) (fun _ _ _ h => h) (Or.inl ⟨by rfl, ?_⟩) ?_ ?_
  rotate_left
  · intro w'
    go_simp
    with_reducible rfl
  rotate_left
  · simp only [Act.put, List.setIfInBounds_toArray, List.set_cons_zero, List.set_cons_succ, i64_w, i32_w]
    rfl
  refine take_ (i := 13) (N := some 37) (v := ?_) (a' := ?_) #[true, true, true, true, true, true, true, true, true, true, true, true, true, true, false, false, false, false, false, false, false] rfl rfl (by kernel_rfl) (fun _ _ _ h => h) (Or.inl ⟨by rfl, ?_⟩) hHeld ?_ ?_
  rotate_left
  · rintro w' ⟨s0, s1, s2, s3, s4, s5, s6, s7, s8, s9, s10, s11, s12, s13, s14⟩
    go_simp
    with_reducible rfl
  rotate_left
  · simp only [Act.put, List.setIfInBounds_toArray, List.set_cons_zero, List.set_cons_succ, i64_w, i32_w]
    rfl
  refine one_ (i := 14) (N := some 38) #[true, true, true, true, true, true, true, true, true, true, true, true, true, true, true, false, false, false, false, false, false] rfl rfl (by kernel_rfl) (by decide) (fun K hK => ?_)
  refine goes_ Try.func17 (by kernel_rfl) rfl #[S6 b, .int .i64 now, MV msg 0 (.slice none 0 0) (.slice none 0 0)] (by rfl) rfl rfl (by simp only [List.map_toArray, List.map_cons, List.map_nil]; rfl) ?_
  with_reducible refine (HC.out _).mono ?_
  rintro e wz ⟨m, he, hr, hb⟩
  subst he
  refine ⟨_, rfl, ?_⟩
  have hr1 := hr.lower (Nat.le_of_eq HZ0.out.symm)
  have hL1 := HL0.out.drew.below hb
  have hT1 := HT0.out.drew.below hb
  have hb1 := b_step (b_drew HB0.out) hb
  have hR1 := Row.below HR0.out.drew hb
  have HSZ : Hid (w.heap.size + 3 ≤ wz.heap.size) := by have h1 := hb.size; have h2 : w0.drew.heap.size = w.heap.size + 3 := HZ0.out; rw [h2] at h1; exact h1
  have lt1 := hL1.lt
  obtain ⟨y0, y1, y2, y3, y4, y5, y6, y7, y8, y9, y10, y11, z0, z1, z2, z3, z4, z5, z6, z7, z8, z9, z10, z11⟩ := hL1.twelve
  have LL := Lib.hid (hL1.hi6 (m' := (.int .i64 l')) (n' := (.int .i64 r')) (o' := (.int .i64 e')) (p' := (.int .i64 n')) (q' := (.int .i64 p')) (r' := (.int .i64 d')))
  have TT := Lib.hid (hT1.farHi6 (g2 := w.heap.size) (a := (.int .i64 l')) (b := (.int .i64 r')) (c := (.int .i64 e')) (d := (.int .i64 n')) (e := (.int .i64 p')) (f := (.int .i64 d')) (by omega))
  have RV := Lib.hid (hR1.farHi6 (g := w.heap.size) (a := (.int .i64 l')) (b := (.int .i64 r')) (c := (.int .i64 e')) (d := (.int .i64 n')) (e := (.int .i64 p')) (f := (.int .i64 d')) (fun k hk => Nat.ne_of_lt (HV.out k hk)))
  have RM := Lib.hid (hr1.farHi6 (g := w.heap.size) (a := (.int .i64 l')) (b := (.int .i64 r')) (c := (.int .i64 e')) (d := (.int .i64 n')) (e := (.int .i64 p')) (f := (.int .i64 d')) (fun k hk => by have := (hr1.block k hk).1; omega))
  have BB := Lib.hid (b_hi6 (g := w.heap.size) (a := (.int .i64 l')) (b := (.int .i64 r')) (c := (.int .i64 e')) (d := (.int .i64 n')) (e := (.int .i64 p')) (f := (.int .i64 d')) hb1 (Nat.le_refl _))
  refine hK.out _ _ ⟨(cell_below hHeld.1 hb), (cell_below hHeld.2.1 hb), (cell_below hHeld.2.2.1 hb), (cell_below hHeld.2.2.2.1 hb), (cell_below hHeld.2.2.2.2.1 hb), (cell_below hHeld.2.2.2.2.2.1 hb), (cell_below hHeld.2.2.2.2.2.2.1 hb), (cell_below hHeld.2.2.2.2.2.2.2.1 hb), (cell_below hHeld.2.2.2.2.2.2.2.2.1 hb), (cell_below hHeld.2.2.2.2.2.2.2.2.2.1 hb), (cell_below hHeld.2.2.2.2.2.2.2.2.2.2.1 hb), (cell_below hHeld.2.2.2.2.2.2.2.2.2.2.2.1 hb), (cell_below hHeld.2.2.2.2.2.2.2.2.2.2.2.2.1 hb), (cell_below hHeld.2.2.2.2.2.2.2.2.2.2.2.2.2.1 hb), (cell_below hHeld.2.2.2.2.2.2.2.2.2.2.2.2.2.2 hb)⟩ (fun hHeld => ?_)
  clear hK K
  refine norm_ (a' := ?_) ?_ ?_
  rotate_left
  · show Act.put _ (some 38) _ = _
    simp only [Act.put, List.setIfInBounds_toArray, List.set_cons_zero, List.set_cons_succ, i64_w, i32_w]
    rfl
  refine pure_ (i := 15) (N := some 23) (v := ?_) (a' := ?_) #[true, true, true, true, true, true, true, true, true, true, true, true, true, true, true, true, false, false, false, false, false] rfl rfl (by kernel_rfl) (fun _ _ _ h => h) (Or.inl ⟨by rfl, ?_⟩) ?_ ?_
  rotate_left
  · intro w'
    go_simp
    with_reducible rfl
  rotate_left
  · simp only [Act.put, List.setIfInBounds_toArray, List.set_cons_zero, List.set_cons_succ, i64_w, i32_w]
    rfl
  refine pure_ (i := 16) (N := some 39) (v := ?_) (a' := ?_) #[true, true, true, true, true, true, true, true, true, true, true, true, true, true, true, true, true, false, false, false, false] rfl rfl (by kernel_rfl) (fun _ _ _ h => h) (Or.inl ⟨by rfl, ?_⟩) ?_ ?_
  rotate_left
  · intro w'
    go_simp
    with_reducible rfl
  rotate_left
  · simp only [Act.put, List.setIfInBounds_toArray, List.set_cons_zero, List.set_cons_succ, i64_w, i32_w]
    rfl
  refine pure_ (i := 17) (N := some 40) (v := ?_) (a' := ?_) #[true, true, true, true, true, true, true, true, true, true, true, true, true, true, true, true, true, true, false, false, false] rfl rfl (by kernel_rfl) (fun _ _ _ h => h) (Or.inl ⟨by rfl, ?_⟩) ?_ ?_
  rotate_left
  · intro w'
    go_simp
    with_reducible rfl
  rotate_left
  · simp only [Act.put, List.setIfInBounds_toArray, List.set_cons_zero, List.set_cons_succ, i64_w, i32_w]
    rfl
  refine pure_ (i := 18) (N := some 41) (v := ?_) (a' := ?_) #[true, true, true, true, true, true, true, true, true, true, true, true, true, true, true, true, true, true, true, false, false] rfl rfl (by kernel_rfl) (fun _ _ _ h => h) (Or.inl ⟨by rfl, ?_⟩) ?_ ?_
  rotate_left
  · intro w'
    go_simp
    with_reducible rfl
  rotate_left
  · simp only [Act.put, List.setIfInBounds_toArray, List.set_cons_zero, List.set_cons_succ, i64_w, i32_w]
    rfl
  refine last_ (i := 19) (N := none) #[true, true, true, true, true, true, true, true, true, true, true, true, true, true, true, true, true, true, true, true, false] rfl rfl (by kernel_rfl) (by decide) (fun K hK => ?_)
  refine skip_ (w1 := ?_) (by rfl) rfl ?_ ?_
  rotate_left
  · go_simp
    rfl
  refine hK.out _ _ ?_
  clear hK K
  refine pure_ (i := 20) (N := some 11) (v := ?_) (a' := ?_) #[true, true, true, true, true, true, true, true, true, true, true, true, true, true, true, true, true, true, true, true, true] rfl rfl (by kernel_rfl) (fun _ _ _ h => h) (Or.inl ⟨by rfl, ?_⟩) ?_ ?_
  rotate_left
  · intro w'
    go_simp
    with_reducible rfl
  rotate_left
  · simp only [Act.put, List.setIfInBounds_toArray, List.set_cons_zero, List.set_cons_succ, i64_w, i32_w]
    rfl
  refine done_ (by kernel_rfl) ?_
  clear hr1 hL1 hT1 hb1 hR1 hr hb HL0 HT0 HS0 HB0 HR0 HZ0 x0 x1 x2 x3 x4 x5 x6 x7
  go_wp2_with fail
  refine start_ (n := 6) (S := fun w' => w'.cell? ⟨w.heap.size, 0, none⟩ = some (.int .i64 a.l) ∧ w'.cell? ⟨w.heap.size, 1, none⟩ = some (.int .i64 a.r) ∧ w'.cell? ⟨w.heap.size, 2, none⟩ = some (.int .i64 a.e) ∧ w'.cell? ⟨w.heap.size, 3, none⟩ = some (.int .i64 a.n) ∧ w'.cell? ⟨w.heap.size, 4, none⟩ = some (.int .i64 a.p) ∧ w'.cell? ⟨w.heap.size, 5, none⟩ = some (.int .i64 a.d) ∧ w'.cell? ⟨w.heap.size, 6, none⟩ = some (.int .i64 l') ∧ w'.cell? ⟨w.heap.size, 7, none⟩ = some (.int .i64 r') ∧ w'.cell? ⟨w.heap.size, 8, none⟩ = some (.int .i64 e') ∧ w'.cell? ⟨w.heap.size, 9, none⟩ = some (.int .i64 n') ∧ w'.cell? ⟨w.heap.size, 10, none⟩ = some (.int .i64 p') ∧ w'.cell? ⟨w.heap.size, 11, none⟩ = some (.int .i64 d')) (ds := [4]) #[false, false, false, false, false, false] (by kernel_rfl) rfl rfl ⟨(LL.out.drew.cell 0), (LL.out.drew.cell 1), (LL.out.drew.cell 2), (LL.out.drew.cell 3), (LL.out.drew.cell 4), (LL.out.drew.cell 5), (LL.out.drew.cell 6), (LL.out.drew.cell 7), (LL.out.drew.cell 8), (LL.out.drew.cell 9), (LL.out.drew.cell 10), (LL.out.drew.cell 11)⟩ (fun hHeld => ?_)
  refine pure_ (i := 1) (N := some 83) (v := ?_) (a' := ?_) #[false, true, false, false, false, false] rfl rfl (by kernel_rfl) (fun _ _ _ h => h) (Or.inl ⟨by rfl, ?_⟩) ?_ ?_
  rotate_left
  · intro w'
    go_simp
    with_reducible rfl
  rotate_left
  · simp only [Act.put, List.setIfInBounds_toArray, List.set_cons_zero, List.set_cons_succ, i64_w, i32_w]
    rfl
  refine pure_ (i := 2) (N := some 84) (v := ?_) (a' := ?_) #[false, true, true, false, false, false] rfl rfl (by kernel_rfl) (fun _ _ _ h => h) (Or.inl ⟨by rfl, ?_⟩) ?_ ?_
  rotate_left
  · intro w'
    go_simp
    with_reducible rfl
  rotate_left
  · simp only [Act.put, List.setIfInBounds_toArray, List.set_cons_zero, List.set_cons_succ, i64_w, i32_w]
    rfl
  refine take_ (i := 0) (N := some 82) (v := ?_) (a' := ?_) #[true, true, true, false, false, false] rfl rfl (by kernel_rfl) (fun _ _ _ h => h) (Or.inl ⟨by rfl, ?_⟩) hHeld ?_ ?_
  rotate_left
  · rintro w' ⟨s0, s1, s2, s3, s4, s5, s6, s7, s8, s9, s10, s11⟩
    go_simp
    with_reducible rfl
  rotate_left
  · simp only [Act.put, List.setIfInBounds_toArray, List.set_cons_zero, List.set_cons_succ, i64_w, i32_w]
    rfl
  refine one_ (i := 3) (N := some 85) #[true, true, true, true, false, false] rfl rfl (by kernel_rfl) (by decide) (fun K hK => ?_)
  refine step_append_row2 rfl (.tmp 83) (.tmp 84) (by rfl) base (w.heap.size + 3) (.slice (some ⟨g, 0, none⟩) sent.length cap) m sent ms' (by rfl) (by rfl) (RV.out.drew) (RM.out.drew) hlen (Nat.le_trans hbase (b_drew BB.out).size) ?_
  intro v2 w2 hrow2 hgrow hor
  have hB2 := (LL.out.drew).grown hgrow (fun e => by have := HV.out _ e.symm; omega)
  have hT2 := (TT.out.drew).grown hgrow (fun e => by have := HV.out _ e.symm; omega)
  have G1 := Lib.hid (g_far12 (g := w.heap.size + 2) (a' := (.int .i64 a.l)) (b' := (.int .i64 a.r)) (c' := (.int .i64 a.e)) (d' := (.int .i64 a.n)) (e' := (.int .i64 a.p)) (f' := (.int .i64 a.d)) (m' := (.int .i64 l')) (n' := (.int .i64 r')) (o' := (.int .i64 e')) (p' := (.int .i64 n')) (q' := (.int .i64 p')) (r' := (.int .i64 d')) (g_trans' (g_drew (g_below BB.out)) hgrow) (by omega))
  have R1 := Lib.hid (hrow2.apart12 (g := w.heap.size + 2) (a' := (.int .i64 a.l)) (b' := (.int .i64 a.r)) (c' := (.int .i64 a.e)) (d' := (.int .i64 a.n)) (e' := (.int .i64 a.p)) (f' := (.int .i64 a.d)) (m' := (.int .i64 l')) (n' := (.int .i64 r')) (o' := (.int .i64 e')) (p' := (.int .i64 n')) (q' := (.int .i64 p')) (r' := (.int .i64 d')) (fun k hk => (hor k hk).elim (fun h1 => by have h4 := HV.out k h1; omega) (fun h1 => by have h3 := HSZ.out; simp at h1; omega)))
  have T1 := Lib.hid (hT2.store12 (a' := (.int .i64 a.l)) (b' := (.int .i64 a.r)) (c' := (.int .i64 a.e)) (d' := (.int .i64 a.n)) (e' := (.int .i64 a.p)) (f' := (.int .i64 a.d)) (m' := (.int .i64 l')) (n' := (.int .i64 r')) (o' := (.int .i64 e')) (p' := (.int .i64 n')) (q' := (.int .i64 p')) (r' := (.int .i64 d')))
  obtain ⟨y0, y1, y2, y3, y4, y5, y6, y7, y8, y9, y10, y11, z0, z1, z2, z3, z4, z5, z6, z7, z8, z9, z10, z11⟩ := hT2.twelve
  clear hT2 hrow2 hgrow hor
  refine hK.out _ _ ⟨(hB2.cell 0), (hB2.cell 1), (hB2.cell 2), (hB2.cell 3), (hB2.cell 4), (hB2.cell 5), (hB2.cell 6), (hB2.cell 7), (hB2.cell 8), (hB2.cell 9), (hB2.cell 10), (hB2.cell 11)⟩ (fun hHeld => ?_)
  clear hK K
  refine norm_ (a' := ?_) ?_ ?_
  rotate_left
  · show Act.put _ (some 85) _ = _
    simp only [Act.put, List.setIfInBounds_toArray, List.set_cons_zero, List.set_cons_succ, i64_w, i32_w]
    rfl
  refine last_ (i := 4) (N := none) #[true, true, true, true, true, false] rfl rfl (by kernel_rfl) (by decide) (fun K hK => ?_)
  refine skip_ (w1 := ?_) (by rfl) rfl ?_ ?_
  rotate_left
  · go_simp
    rfl
  refine hK.out _ _ ?_
  clear hK K
  refine pure_ (i := 5) (N := some 9) (v := ?_) (a' := ?_) #[true, true, true, true, true, true] rfl rfl (by kernel_rfl) (fun _ _ _ h => h) (Or.inl ⟨by rfl, ?_⟩) ?_ ?_
  rotate_left
  · intro w'
    go_simp
    with_reducible rfl
  rotate_left
  · simp only [Act.put, List.setIfInBounds_toArray, List.set_cons_zero, List.set_cons_succ, i64_w, i32_w]
    rfl
  refine done_ (by kernel_rfl) ?_
  go_wp2_with fail
  exact bodyPost_ret (results_ct rfl _ _ (w.heap.size + 2) 29 #[(.int .i64 a.l), (.int .i64 a.r), (.int .i64 a.e), (.int .i64 a.n), (.int .i64 a.p), (.int .i64 a.d), (.int .i64 l'), (.int .i64 r'), (.int .i64 e'), (.int .i64 n'), (.int .i64 p'), (.int .i64 d')] _ rfl T1.out Try.underlying29 rfl (by kernel_rfl)) rfl ⟨v2, rfl, R1.out, G1.out⟩
/-- What an end does at a step: the end behind it, and what it sends. -/
def actF (s : Ses) (sent : List Msg) (k q now : Int) : Ses × List Msg :=
  if k % 7 = 0 then (if (dialF s now 3).2.2 = 0 then ((dialF s now 3).1, (dialF s now 3).2.1) else (s, []))
  else if k % 7 = 5 then expireF s now 3 else if k % 7 = 6 then closeF s
  else match sent[((wrap64 q).tmod (sent.length : Int)).toNat]? with | some m => recvF s m | none => (s, [])
/-- What step returns. -/
def stepF (a b : Ses) (sent : List Msg) (k : Int) (o : Bool) (q now : Int) : Ses × Ses × List Msg :=
  if o then (a, (actF b sent k q now).1, sent ++ (actF b sent k q now).2) else ((actF a sent k q now).1, b, sent ++ (actF a sent k q now).2)
theorem act_short (s : Ses) (sent : List Msg) (k q now : Int) : (actF s sent k q now).2.length ≤ 1 := by
  have h1 : (dialF s now 3).2.1.length ≤ 1 := by
    unfold dialF
    repeat' split
    all_goals simp
  have h2 : (expireF s now 3).2.length ≤ 1 := by
    unfold expireF
    repeat' split
    all_goals simp
  have h3 : (closeF s).2.length ≤ 1 := by
    unfold closeF
    repeat' split
    all_goals simp
  unfold actF
  split
  · split
    · exact h1
    · simp
  · split
    · exact h2
    · split
      · exact h3
      · split
        · exact recv_short _ _
        · simp
theorem dialled_cut {fn : Nat} {args : Array Value} {w : World} {t : Ses} {ms : List Msg} {c : Int} (h : Calls Try.prog fn args w (Dialled t ms c w)) (hc : c = 0) : Calls Try.prog fn args w (Dialled t ms 0 w) := by
  subst hc
  exact h
theorem step_any (a b : Ses) (base : Nat) (v : Value) (sent : List Msg) (k : Int) (o : Bool) (q now : Int) (hk0 : 0 ≤ k) (hk1 : k ≤ 255) (hq0 : 0 ≤ q) (hq1 : q ≤ 255) (w : World) (hv : Row w base v sent) (hbase : base ≤ w.heap.size)
    (hlen : sent.length ≤ 1000) (hm : ∀ m ∈ sent, 5 ≤ m.k ∧ m.k ≤ 7) :
    Calls Try.prog 12 #[A12 a b, v, .agg #[.int .u8 k, .bool o, .int .u8 q], .int .i64 now] w (Stepped base v (stepF a b sent k o q now).1 (stepF a b sent k o q now).2.1 (stepF a b sent k o q now).2.2 w) := by
  have hq : wrap64 q = q := by unfold wrap64; omega
  unfold stepF
  cases o with
  | false =>
    have hs := act_short a sent k q now
    simp only [Bool.false_eq_true, if_true, if_false]
    revert hs
    unfold actF
    by_cases h0 : k % 7 = 0
    · rw [if_pos h0]
      by_cases hd : (dialF a now 3).2.2 = 0
      · rw [if_pos hd]
        intro hs
        exact step_dial_f a b base v sent _ k q now hk0 hk1 _ (by simpa using h0) (Lib.hid fun w => dialled_cut (dial_any a now 3 w) hd) w hv hbase (by have h9 : (dialF a now 3).2.1.length ≤ 1 := hs; omega)
      · rw [if_neg hd]
        intro hs
        exact step_ndial_f a b base v sent [] k q now hk0 hk1 _ _ (by simpa using hd) rfl _ (by simpa using h0) (Lib.hid fun w => dial_any a now 3 w) w hv hbase (by simp; omega)
    · rw [if_neg h0]
      by_cases h5 : k % 7 = 5
      · rw [if_pos h5]
        intro hs
        exact step_exp_f a b base v sent _ k q now hk0 hk1 _ (by simpa using h5) (by simpa using h0) (Lib.hid fun w => expire_any a now 3 w) w hv hbase (by omega)
      · rw [if_neg h5]
        by_cases h6 : k % 7 = 6
        · rw [if_pos h6]
          intro hs
          exact step_clo_f a b base v sent _ k q now hk0 hk1 _ (by simpa using h6) (by simpa using h0) (by simpa using h5) (Lib.hid fun w => close_any a w) w hv hbase (by omega)
        · rw [if_neg h6]
          rcases hv.open with ⟨e1, e2⟩ | ⟨g, cap, e1, e2, e3, e4, e5⟩
          · subst e2
            intro hs
            exact step_nrecv_f a b base v [] [] rfl k q now hk0 hk1 rfl (by simpa using h0) (by simpa using h5) (by simpa using h6) w hv hbase (by simp)
          · by_cases hn : sent = []
            · subst hn
              intro hs
              exact step_nrecv_f a b base v [] [] rfl k q now hk0 hk1 rfl (by simpa using h0) (by simpa using h5) (by simpa using h6) w hv hbase (by simp)
            · have hpos : 0 < sent.length := List.length_pos_iff.2 hn
              have hj : ((wrap64 q).tmod (sent.length : Int)).toNat < sent.length := by
                rw [hq, Int.tmod_eq_emod_of_nonneg hq0]
                have := Int.emod_lt_of_pos q (b := (sent.length : Int)) (by omega)
                omega
              have hj2 : (wrap64 q).tmod (sent.length : Int) = ((((wrap64 q).tmod (sent.length : Int)).toNat : Nat) : Int) := by
                rw [hq, Int.tmod_eq_emod_of_nonneg hq0]
                have := Int.emod_nonneg q (b := (sent.length : Int)) (by omega)
                omega
              generalize ((wrap64 q).tmod (sent.length : Int)).toNat = j at *
              have hg : sent[j]? = some sent[j] := List.getElem?_eq_getElem hj
              rw [hg]
              intro hs
              have hmj := hm sent[j] (List.getElem_mem hj)
              exact step_recv_f a b base v sent _ k q now hk0 hk1 _ (by simpa using h0) (by simpa using h5) (by simpa using h6) g cap j sent[j] e1 hj hn hj2 hg e4 (Lib.hid fun w => recv_any a sent[j] 0 now none none 0 0 0 0 (by omega) w) w hv hbase (by show _ + _ ≤ _; have : (recvF a sent[j]).2.length ≤ 1 := hs; omega)
  | true =>
    have hs := act_short b sent k q now
    simp only [Bool.false_eq_true, if_true, if_false]
    revert hs
    unfold actF
    by_cases h0 : k % 7 = 0
    · rw [if_pos h0]
      by_cases hd : (dialF b now 3).2.2 = 0
      · rw [if_pos hd]
        intro hs
        exact step_dial_t a b base v sent _ k q now hk0 hk1 _ (by simpa using h0) (Lib.hid fun w => dialled_cut (dial_any b now 3 w) hd) w hv hbase (by have h9 : (dialF b now 3).2.1.length ≤ 1 := hs; omega)
      · rw [if_neg hd]
        intro hs
        exact step_ndial_t a b base v sent [] k q now hk0 hk1 _ _ (by simpa using hd) rfl _ (by simpa using h0) (Lib.hid fun w => dial_any b now 3 w) w hv hbase (by simp; omega)
    · rw [if_neg h0]
      by_cases h5 : k % 7 = 5
      · rw [if_pos h5]
        intro hs
        exact step_exp_t a b base v sent _ k q now hk0 hk1 _ (by simpa using h5) (by simpa using h0) (Lib.hid fun w => expire_any b now 3 w) w hv hbase (by omega)
      · rw [if_neg h5]
        by_cases h6 : k % 7 = 6
        · rw [if_pos h6]
          intro hs
          exact step_clo_t a b base v sent _ k q now hk0 hk1 _ (by simpa using h6) (by simpa using h0) (by simpa using h5) (Lib.hid fun w => close_any b w) w hv hbase (by omega)
        · rw [if_neg h6]
          rcases hv.open with ⟨e1, e2⟩ | ⟨g, cap, e1, e2, e3, e4, e5⟩
          · subst e2
            intro hs
            exact step_nrecv_t a b base v [] [] rfl k q now hk0 hk1 rfl (by simpa using h0) (by simpa using h5) (by simpa using h6) w hv hbase (by simp)
          · by_cases hn : sent = []
            · subst hn
              intro hs
              exact step_nrecv_t a b base v [] [] rfl k q now hk0 hk1 rfl (by simpa using h0) (by simpa using h5) (by simpa using h6) w hv hbase (by simp)
            · have hpos : 0 < sent.length := List.length_pos_iff.2 hn
              have hj : ((wrap64 q).tmod (sent.length : Int)).toNat < sent.length := by
                rw [hq, Int.tmod_eq_emod_of_nonneg hq0]
                have := Int.emod_lt_of_pos q (b := (sent.length : Int)) (by omega)
                omega
              have hj2 : (wrap64 q).tmod (sent.length : Int) = ((((wrap64 q).tmod (sent.length : Int)).toNat : Nat) : Int) := by
                rw [hq, Int.tmod_eq_emod_of_nonneg hq0]
                have := Int.emod_nonneg q (b := (sent.length : Int)) (by omega)
                omega
              generalize ((wrap64 q).tmod (sent.length : Int)).toNat = j at *
              have hg : sent[j]? = some sent[j] := List.getElem?_eq_getElem hj
              rw [hg]
              intro hs
              have hmj := hm sent[j] (List.getElem_mem hj)
              exact step_recv_t a b base v sent _ k q now hk0 hk1 _ (by simpa using h0) (by simpa using h5) (by simpa using h6) g cap j sent[j] e1 hj hn hj2 hg e4 (Lib.hid fun w => recv_any b sent[j] 0 now none none 0 0 0 0 (by omega) w) w hv hbase (by show _ + _ ≤ _; have : (recvF b sent[j]).2.length ≤ 1 := hs; omega)
end Go.Proofs.Ytemljffppdjmgaa
