/- SessionGrows returns true for all starts and steps. -/
import Derived.Test.YtemljffppdjmgaaJ
namespace Go.Proofs.Ytemljffppdjmgaa
open Go.RowKit Go.Proofs.YtemljffppdjmgaaW.PrintLast
set_option linter.unusedVariables false
set_option linter.unusedSimpArgs false
/-- What is remembered of an end: the number with which it became open last. -/
def opn (s t : Ses) (o : Int) : Int := if t.p = 2 ∧ (s.p ≠ 2 ∨ t.n ≠ s.n) then t.n else o
/-- What holds of it. -/
def GInv (s : Ses) (o : Int) : Prop := o ≤ s.n ∧ (s.p = 1 → o < s.n)
theorem grow_open {s t : Ses} {ms : List Msg} {o : Int} (h : Kept s t ms) (g : GInv s o) (h1 : t.p = 2) (h2 : s.p ≠ 2 ∨ t.n ≠ s.n) : o < t.n := by
  rcases h.open' h1 h2 with q | ⟨q1, q2⟩
  · have := g.1
    omega
  · have := g.2 q1
    omega
theorem grow_next {s t : Ses} {ms : List Msg} {o : Int} (h : Kept s t ms) (g : GInv s o) : GInv t (opn s t o) := by
  unfold opn
  split
  · rename_i q
    exact ⟨Int.le_refl _, fun q1 => by have := q.1; omega⟩
  · refine ⟨by have := g.1; have := h.n; omega, fun q1 => ?_⟩
    rcases h.opening q1 with q | ⟨q2, q3⟩
    · have := g.1
      omega
    · have := g.2 q2
      omega
theorem step_keptA {a b : Ses} {sent : List Msg} {i : Nat} (h : Inv a b sent i) (k : Int) (o : Bool) (q now : Int) : ∃ ms, Kept a (stepF a b sent k o q now).1 ms := by
  unfold stepF
  cases o with
  | false => exact ⟨_, act_kept h.oka sent k q now⟩
  | true => exact ⟨_, Kept.same h.oka⟩
theorem step_keptB {a b : Ses} {sent : List Msg} {i : Nat} (h : Inv a b sent i) (k : Int) (o : Bool) (q now : Int) : ∃ ms, Kept b (stepF a b sent k o q now).2.1 ms := by
  unfold stepF
  cases o with
  | false => exact ⟨_, Kept.same h.okb⟩
  | true => exact ⟨_, act_kept h.okb sent k q now⟩
theorem ginv_start {s : Ses} (h : Ok s) : GInv s (-1) := ⟨by have := h.n0; omega, fun _ => by have := h.n0; omega⟩
set_option maxRecDepth 20000 in
set_option maxHeartbeats 16000000 in
theorem grows_any (e0 e1 n0 n1 : Int) (a0 : 0 ≤ e0) (a1 : e0 ≤ 255) (b0 : 0 ≤ e1) (b1 : e1 ≤ 255) (c0 : 0 ≤ n0) (c1 : n0 ≤ 255) (d0 : 0 ≤ n1) (d1 : n1 ≤ 255)
    (A : Option Addr) (len cap : Nat) (K : Nat → Int) (O : Nat → Bool) (Q : Nat → Int) (w : World) (hA : 0 < len → ∃ b off, A = some ⟨b, off, none⟩ ∧ StepAt w b off len K O Q) :
    Calls Try.prog 8 #[.agg #[.int .u8 e0, .int .u8 e1, .int .u8 n0, .int .u8 n1], .slice A len cap] w fun e w' => e = .returned (.bool true) ∧ Below w.heap.size w w' := by
  by_cases h60 : (60 : Int) < len
  · clear hA
    go_enter Try.func8, Try.ntmps8
    go_wp2_with fail
    refine (awake_any _).mono ?_
    rintro e w1 ⟨rfl, h1⟩
    go_wp2_with fail
    go_ret
    exact ⟨rfl, b_step (b_alloc (Below.refl _ _) _) h1⟩
  have h60' : (len : Int) ≤ 60 := by omega
  have HE := Lib.hid (fun w => ends_any e0 e1 n0 n1 a0 a1 b0 b1 c0 c1 d0 d1 w)
  have HI := Lib.hid (fun i => run_inv (Inv.start e0 e1 n0 n1) K O Q i)
  have HG0 := Lib.hid (And.intro (ginv_start (ok_A e0 n0)) (ginv_start (ok_B e1 n1)))
  have HA := Lib.hid hA
  clear hA h60 a0 a1 b0 b1 c0 c1 d0 d1
  generalize hea : endA e0 n0 = ea at HE HI HG0
  generalize heb : endB e1 n1 = eb at HE HI HG0
  clear hea heb
  go_enter Try.func8, Try.ntmps8
  go_wp2_with fail
  refine (HE.out _).mono ?_
  rintro e w1 ⟨rfl, h1⟩
  have hb1 := b_step (b_alloc (Below.refl w.heap.size w) (.cells #[.int .u8 e0, .int .u8 e1, .int .u8 n0, .int .u8 n1] 24)) h1
  have lb1 := hb1.size
  clear h1 HE
  have LB : Hid (w.heap.size ≤ w1.heap.size) := Lib.hid lb1
  have B0 := (Blk.new w1 (c12 ea eb) 29).alloc (.cells #[.int .i64 (-1), .int .i64 (-1)] 66)
  have P0 := Blk.new (w1.alloc (.cells (c12 ea eb) 29)) #[.int .i64 (-1), .int .i64 (-1)] 66
  rw [World.size_alloc] at P0
  have hb2 := b_alloc (b_alloc hb1 (.cells (c12 ea eb) 29)) (.cells #[.int .i64 (-1), .int .i64 (-1)] 66)
  go_wp2_with fail
  go_loopg [7, 9] len (fun n vv i wr => ∃ (k : Nat) (o0 o1 : Int), k + n = len ∧ i = .int .i64 k ∧ Blk wr w1.heap.size (c12 (runF ea eb K O Q k).1 (runF ea eb K O Q k).2.1) 29 ∧ Blk wr (w1.heap.size + 1) #[.int .i64 o0, .int .i64 o1] 66 ∧ Row wr (w1.heap.size + 2) vv (runF ea eb K O Q k).2.2 ∧ GInv (runF ea eb K O Q k).1 o0 ∧ GInv (runF ea eb K O Q k).2.1 o1 ∧ Below w.heap.size w wr)
  case atStart => exact ⟨0, -1, -1, by omega, rfl, B0, P0, row_nil _ _, HG0.out.1, HG0.out.2, hb2⟩
  case round =>
    obtain ⟨k, o0, o1, hk, rfl, hL, hP, hrow, hg0, hg1, hb⟩ := hrel
    generalize hrun : runF ea eb K O Q k = R at hL hrow hg0 hg1
    obtain ⟨⟨l, r, e, n', p, d⟩, ⟨l2, r2, e2, n2, p2, d2⟩, sent⟩ := R
    have HRUN := Lib.hid hrun
    clear hrun B0 P0 hb2 hb1
    dsimp only at hL hrow hg0 hg1
    by_cases hlt : k < len
    · obtain ⟨bs, off, rfl, hst⟩ := HA.out (by omega)
      have hinv := HI.out k
      rw [HRUN.out] at hinv
      dsimp only at hinv
      obtain ⟨x0, x1, x2, k0, k1, q0, q1⟩ := (hst.below hb) k hlt
      have hbs : bs < w.heap.size := hst.lt hlt
      clear hst
      have HC := Lib.hid (fun W (hw : Row W (w1.heap.size + 2) u7 sent) (hz : w1.heap.size + 2 ≤ W.heap.size) => step_any ⟨l, r, e, n', p, d⟩ ⟨l2, r2, e2, n2, p2, d2⟩ (w1.heap.size + 2) u7 sent (K k) (O k) (Q k) k k0 k1 q0 q1 W hw hz (by have := hinv.len; omega) hinv.kinds)
      have HST : Hid (runF ea eb K O Q (k + 1) = stepF ⟨l, r, e, n', p, d⟩ ⟨l2, r2, e2, n2, p2, d2⟩ sent (K k) (O k) (Q k) k) := by
        show stepF (runF ea eb K O Q k).1 _ _ _ _ _ _ = _
        rw [HRUN.out]
      obtain ⟨msA, hkA⟩ := step_keptA hinv (K k) (O k) (Q k) k
      obtain ⟨msB, hkB⟩ := step_keptB hinv (K k) (O k) (Q k) k
      have HKA := Lib.hid hkA
      have HKB := Lib.hid hkB
      have HGA := Lib.hid hg0
      have HGB := Lib.hid hg1
      clear hinv k0 k1 q0 q1 hkA hkB hg0 hg1
      generalize K k = kk at *
      generalize O k = oo at *
      generalize Q k = qq at *
      generalize stepF ⟨l, r, e, n', p, d⟩ ⟨l2, r2, e2, n2, p2, d2⟩ sent kk oo qq k = R2 at HC HST HKA HKB
      obtain ⟨⟨lx, rx, ex, nx, px, dx⟩, ⟨ly, ry, ey, ny, py, dy⟩, sent2⟩ := R2
      dsimp only at HC HKA HKB
      have HVB := Lib.hid (fun j hj => (hrow.block j hj).1)
      have HVC := Lib.hid (fun j hj => (hrow.block j hj).2)
      have lL := hL.lt
      have lP := hP.lt
      have c0k : (0 : Int) ≤ (k : Int) := by omega
      have c1k : (k : Int) < (len : Int) := by omega
      have hwk : IntKind.i64.wrap (k : Int) = k := IntWalk.i64_in _ ⟨by omega, by omega⟩
      obtain ⟨y0, y1, y2, y3, y4, y5, y6, y7, y8, y9, y10, y11, z0, z1, z2, z3, z4, z5, z6, z7, z8, z9, z10, z11⟩ := hL.twelve
      have x0 := cell_below x0 (b_alloc (Below.refl wr.heap.size wr) (.cells (c12 ⟨l, r, e, n', p, d⟩ ⟨l2, r2, e2, n2, p2, d2⟩) 29))
      have x1 := cell_below x1 (b_alloc (Below.refl wr.heap.size wr) (.cells (c12 ⟨l, r, e, n', p, d⟩ ⟨l2, r2, e2, n2, p2, d2⟩) 29))
      have x2 := cell_below x2 (b_alloc (Below.refl wr.heap.size wr) (.cells (c12 ⟨l, r, e, n', p, d⟩ ⟨l2, r2, e2, n2, p2, d2⟩) 29))
      have HLL := hL.alloc (.cells (c12 ⟨l, r, e, n', p, d⟩ ⟨l2, r2, e2, n2, p2, d2⟩) 29)
      have HPP := hP.alloc (.cells (c12 ⟨l, r, e, n', p, d⟩ ⟨l2, r2, e2, n2, p2, d2⟩) 29)
      have HFF := Blk.new wr (c12 ⟨l, r, e, n', p, d⟩ ⟨l2, r2, e2, n2, p2, d2⟩) 29
      have HRR := hrow.below (b_alloc (Below.refl wr.heap.size wr) (.cells (c12 ⟨l, r, e, n', p, d⟩ ⟨l2, r2, e2, n2, p2, d2⟩) 29))
      have HBB := b_alloc hb (.cells (c12 ⟨l, r, e, n', p, d⟩ ⟨l2, r2, e2, n2, p2, d2⟩) 29)
      have hfz : w1.heap.size + 2 ≤ wr.heap.size := by omega
      clear hL hP hrow hb
      go_upto_region 12 with fail
      clear y0 y1 y2 y3 y4 y5 y6 y7 y8 y9 y10 y11 z0 z1 z2 z3 z4 z5 z6 z7 z8 z9 z10 z11
      have lW := HFF.lt
      generalize hbf : wr.heap.size = bf at *
      generalize (wr.alloc (.cells (c12 ⟨l, r, e, n', p, d⟩ ⟨l2, r2, e2, n2, p2, d2⟩) 29)) = wq at *
      have HBF := Lib.hid hbf
      have HLL := Lib.hid HLL
      have HPP := Lib.hid HPP
      have HFF := Lib.hid HFF
      have HRR := Lib.hid HRR
      have HBB := Lib.hid HBB
      clear hbf
      have lL2 : w1.heap.size + 2 ≤ wq.drew.heap.size := by show _ ≤ wq.heap.size; omega
      refine start_ (n := 13) (S := fun w' => w'.cell? ⟨w1.heap.size, 0, none⟩ = some (.int .i64 l) ∧ w'.cell? ⟨w1.heap.size, 1, none⟩ = some (.int .i64 r) ∧ w'.cell? ⟨w1.heap.size, 2, none⟩ = some (.int .i64 e) ∧ w'.cell? ⟨w1.heap.size, 3, none⟩ = some (.int .i64 n') ∧ w'.cell? ⟨w1.heap.size, 4, none⟩ = some (.int .i64 p) ∧ w'.cell? ⟨w1.heap.size, 5, none⟩ = some (.int .i64 d) ∧ w'.cell? ⟨w1.heap.size, 6, none⟩ = some (.int .i64 l2) ∧ w'.cell? ⟨w1.heap.size, 7, none⟩ = some (.int .i64 r2) ∧ w'.cell? ⟨w1.heap.size, 8, none⟩ = some (.int .i64 e2) ∧ w'.cell? ⟨w1.heap.size, 9, none⟩ = some (.int .i64 n2) ∧ w'.cell? ⟨w1.heap.size, 10, none⟩ = some (.int .i64 p2) ∧ w'.cell? ⟨w1.heap.size, 11, none⟩ = some (.int .i64 d2) ∧ w'.cell? ⟨bs, off + k * 3, none⟩ = some (.int .u8 kk) ∧ w'.cell? ⟨bs, off + k * 3 + 1, none⟩ = some (.bool oo) ∧ w'.cell? ⟨bs, off + k * 3 + 2, none⟩ = some (.int .u8 qq)) (ds := [11]) #[false, false, false, false, false, false, false, false, false, false, false, false, false] (by kernel_rfl) rfl rfl ⟨(HLL.out.drew.cell 0), (HLL.out.drew.cell 1), (HLL.out.drew.cell 2), (HLL.out.drew.cell 3), (HLL.out.drew.cell 4), (HLL.out.drew.cell 5), (HLL.out.drew.cell 6), (HLL.out.drew.cell 7), (HLL.out.drew.cell 8), (HLL.out.drew.cell 9), (HLL.out.drew.cell 10), (HLL.out.drew.cell 11), x0, x1, x2⟩ (fun hHeld => ?_)
      refine pure_ (i := 1) (N := some 33) (v := ?_) (a' := ?_) #[false, true, false, false, false, false, false, false, false, false, false, false, false] rfl rfl (by kernel_rfl) (fun _ _ _ h => h) (Or.inl ⟨by rfl, ?_⟩) ?_ ?_
      rotate_left
      · intro w'
        go_simp
        with_reducible rfl
      rotate_left
      · simp only [Act.put, List.setIfInBounds_toArray, List.set_cons_zero, List.set_cons_succ, i64_w, i32_w]
        rfl
      refine pure_ (i := 2) (N := some 34) (v := ?_) (a' := ?_) #[false, true, true, false, false, false, false, false, false, false, false, false, false] rfl rfl (by kernel_rfl) (fun _ _ _ h => h) (Or.inl ⟨by rfl, ?_⟩) ?_ ?_
      rotate_left
      · intro w'
        go_simp
        with_reducible rfl
      rotate_left
      · simp only [Act.put, List.setIfInBounds_toArray, List.set_cons_zero, List.set_cons_succ, i64_w, i32_w]
        rfl
      refine pure_ (i := 3) (N := some 35) (v := ?_) (a' := ?_) #[false, true, true, true, false, false, false, false, false, false, false, false, false] rfl rfl (by kernel_rfl) (fun _ _ _ h => h) (Or.inl ⟨by rfl, ?_⟩) ?_ ?_
      rotate_left
      · intro w'
        go_simp
        with_reducible rfl
      rotate_left
      · simp only [Act.put, List.setIfInBounds_toArray, List.set_cons_zero, List.set_cons_succ, i64_w, i32_w]
        rfl
      refine pure_ (i := 4) (N := some 36) (v := ?_) (a' := ?_) #[false, true, true, true, true, false, false, false, false, false, false, false, false] rfl rfl (by kernel_rfl) (fun _ _ _ h => h) (Or.inl ⟨by rfl, ?_⟩) ?_ ?_
      rotate_left
      · intro w'
        go_simp
        with_reducible rfl
      rotate_left
      · simp only [Act.put, List.setIfInBounds_toArray, List.set_cons_zero, List.set_cons_succ, i64_w, i32_w]
        rfl
      refine pure_ (i := 6) (N := some 38) (v := ?_) (a' := ?_) #[false, true, true, true, true, false, true, false, false, false, false, false, false] rfl rfl (by kernel_rfl) (fun _ _ _ h => h) (Or.inl ⟨by rfl, ?_⟩) ?_ ?_
      rotate_left
      · intro w'
        go_simp
        with_reducible rfl
      rotate_left
      · simp only [Act.put, List.setIfInBounds_toArray, List.set_cons_zero, List.set_cons_succ, i64_w, i32_w]
        rfl
      refine take_ (i := 0) (N := some 32) (v := ?_) (a' := ?_) #[true, true, true, true, true, false, true, false, false, false, false, false, false] rfl rfl (by kernel_rfl) (fun _ _ _ h => h) (Or.inl ⟨by rfl, ?_⟩) hHeld ?_ ?_
      rotate_left
      · rintro w' ⟨s0, s1, s2, s3, s4, s5, s6, s7, s8, s9, s10, s11, s12, s13, s14⟩
        go_simp
        with_reducible rfl
      rotate_left
      · simp only [Act.put, List.setIfInBounds_toArray, List.set_cons_zero, List.set_cons_succ, i64_w, i32_w]
        rfl
      refine take_ (i := 5) (N := some 37) (v := ?_) (a' := ?_) #[true, true, true, true, true, true, true, false, false, false, false, false, false] rfl rfl (by kernel_rfl) (fun _ _ _ h => h) (Or.inl ⟨by rfl, ?_⟩) hHeld ?_ ?_
      rotate_left
      · rintro w' ⟨s0, s1, s2, s3, s4, s5, s6, s7, s8, s9, s10, s11, s12, s13, s14⟩
        go_simp
        with_reducible rfl
      rotate_left
      · simp only [Act.put, List.setIfInBounds_toArray, List.set_cons_zero, List.set_cons_succ, i64_w, i32_w]
        rfl
      refine one_ (i := 7) (N := some 39) #[true, true, true, true, true, true, true, true, false, false, false, false, false] rfl rfl (by kernel_rfl) (by decide) (fun K hK => ?_)
      refine goes_ Try.func12 (by kernel_rfl) rfl #[A12 ⟨l, r, e, n', p, d⟩ ⟨l2, r2, e2, n2, p2, d2⟩, u7, .agg #[.int .u8 kk, .bool oo, .int .u8 qq], .int .i64 (k : Int)] (by rfl) rfl rfl (by simp only [List.map_toArray, List.map_cons, List.map_nil]; rfl) ?_
      with_reducible refine (HC.out _ HRR.out.drew lL2).mono ?_
      rintro e wz ⟨v2, he, hr, hg⟩
      subst he
      refine ⟨_, rfl, ?_⟩
      have hL2 := (HLL.out.drew).grown hg (fun e => by have h1 := HVB.out _ e.symm; have h2 := HVC.out _ e.symm; omega)
      have hP2 := Lib.hid ((HPP.out.drew).grown hg (fun e => by have h1 := HVB.out _ e.symm; have h2 := HVC.out _ e.symm; omega))
      have hF2 := Lib.hid ((HFF.out.drew).grown hg (fun e => by have h1 := HVB.out _ e.symm; have h2 := HVC.out _ e.symm; omega))
      obtain ⟨y0, y1, y2, y3, y4, y5, y6, y7, y8, y9, y10, y11, z0, z1, z2, z3, z4, z5, z6, z7, z8, z9, z10, z11⟩ := hL2.twelve
      refine hK.out _ _ ⟨(hL2.cell 0), (hL2.cell 1), (hL2.cell 2), (hL2.cell 3), (hL2.cell 4), (hL2.cell 5), (hL2.cell 6), (hL2.cell 7), (hL2.cell 8), (hL2.cell 9), (hL2.cell 10), (hL2.cell 11), (hg.cell x0 (fun e => by have := HVB.out _ e.symm; simp at this; omega)), (hg.cell x1 (fun e => by have := HVB.out _ e.symm; simp at this; omega)), (hg.cell x2 (fun e => by have := HVB.out _ e.symm; simp at this; omega))⟩ (fun hHeld => ?_)
      clear hK K
      refine norm_ (a' := ?_) ?_ ?_
      rotate_left
      · show Act.put _ (some 39) _ = _
        simp only [Act.put, List.setIfInBounds_toArray, List.set_cons_zero, List.set_cons_succ, i64_w, i32_w]
        rfl
      refine pure_ (i := 8) (N := some 31) (v := ?_) (a' := ?_) #[true, true, true, true, true, true, true, true, true, false, false, false, false] rfl rfl (by kernel_rfl) (fun _ _ _ h => h) (Or.inl ⟨by rfl, ?_⟩) ?_ ?_
      rotate_left
      · intro w'
        go_simp
        with_reducible rfl
      rotate_left
      · simp only [Act.put, List.setIfInBounds_toArray, List.set_cons_zero, List.set_cons_succ, i64_w, i32_w]
        rfl
      refine pure_ (i := 9) (N := some 40) (v := ?_) (a' := ?_) #[true, true, true, true, true, true, true, true, true, true, false, false, false] rfl rfl (by kernel_rfl) (fun _ _ _ h => h) (Or.inl ⟨by rfl, ?_⟩) ?_ ?_
      rotate_left
      · intro w'
        go_simp
        with_reducible rfl
      rotate_left
      · simp only [Act.put, List.setIfInBounds_toArray, List.set_cons_zero, List.set_cons_succ, i64_w, i32_w]
        rfl
      refine pure_ (i := 10) (N := some 41) (v := ?_) (a' := ?_) #[true, true, true, true, true, true, true, true, true, true, true, false, false] rfl rfl (by kernel_rfl) (fun _ _ _ h => h) (Or.inl ⟨by rfl, ?_⟩) ?_ ?_
      rotate_left
      · intro w'
        go_simp
        with_reducible rfl
      rotate_left
      · simp only [Act.put, List.setIfInBounds_toArray, List.set_cons_zero, List.set_cons_succ, i64_w, i32_w]
        rfl
      refine last_ (i := 11) (N := none) #[true, true, true, true, true, true, true, true, true, true, true, true, false] rfl rfl (by kernel_rfl) (by decide) (fun K hK => ?_)
      refine skip_ (w1 := ?_) (by rfl) rfl ?_ ?_
      rotate_left
      · go_simp
        rfl
      refine hK.out _ _ ?_
      clear hK K
      refine pure_ (i := 12) (N := some 7) (v := ?_) (a' := ?_) #[true, true, true, true, true, true, true, true, true, true, true, true, true] rfl rfl (by kernel_rfl) (fun _ _ _ h => h) (Or.inl ⟨by rfl, ?_⟩) ?_ ?_
      rotate_left
      · intro w'
        go_simp
        with_reducible rfl
      rotate_left
      · simp only [Act.put, List.setIfInBounds_toArray, List.set_cons_zero, List.set_cons_succ, i64_w, i32_w]
        rfl
      refine done_ (by kernel_rfl) ?_
      have hN := hL2.store12 (a' := (.int .i64 lx)) (b' := (.int .i64 rx)) (c' := (.int .i64 ex)) (d' := (.int .i64 nx)) (e' := (.int .i64 px)) (f' := (.int .i64 dx)) (m' := (.int .i64 ly)) (n' := (.int .i64 ry)) (o' := (.int .i64 ey)) (p' := (.int .i64 ny)) (q' := (.int .i64 py)) (r' := (.int .i64 dy))
      have hR := hr.apart12 (g := w1.heap.size) (a' := (.int .i64 lx)) (b' := (.int .i64 rx)) (c' := (.int .i64 ex)) (d' := (.int .i64 nx)) (e' := (.int .i64 px)) (f' := (.int .i64 dx)) (m' := (.int .i64 ly)) (n' := (.int .i64 ry)) (o' := (.int .i64 ey)) (p' := (.int .i64 ny)) (q' := (.int .i64 py)) (r' := (.int .i64 dy)) (fun j hj => by have := (hr.block j hj).1; omega)
      have hB3 := b_12 (g := w1.heap.size) (a' := (.int .i64 lx)) (b' := (.int .i64 rx)) (c' := (.int .i64 ex)) (d' := (.int .i64 nx)) (e' := (.int .i64 px)) (f' := (.int .i64 dx)) (m' := (.int .i64 ly)) (n' := (.int .i64 ry)) (o' := (.int .i64 ey)) (p' := (.int .i64 ny)) (q' := (.int .i64 py)) (r' := (.int .i64 dy)) (b_grown (b_drew HBB.out) hg (fun j hj => by have := HVB.out j hj; have := LB.out; omega)) (by have := LB.out; omega)
      have hP3 := hP2.out.far12 (g2 := w1.heap.size) (a' := (.int .i64 lx)) (b' := (.int .i64 rx)) (c' := (.int .i64 ex)) (d' := (.int .i64 nx)) (e' := (.int .i64 px)) (f' := (.int .i64 dx)) (m' := (.int .i64 ly)) (n' := (.int .i64 ry)) (o' := (.int .i64 ey)) (p' := (.int .i64 ny)) (q' := (.int .i64 py)) (r' := (.int .i64 dy)) (by omega)
      have hF3 := hF2.out.far12 (g2 := w1.heap.size) (a' := (.int .i64 lx)) (b' := (.int .i64 rx)) (c' := (.int .i64 ex)) (d' := (.int .i64 nx)) (e' := (.int .i64 px)) (f' := (.int .i64 dx)) (m' := (.int .i64 ly)) (n' := (.int .i64 ry)) (o' := (.int .i64 ey)) (p' := (.int .i64 ny)) (q' := (.int .i64 py)) (r' := (.int .i64 dy)) (by omega)
      clear hL2 hr hg hP2 hF2 HLL HPP HFF HRR HBB HC y0 y1 y2 y3 y4 y5 y6 y7 y8 y9 y10 y11 z0 z1 z2 z3 z4 z5 z6 z7 z8 z9 z10 z11 x0 x1 x2
      generalize ((((((((((((wz.setCell ⟨w1.heap.size, 0, none⟩ (.int .i64 lx)).setCell ⟨w1.heap.size, 1, none⟩ (.int .i64 rx)).setCell ⟨w1.heap.size, 2, none⟩ (.int .i64 ex)).setCell ⟨w1.heap.size, 3, none⟩ (.int .i64 nx)).setCell ⟨w1.heap.size, 4, none⟩ (.int .i64 px)).setCell ⟨w1.heap.size, 5, none⟩ (.int .i64 dx)).setCell ⟨w1.heap.size, 6, none⟩ (.int .i64 ly)).setCell ⟨w1.heap.size, 7, none⟩ (.int .i64 ry)).setCell ⟨w1.heap.size, 8, none⟩ (.int .i64 ey)).setCell ⟨w1.heap.size, 9, none⟩ (.int .i64 ny)).setCell ⟨w1.heap.size, 10, none⟩ (.int .i64 py)).setCell ⟨w1.heap.size, 11, none⟩ (.int .i64 dy)) = wv at *
      obtain ⟨gko, hgo⟩ : ∃ x, x = gk := ⟨_, rfl⟩
      go_wp2_with fail
      go_loopg [11] 2 (fun n i ws => ∃ (j : Nat) (p0 p1 : Int), j + n = 2 ∧ i = .int .i64 j ∧ Blk ws w1.heap.size (c12 ⟨lx, rx, ex, nx, px, dx⟩ ⟨ly, ry, ey, ny, py, dy⟩) 29 ∧ Blk ws bf (c12 ⟨l, r, e, n', p, d⟩ ⟨l2, r2, e2, n2, p2, d2⟩) 29 ∧ Blk ws (w1.heap.size + 1) #[.int .i64 p0, .int .i64 p1] 66 ∧ Row ws (w1.heap.size + 2) v2 sent2 ∧ Below w.heap.size w ws ∧ p0 = (if j = 0 then o0 else opn ⟨l, r, e, n', p, d⟩ ⟨lx, rx, ex, nx, px, dx⟩ o0) ∧ p1 = (if j ≤ 1 then o1 else opn ⟨l2, r2, e2, n2, p2, d2⟩ ⟨ly, ry, ey, ny, py, dy⟩ o1))
      case atStart => exact ⟨0, o0, o1, by omega, rfl, hN, hF3, hP3, hR, hB3, rfl, rfl⟩
      case round =>
        clear hN hR hB3 hP3 hF3
        obtain ⟨j, p0, p1, hj, rfl, hL, hF, hP, hrow, hb, hp0, hp1⟩ := hrel
        have HO := Lib.hid (And.intro hp0 hp1)
        clear hp0 hp1
        have lLj := hL.lt
        have lFj := hF.lt
        have lPj := hP.lt
        have hbfL : w1.heap.size + 2 ≤ bf := by have := HBF.out; omega
        by_cases hj0 : j = 0
        · obtain rfl : j = 0 := by omega
          have hpp := HO.out
          have hp0 : o0 = p0 := (show p0 = o0 by simpa using hpp.1).symm
          have hp1 : o1 = p1 := (show p1 = o1 by simpa using hpp.2).symm
          subst hp0 hp1
          skip
          clear hpp HO
          have F1 : decide (nx < n') = false := decide_eq_false (by have := HKA.out.n; dsimp only at this; omega)
          have F2 : decide (ex < e) = false := decide_eq_false (by have := HKA.out.e; dsimp only at this; omega)
          have HCK := Lib.hid (fun w => chk_ok HKA.out.ok w)
          have HL := Lib.hid hL
          have HF := Lib.hid hF
          have HP := Lib.hid hP
          have HW := Lib.hid hrow
          have HB := Lib.hid hb
          clear hL hF hP hrow hb
          go_upto_region 16 with fail
          refine start_ (n := 27) (S := fun w' => w'.cell? ⟨w1.heap.size, 0, none⟩ = some (.int .i64 lx) ∧ w'.cell? ⟨w1.heap.size, 1, none⟩ = some (.int .i64 rx) ∧ w'.cell? ⟨w1.heap.size, 2, none⟩ = some (.int .i64 ex) ∧ w'.cell? ⟨w1.heap.size, 3, none⟩ = some (.int .i64 nx) ∧ w'.cell? ⟨w1.heap.size, 4, none⟩ = some (.int .i64 px) ∧ w'.cell? ⟨w1.heap.size, 5, none⟩ = some (.int .i64 dx) ∧ w'.cell? ⟨w1.heap.size, 6, none⟩ = some (.int .i64 ly) ∧ w'.cell? ⟨w1.heap.size, 7, none⟩ = some (.int .i64 ry) ∧ w'.cell? ⟨w1.heap.size, 8, none⟩ = some (.int .i64 ey) ∧ w'.cell? ⟨w1.heap.size, 9, none⟩ = some (.int .i64 ny) ∧ w'.cell? ⟨w1.heap.size, 10, none⟩ = some (.int .i64 py) ∧ w'.cell? ⟨w1.heap.size, 11, none⟩ = some (.int .i64 dy) ∧ w'.cell? ⟨bf, 0, none⟩ = some (.int .i64 l) ∧ w'.cell? ⟨bf, 1, none⟩ = some (.int .i64 r) ∧ w'.cell? ⟨bf, 2, none⟩ = some (.int .i64 e) ∧ w'.cell? ⟨bf, 3, none⟩ = some (.int .i64 n') ∧ w'.cell? ⟨bf, 4, none⟩ = some (.int .i64 p) ∧ w'.cell? ⟨bf, 5, none⟩ = some (.int .i64 d) ∧ w'.cell? ⟨bf, 6, none⟩ = some (.int .i64 l2) ∧ w'.cell? ⟨bf, 7, none⟩ = some (.int .i64 r2) ∧ w'.cell? ⟨bf, 8, none⟩ = some (.int .i64 e2) ∧ w'.cell? ⟨bf, 9, none⟩ = some (.int .i64 n2) ∧ w'.cell? ⟨bf, 10, none⟩ = some (.int .i64 p2) ∧ w'.cell? ⟨bf, 11, none⟩ = some (.int .i64 d2) ∧ w'.cell? ⟨w1.heap.size + 1, 0, none⟩ = some (.int .i64 o0) ∧ w'.cell? ⟨w1.heap.size + 1, 1, none⟩ = some (.int .i64 o1)) (ds := []) #[false, false, false, false, false, false, false, false, false, false, false, false, false, false, false, false, false, false, false, false, false, false, false, false, false, false, false] (by kernel_rfl) rfl rfl ⟨(HL.out.drew.cell 0), (HL.out.drew.cell 1), (HL.out.drew.cell 2), (HL.out.drew.cell 3), (HL.out.drew.cell 4), (HL.out.drew.cell 5), (HL.out.drew.cell 6), (HL.out.drew.cell 7), (HL.out.drew.cell 8), (HL.out.drew.cell 9), (HL.out.drew.cell 10), (HL.out.drew.cell 11), (HF.out.drew.cell 0), (HF.out.drew.cell 1), (HF.out.drew.cell 2), (HF.out.drew.cell 3), (HF.out.drew.cell 4), (HF.out.drew.cell 5), (HF.out.drew.cell 6), (HF.out.drew.cell 7), (HF.out.drew.cell 8), (HF.out.drew.cell 9), (HF.out.drew.cell 10), (HF.out.drew.cell 11), (HP.out.drew.cell 0), (HP.out.drew.cell 1)⟩ (fun hHeld => ?_)
          refine pure_ (i := 0) (N := some 46) (v := ?_) (a' := ?_) #[true, false, false, false, false, false, false, false, false, false, false, false, false, false, false, false, false, false, false, false, false, false, false, false, false, false, false] rfl rfl (by kernel_rfl) (fun _ _ _ h => h) (Or.inl ⟨by rfl, ?_⟩) ?_ ?_
          rotate_left
          · intro w'
            go_simp
            with_reducible rfl
          rotate_left
          · simp only [Act.put, List.setIfInBounds_toArray, List.set_cons_zero, List.set_cons_succ, i64_w, i32_w]
            rfl
          refine pure_ (i := 1) (N := some 47) (v := ?_) (a' := ?_) #[true, true, false, false, false, false, false, false, false, false, false, false, false, false, false, false, false, false, false, false, false, false, false, false, false, false, false] rfl rfl (by kernel_rfl) (fun _ _ _ h => h) (Or.inl ⟨by rfl, ?_⟩) ?_ ?_
          rotate_left
          · intro w'
            go_simp
            with_reducible rfl
          rotate_left
          · simp only [Act.put, List.setIfInBounds_toArray, List.set_cons_zero, List.set_cons_succ, i64_w, i32_w]
            rfl
          refine pure_ (i := 2) (N := some 48) (v := ?_) (a' := ?_) #[true, true, true, false, false, false, false, false, false, false, false, false, false, false, false, false, false, false, false, false, false, false, false, false, false, false, false] rfl rfl (by kernel_rfl) (fun _ _ _ h => h) (Or.inl ⟨by rfl, ?_⟩) ?_ ?_
          rotate_left
          · intro w'
            go_simp
            with_reducible rfl
          rotate_left
          · simp only [Act.put, List.setIfInBounds_toArray, List.set_cons_zero, List.set_cons_succ, i64_w, i32_w]
            rfl
          refine pure_ (i := 4) (N := some 50) (v := ?_) (a' := ?_) #[true, true, true, false, true, false, false, false, false, false, false, false, false, false, false, false, false, false, false, false, false, false, false, false, false, false, false] rfl rfl (by kernel_rfl) (fun _ _ _ h => h) (Or.inl ⟨by rfl, ?_⟩) ?_ ?_
          rotate_left
          · intro w'
            go_simp
            with_reducible rfl
          rotate_left
          · simp only [Act.put, List.setIfInBounds_toArray, List.set_cons_zero, List.set_cons_succ, i64_w, i32_w]
            rfl
          refine pure_ (i := 5) (N := some 51) (v := ?_) (a' := ?_) #[true, true, true, false, true, true, false, false, false, false, false, false, false, false, false, false, false, false, false, false, false, false, false, false, false, false, false] rfl rfl (by kernel_rfl) (fun _ _ _ h => h) (Or.inl ⟨by rfl, ?_⟩) ?_ ?_
          rotate_left
          · intro w'
            go_simp
            with_reducible rfl
          rotate_left
          · simp only [Act.put, List.setIfInBounds_toArray, List.set_cons_zero, List.set_cons_succ, i64_w, i32_w]
            rfl
          refine pure_ (i := 6) (N := some 52) (v := ?_) (a' := ?_) #[true, true, true, false, true, true, true, false, false, false, false, false, false, false, false, false, false, false, false, false, false, false, false, false, false, false, false] rfl rfl (by kernel_rfl) (fun _ _ _ h => h) (Or.inl ⟨by rfl, ?_⟩) ?_ ?_
          rotate_left
          · intro w'
            go_simp
            with_reducible rfl
          rotate_left
          · simp only [Act.put, List.setIfInBounds_toArray, List.set_cons_zero, List.set_cons_succ, i64_w, i32_w]
            rfl
          refine take_ (i := 3) (N := some 49) (v := ?_) (a' := ?_) #[true, true, true, true, true, true, true, false, false, false, false, false, false, false, false, false, false, false, false, false, false, false, false, false, false, false, false] rfl rfl (by kernel_rfl) (fun _ _ _ h => h) (Or.inl ⟨by rfl, ?_⟩) hHeld ?_ ?_
          rotate_left
          · rintro w' ⟨s0, s1, s2, s3, s4, s5, s6, s7, s8, s9, s10, s11, s12, s13, s14, s15, s16, s17, s18, s19, s20, s21, s22, s23, s24, s25⟩
            go_simp
            with_reducible rfl
          rotate_left
          · simp only [Act.put, List.setIfInBounds_toArray, List.set_cons_zero, List.set_cons_succ, i64_w, i32_w]
            rfl
          refine take_ (i := 7) (N := some 53) (v := ?_) (a' := ?_) #[true, true, true, true, true, true, true, true, false, false, false, false, false, false, false, false, false, false, false, false, false, false, false, false, false, false, false] rfl rfl (by kernel_rfl) (fun _ _ _ h => h) (Or.inl ⟨by rfl, ?_⟩) hHeld ?_ ?_
          rotate_left
          · rintro w' ⟨s0, s1, s2, s3, s4, s5, s6, s7, s8, s9, s10, s11, s12, s13, s14, s15, s16, s17, s18, s19, s20, s21, s22, s23, s24, s25⟩
            go_simp
            with_reducible rfl
          rotate_left
          · simp only [Act.put, List.setIfInBounds_toArray, List.set_cons_zero, List.set_cons_succ, i64_w, i32_w]
            rfl
          refine pure_ (i := 8) (N := some 54) (v := ?_) (a' := ?_) #[true, true, true, true, true, true, true, true, true, false, false, false, false, false, false, false, false, false, false, false, false, false, false, false, false, false, false] rfl rfl (by kernel_rfl) (fun _ _ _ h => h) (Or.inl ⟨by rfl, ?_⟩) ?_ ?_
          rotate_left
          · intro w'
            go_simp
            with_reducible rfl
          rotate_left
          · simp only [Act.put, List.setIfInBounds_toArray, List.set_cons_zero, List.set_cons_succ, i64_w, i32_w]
            rfl
          refine pure_ (i := 9) (N := some 55) (v := ?_) (a' := ?_) #[true, true, true, true, true, true, true, true, true, true, false, false, false, false, false, false, false, false, false, false, false, false, false, false, false, false, false] rfl rfl (by kernel_rfl) (fun _ _ _ h => h) (Or.inl ⟨by rfl, ?_⟩) ?_ ?_
          rotate_left
          · intro w'
            go_simp
            with_reducible rfl
          rotate_left
          · simp only [Act.put, List.setIfInBounds_toArray, List.set_cons_zero, List.set_cons_succ, i64_w, i32_w]
            rfl
          refine pure_ (i := 10) (N := some 56) (v := ?_) (a' := ?_) #[true, true, true, true, true, true, true, true, true, true, true, false, false, false, false, false, false, false, false, false, false, false, false, false, false, false, false] rfl rfl (by kernel_rfl) (fun _ _ _ h => h) (Or.inl ⟨by rfl, ?_⟩) ?_ ?_
          rotate_left
          · intro w'
            go_simp
            with_reducible rfl
          rotate_left
          · simp only [Act.put, List.setIfInBounds_toArray, List.set_cons_zero, List.set_cons_succ, i64_w, i32_w]
            rfl
          refine pure_ (i := 11) (N := some 57) (v := ?_) (a' := ?_) #[true, true, true, true, true, true, true, true, true, true, true, true, false, false, false, false, false, false, false, false, false, false, false, false, false, false, false] rfl rfl (by kernel_rfl) (fun _ _ _ h => h) (Or.inl ⟨by rfl, ?_⟩) ?_ ?_
          rotate_left
          · intro w'
            go_simp
            with_reducible rfl
          rotate_left
          · simp only [Act.put, List.setIfInBounds_toArray, List.set_cons_zero, List.set_cons_succ, i64_w, i32_w]
            rfl
          refine pure_ (i := 12) (N := some 58) (v := ?_) (a' := ?_) #[true, true, true, true, true, true, true, true, true, true, true, true, true, false, false, false, false, false, false, false, false, false, false, false, false, false, false] rfl rfl (by kernel_rfl) (fun _ _ _ h => h) (Or.inl ⟨by rfl, ?_⟩) ?_ ?_
          rotate_left
          · intro w'
            go_simp
            with_reducible rfl
          rotate_left
          · simp only [Act.put, List.setIfInBounds_toArray, List.set_cons_zero, List.set_cons_succ, i64_w, i32_w]
            rfl
          refine pure_ (i := 14) (N := some 60) (v := ?_) (a' := ?_) #[true, true, true, true, true, true, true, true, true, true, true, true, true, false, true, false, false, false, false, false, false, false, false, false, false, false, false] rfl rfl (by kernel_rfl) (fun _ _ _ h => h) (Or.inl ⟨by rfl, ?_⟩) ?_ ?_
          rotate_left
          · intro w'
            go_simp
            with_reducible rfl
          rotate_left
          · simp only [Act.put, List.setIfInBounds_toArray, List.set_cons_zero, List.set_cons_succ, i64_w, i32_w]
            rfl
          refine pure_ (i := 15) (N := some 61) (v := ?_) (a' := ?_) #[true, true, true, true, true, true, true, true, true, true, true, true, true, false, true, true, false, false, false, false, false, false, false, false, false, false, false] rfl rfl (by kernel_rfl) (fun _ _ _ h => h) (Or.inl ⟨by rfl, ?_⟩) ?_ ?_
          rotate_left
          · intro w'
            go_simp
            with_reducible rfl
          rotate_left
          · simp only [Act.put, List.setIfInBounds_toArray, List.set_cons_zero, List.set_cons_succ, i64_w, i32_w]
            rfl
          refine pure_ (i := 16) (N := some 62) (v := ?_) (a' := ?_) #[true, true, true, true, true, true, true, true, true, true, true, true, true, false, true, true, true, false, false, false, false, false, false, false, false, false, false] rfl rfl (by kernel_rfl) (fun _ _ _ h => h) (Or.inl ⟨by rfl, ?_⟩) ?_ ?_
          rotate_left
          · intro w'
            go_simp
            with_reducible rfl
          rotate_left
          · simp only [Act.put, List.setIfInBounds_toArray, List.set_cons_zero, List.set_cons_succ, i64_w, i32_w]
            rfl
          refine take_ (i := 13) (N := some 59) (v := ?_) (a' := ?_) #[true, true, true, true, true, true, true, true, true, true, true, true, true, true, true, true, true, false, false, false, false, false, false, false, false, false, false] rfl rfl (by kernel_rfl) (fun _ _ _ h => h) (Or.inl ⟨by rfl, ?_⟩) hHeld ?_ ?_
          rotate_left
          · rintro w' ⟨s0, s1, s2, s3, s4, s5, s6, s7, s8, s9, s10, s11, s12, s13, s14, s15, s16, s17, s18, s19, s20, s21, s22, s23, s24, s25⟩
            go_simp
            with_reducible rfl
          rotate_left
          · simp only [Act.put, List.setIfInBounds_toArray, List.set_cons_zero, List.set_cons_succ, i64_w, i32_w]
            rfl
          refine take_ (i := 17) (N := some 63) (v := ?_) (a' := ?_) #[true, true, true, true, true, true, true, true, true, true, true, true, true, true, true, true, true, true, false, false, false, false, false, false, false, false, false] rfl rfl (by kernel_rfl) (fun _ _ _ h => h) (Or.inl ⟨by rfl, ?_⟩) hHeld ?_ ?_
          rotate_left
          · rintro w' ⟨s0, s1, s2, s3, s4, s5, s6, s7, s8, s9, s10, s11, s12, s13, s14, s15, s16, s17, s18, s19, s20, s21, s22, s23, s24, s25⟩
            go_simp
            with_reducible rfl
          rotate_left
          · simp only [Act.put, List.setIfInBounds_toArray, List.set_cons_zero, List.set_cons_succ, i64_w, i32_w]
            rfl
          refine pure_ (i := 18) (N := some 64) (v := ?_) (a' := ?_) #[true, true, true, true, true, true, true, true, true, true, true, true, true, true, true, true, true, true, true, false, false, false, false, false, false, false, false] rfl rfl (by kernel_rfl) (fun _ _ _ h => h) (Or.inl ⟨by rfl, ?_⟩) ?_ ?_
          rotate_left
          · intro w'
            go_simp
            with_reducible rfl
          rotate_left
          · simp only [Act.put, List.setIfInBounds_toArray, List.set_cons_zero, List.set_cons_succ, i64_w, i32_w]
            rfl
          refine pure_ (i := 19) (N := some 65) (v := ?_) (a' := ?_) #[true, true, true, true, true, true, true, true, true, true, true, true, true, true, true, true, true, true, true, true, false, false, false, false, false, false, false] rfl rfl (by kernel_rfl) (fun _ _ _ h => h) (Or.inl ⟨by rfl, ?_⟩) ?_ ?_
          rotate_left
          · intro w'
            go_simp
            with_reducible rfl
          rotate_left
          · simp only [Act.put, List.setIfInBounds_toArray, List.set_cons_zero, List.set_cons_succ, i64_w, i32_w]
            rfl
          refine pure_ (i := 20) (N := some 66) (v := ?_) (a' := ?_) #[true, true, true, true, true, true, true, true, true, true, true, true, true, true, true, true, true, true, true, true, true, false, false, false, false, false, false] rfl rfl (by kernel_rfl) (fun _ _ _ h => h) (Or.inl ⟨by rfl, ?_⟩) ?_ ?_
          rotate_left
          · intro w'
            go_simp
            with_reducible rfl
          rotate_left
          · simp only [Act.put, List.setIfInBounds_toArray, List.set_cons_zero, List.set_cons_succ, i64_w, i32_w]
            rfl
          refine pure_ (i := 21) (N := some 67) (v := ?_) (a' := ?_) #[true, true, true, true, true, true, true, true, true, true, true, true, true, true, true, true, true, true, true, true, true, true, false, false, false, false, false] rfl rfl (by kernel_rfl) (fun _ _ _ h => h) (Or.inl ⟨by rfl, ?_⟩) ?_ ?_
          rotate_left
          · intro w'
            go_simp
            with_reducible rfl
          rotate_left
          · simp only [Act.put, List.setIfInBounds_toArray, List.set_cons_zero, List.set_cons_succ, i64_w, i32_w]
            rfl
          refine pure_ (i := 22) (N := some 68) (v := ?_) (a' := ?_) #[true, true, true, true, true, true, true, true, true, true, true, true, true, true, true, true, true, true, true, true, true, true, true, false, false, false, false] rfl rfl (by kernel_rfl) (fun _ _ _ h => h) (Or.inl ⟨by rfl, ?_⟩) ?_ ?_
          rotate_left
          · intro w'
            go_simp
            with_reducible rfl
          rotate_left
          · simp only [Act.put, List.setIfInBounds_toArray, List.set_cons_zero, List.set_cons_succ, i64_w, i32_w]
            rfl
          refine take_ (i := 23) (N := some 69) (v := ?_) (a' := ?_) #[true, true, true, true, true, true, true, true, true, true, true, true, true, true, true, true, true, true, true, true, true, true, true, true, false, false, false] rfl rfl (by kernel_rfl) (fun _ _ _ h => h) (Or.inl ⟨by rfl, ?_⟩) hHeld ?_ ?_
          rotate_left
          · rintro w' ⟨s0, s1, s2, s3, s4, s5, s6, s7, s8, s9, s10, s11, s12, s13, s14, s15, s16, s17, s18, s19, s20, s21, s22, s23, s24, s25⟩
            go_simp
            with_reducible rfl
          rotate_left
          · simp only [Act.put, List.setIfInBounds_toArray, List.set_cons_zero, List.set_cons_succ, i64_w, i32_w]
            rfl
          refine one_ (i := 24) (N := some 70) #[true, true, true, true, true, true, true, true, true, true, true, true, true, true, true, true, true, true, true, true, true, true, true, true, true, false, false] rfl rfl (by kernel_rfl) (by decide) (fun K hK => ?_)
          refine goes_ Try.func22 (by kernel_rfl) rfl #[S6 ⟨lx, rx, ex, nx, px, dx⟩] (by rfl) rfl rfl (by simp only [List.map_toArray, List.map_cons, List.map_nil]; rfl) ?_
          with_reducible refine (HCK.out _).mono ?_
          rintro e9 wc ⟨rfl, hx⟩
          refine ⟨_, rfl, ?_⟩
          refine hK.out _ _ ⟨(cell_below hHeld.1 hx), (cell_below hHeld.2.1 hx), (cell_below hHeld.2.2.1 hx), (cell_below hHeld.2.2.2.1 hx), (cell_below hHeld.2.2.2.2.1 hx), (cell_below hHeld.2.2.2.2.2.1 hx), (cell_below hHeld.2.2.2.2.2.2.1 hx), (cell_below hHeld.2.2.2.2.2.2.2.1 hx), (cell_below hHeld.2.2.2.2.2.2.2.2.1 hx), (cell_below hHeld.2.2.2.2.2.2.2.2.2.1 hx), (cell_below hHeld.2.2.2.2.2.2.2.2.2.2.1 hx), (cell_below hHeld.2.2.2.2.2.2.2.2.2.2.2.1 hx), (cell_below hHeld.2.2.2.2.2.2.2.2.2.2.2.2.1 hx), (cell_below hHeld.2.2.2.2.2.2.2.2.2.2.2.2.2.1 hx), (cell_below hHeld.2.2.2.2.2.2.2.2.2.2.2.2.2.2.1 hx), (cell_below hHeld.2.2.2.2.2.2.2.2.2.2.2.2.2.2.2.1 hx), (cell_below hHeld.2.2.2.2.2.2.2.2.2.2.2.2.2.2.2.2.1 hx), (cell_below hHeld.2.2.2.2.2.2.2.2.2.2.2.2.2.2.2.2.2.1 hx), (cell_below hHeld.2.2.2.2.2.2.2.2.2.2.2.2.2.2.2.2.2.2.1 hx), (cell_below hHeld.2.2.2.2.2.2.2.2.2.2.2.2.2.2.2.2.2.2.2.1 hx), (cell_below hHeld.2.2.2.2.2.2.2.2.2.2.2.2.2.2.2.2.2.2.2.2.1 hx), (cell_below hHeld.2.2.2.2.2.2.2.2.2.2.2.2.2.2.2.2.2.2.2.2.2.1 hx), (cell_below hHeld.2.2.2.2.2.2.2.2.2.2.2.2.2.2.2.2.2.2.2.2.2.2.1 hx), (cell_below hHeld.2.2.2.2.2.2.2.2.2.2.2.2.2.2.2.2.2.2.2.2.2.2.2.1 hx), (cell_below hHeld.2.2.2.2.2.2.2.2.2.2.2.2.2.2.2.2.2.2.2.2.2.2.2.2.1 hx), (cell_below hHeld.2.2.2.2.2.2.2.2.2.2.2.2.2.2.2.2.2.2.2.2.2.2.2.2.2 hx)⟩ (fun hHeld => ?_)
          clear hK K
          refine norm_ (a' := ?_) ?_ ?_
          rotate_left
          · show Act.put _ (some 70) _ = _
            simp only [Act.put, List.setIfInBounds_toArray, List.set_cons_zero, List.set_cons_succ, i64_w, i32_w]
            rfl
          refine pure_ (i := 25) (N := some 71) (v := ?_) (a' := ?_) #[true, true, true, true, true, true, true, true, true, true, true, true, true, true, true, true, true, true, true, true, true, true, true, true, true, true, false] rfl rfl (by kernel_rfl) (fun _ _ _ h => h) (Or.inl ⟨by rfl, ?_⟩) ?_ ?_
          rotate_left
          · intro w'
            go_simp
            with_reducible rfl
          rotate_left
          · simp only [Act.put, List.setIfInBounds_toArray, List.set_cons_zero, List.set_cons_succ, i64_w, i32_w]
            rfl
          refine pure_ (i := 26) (N := some 72) (v := ?_) (a' := ?_) #[true, true, true, true, true, true, true, true, true, true, true, true, true, true, true, true, true, true, true, true, true, true, true, true, true, true, true] rfl rfl (by kernel_rfl) (fun _ _ _ h => h) (Or.inl ⟨by rfl, ?_⟩) ?_ ?_
          rotate_left
          · intro w'
            go_simp
            with_reducible rfl
          rotate_left
          · simp only [Act.put, List.setIfInBounds_toArray, List.set_cons_zero, List.set_cons_succ, i64_w, i32_w]
            rfl
          refine done_ (by kernel_rfl) ?_
          replace HL := Lib.hid (HL.out.drew.below hx)
          replace HF := Lib.hid (HF.out.drew.below hx)
          replace HP := Lib.hid (HP.out.drew.below hx)
          replace HW := Lib.hid (HW.out.drew.below hx)
          replace HB := Lib.hid (b_step (b_drew HB.out) hx)
          clear hx HCK F1 F2
          go_upto_region 18 with fail
          by_cases hT : px = 2
          · have t1 : (px == 2) = true := beq_iff_eq.2 hT
            by_cases hX : p = 2
            · have t2 : (p != 2) = false := bne_eq_false_iff_eq.2 hX
              by_cases hN : nx = n'
              · have t3 : (nx != n') = false := bne_eq_false_iff_eq.2 hN
                have HNO := Lib.hid (And.intro hX hN)
                clear hT hX hN
                refine start_ (n := 23) (S := fun w' => w'.cell? ⟨w1.heap.size, 0, none⟩ = some (.int .i64 lx) ∧ w'.cell? ⟨w1.heap.size, 1, none⟩ = some (.int .i64 rx) ∧ w'.cell? ⟨w1.heap.size, 2, none⟩ = some (.int .i64 ex) ∧ w'.cell? ⟨w1.heap.size, 3, none⟩ = some (.int .i64 nx) ∧ w'.cell? ⟨w1.heap.size, 4, none⟩ = some (.int .i64 px) ∧ w'.cell? ⟨w1.heap.size, 5, none⟩ = some (.int .i64 dx) ∧ w'.cell? ⟨w1.heap.size, 6, none⟩ = some (.int .i64 ly) ∧ w'.cell? ⟨w1.heap.size, 7, none⟩ = some (.int .i64 ry) ∧ w'.cell? ⟨w1.heap.size, 8, none⟩ = some (.int .i64 ey) ∧ w'.cell? ⟨w1.heap.size, 9, none⟩ = some (.int .i64 ny) ∧ w'.cell? ⟨w1.heap.size, 10, none⟩ = some (.int .i64 py) ∧ w'.cell? ⟨w1.heap.size, 11, none⟩ = some (.int .i64 dy) ∧ w'.cell? ⟨bf, 0, none⟩ = some (.int .i64 l) ∧ w'.cell? ⟨bf, 1, none⟩ = some (.int .i64 r) ∧ w'.cell? ⟨bf, 2, none⟩ = some (.int .i64 e) ∧ w'.cell? ⟨bf, 3, none⟩ = some (.int .i64 n') ∧ w'.cell? ⟨bf, 4, none⟩ = some (.int .i64 p) ∧ w'.cell? ⟨bf, 5, none⟩ = some (.int .i64 d) ∧ w'.cell? ⟨bf, 6, none⟩ = some (.int .i64 l2) ∧ w'.cell? ⟨bf, 7, none⟩ = some (.int .i64 r2) ∧ w'.cell? ⟨bf, 8, none⟩ = some (.int .i64 e2) ∧ w'.cell? ⟨bf, 9, none⟩ = some (.int .i64 n2) ∧ w'.cell? ⟨bf, 10, none⟩ = some (.int .i64 p2) ∧ w'.cell? ⟨bf, 11, none⟩ = some (.int .i64 d2) ∧ w'.cell? ⟨w1.heap.size + 1, 0, none⟩ = some (.int .i64 o0) ∧ w'.cell? ⟨w1.heap.size + 1, 1, none⟩ = some (.int .i64 o1)) (ds := []) #[false, false, false, false, false, false, false, false, false, false, false, false, false, false, false, false, false, false, false, false, false, false, false] (by kernel_rfl) rfl rfl ⟨(HL.out.drew.cell 0), (HL.out.drew.cell 1), (HL.out.drew.cell 2), (HL.out.drew.cell 3), (HL.out.drew.cell 4), (HL.out.drew.cell 5), (HL.out.drew.cell 6), (HL.out.drew.cell 7), (HL.out.drew.cell 8), (HL.out.drew.cell 9), (HL.out.drew.cell 10), (HL.out.drew.cell 11), (HF.out.drew.cell 0), (HF.out.drew.cell 1), (HF.out.drew.cell 2), (HF.out.drew.cell 3), (HF.out.drew.cell 4), (HF.out.drew.cell 5), (HF.out.drew.cell 6), (HF.out.drew.cell 7), (HF.out.drew.cell 8), (HF.out.drew.cell 9), (HF.out.drew.cell 10), (HF.out.drew.cell 11), (HP.out.drew.cell 0), (HP.out.drew.cell 1)⟩ (fun hHeld => ?_)
                refine pure_ (i := 0) (N := some 73) (v := ?_) (a' := ?_) #[true, false, false, false, false, false, false, false, false, false, false, false, false, false, false, false, false, false, false, false, false, false, false] rfl rfl (by kernel_rfl) (fun _ _ _ h => h) (Or.inl ⟨by rfl, ?_⟩) ?_ ?_
                rotate_left
                · intro w'
                  go_simp
                  with_reducible rfl
                rotate_left
                · simp only [Act.put, List.setIfInBounds_toArray, List.set_cons_zero, List.set_cons_succ, i64_w, i32_w]
                  rfl
                refine pure_ (i := 1) (N := some 74) (v := ?_) (a' := ?_) #[true, true, false, false, false, false, false, false, false, false, false, false, false, false, false, false, false, false, false, false, false, false, false] rfl rfl (by kernel_rfl) (fun _ _ _ h => h) (Or.inl ⟨by rfl, ?_⟩) ?_ ?_
                rotate_left
                · intro w'
                  go_simp
                  with_reducible rfl
                rotate_left
                · simp only [Act.put, List.setIfInBounds_toArray, List.set_cons_zero, List.set_cons_succ, i64_w, i32_w]
                  rfl
                refine pure_ (i := 2) (N := some 75) (v := ?_) (a' := ?_) #[true, true, true, false, false, false, false, false, false, false, false, false, false, false, false, false, false, false, false, false, false, false, false] rfl rfl (by kernel_rfl) (fun _ _ _ h => h) (Or.inl ⟨by rfl, ?_⟩) ?_ ?_
                rotate_left
                · intro w'
                  go_simp
                  with_reducible rfl
                rotate_left
                · simp only [Act.put, List.setIfInBounds_toArray, List.set_cons_zero, List.set_cons_succ, i64_w, i32_w]
                  rfl
                refine take_ (i := 3) (N := some 76) (v := ?_) (a' := ?_) #[true, true, true, true, false, false, false, false, false, false, false, false, false, false, false, false, false, false, false, false, false, false, false] rfl rfl (by kernel_rfl) (fun _ _ _ h => h) (Or.inl ⟨by rfl, ?_⟩) hHeld ?_ ?_
                rotate_left
                · rintro w' ⟨s0, s1, s2, s3, s4, s5, s6, s7, s8, s9, s10, s11, s12, s13, s14, s15, s16, s17, s18, s19, s20, s21, s22, s23, s24, s25⟩
                  go_simp
                  with_reducible rfl
                rotate_left
                · simp only [Act.put, List.setIfInBounds_toArray, List.set_cons_zero, List.set_cons_succ, i64_w, i32_w]
                  rfl
                refine pure_ (i := 4) (N := some 77) (v := ?_) (a' := ?_) #[true, true, true, true, true, false, false, false, false, false, false, false, false, false, false, false, false, false, false, false, false, false, false] rfl rfl (by kernel_rfl) (fun _ _ _ h => h) (Or.inl ⟨by rfl, ?_⟩) ?_ ?_
                rotate_left
                · intro w'
                  go_simp
                  with_reducible rfl
                rotate_left
                · simp only [Act.put, List.setIfInBounds_toArray, List.set_cons_zero, List.set_cons_succ, i64_w, i32_w]
                  rfl
                refine pure_ (i := 5) (N := some 78) (v := ?_) (a' := ?_) #[true, true, true, true, true, true, false, false, false, false, false, false, false, false, false, false, false, false, false, false, false, false, false] rfl rfl (by kernel_rfl) (fun _ _ _ h => h) (Or.inl ⟨by rfl, ?_⟩) ?_ ?_
                rotate_left
                · intro w'
                  go_simp
                  with_reducible rfl
                rotate_left
                · simp only [Act.put, List.setIfInBounds_toArray, List.set_cons_zero, List.set_cons_succ, i64_w, i32_w]
                  rfl
                refine pure_ (i := 6) (N := some 79) (v := ?_) (a' := ?_) #[true, true, true, true, true, true, true, false, false, false, false, false, false, false, false, false, false, false, false, false, false, false, false] rfl rfl (by kernel_rfl) (fun _ _ _ h => h) (Or.inl ⟨by rfl, ?_⟩) ?_ ?_
                rotate_left
                · intro w'
                  go_simp
                  with_reducible rfl
                rotate_left
                · simp only [Act.put, List.setIfInBounds_toArray, List.set_cons_zero, List.set_cons_succ, i64_w, i32_w]
                  rfl
                refine pure_ (i := 7) (N := some 80) (v := ?_) (a' := ?_) #[true, true, true, true, true, true, true, true, false, false, false, false, false, false, false, false, false, false, false, false, false, false, false] rfl rfl (by kernel_rfl) (fun _ _ _ h => h) (Or.inl ⟨by rfl, ?_⟩) ?_ ?_
                rotate_left
                · intro w'
                  go_simp
                  with_reducible rfl
                rotate_left
                · simp only [Act.put, List.setIfInBounds_toArray, List.set_cons_zero, List.set_cons_succ, i64_w, i32_w]
                  rfl
                refine pure_ (i := 8) (N := some 81) (v := ?_) (a' := ?_) #[true, true, true, true, true, true, true, true, true, false, false, false, false, false, false, false, false, false, false, false, false, false, false] rfl rfl (by kernel_rfl) (fun _ _ _ h => h) (Or.inl ⟨by rfl, ?_⟩) ?_ ?_
                rotate_left
                · intro w'
                  go_simp
                  with_reducible rfl
                rotate_left
                · simp only [Act.put, List.setIfInBounds_toArray, List.set_cons_zero, List.set_cons_succ, i64_w, i32_w]
                  rfl
                refine take_ (i := 9) (N := some 82) (v := ?_) (a' := ?_) #[true, true, true, true, true, true, true, true, true, true, false, false, false, false, false, false, false, false, false, false, false, false, false] rfl rfl (by kernel_rfl) (fun _ _ _ h => h) (Or.inl ⟨by rfl, ?_⟩) hHeld ?_ ?_
                rotate_left
                · rintro w' ⟨s0, s1, s2, s3, s4, s5, s6, s7, s8, s9, s10, s11, s12, s13, s14, s15, s16, s17, s18, s19, s20, s21, s22, s23, s24, s25⟩
                  go_simp
                  with_reducible rfl
                rotate_left
                · simp only [Act.put, List.setIfInBounds_toArray, List.set_cons_zero, List.set_cons_succ, i64_w, i32_w]
                  rfl
                refine pure_ (i := 10) (N := some 83) (v := ?_) (a' := ?_) #[true, true, true, true, true, true, true, true, true, true, true, false, false, false, false, false, false, false, false, false, false, false, false] rfl rfl (by kernel_rfl) (fun _ _ _ h => h) (Or.inl ⟨by rfl, ?_⟩) ?_ ?_
                rotate_left
                · intro w'
                  go_simp
                  with_reducible rfl
                rotate_left
                · simp only [Act.put, List.setIfInBounds_toArray, List.set_cons_zero, List.set_cons_succ, i64_w, i32_w]
                  rfl
                refine pure_ (i := 11) (N := some 84) (v := ?_) (a' := ?_) #[true, true, true, true, true, true, true, true, true, true, true, true, false, false, false, false, false, false, false, false, false, false, false] rfl rfl (by kernel_rfl) (fun _ _ _ h => h) (Or.inl ⟨by rfl, ?_⟩) ?_ ?_
                rotate_left
                · intro w'
                  go_simp
                  with_reducible rfl
                rotate_left
                · simp only [Act.put, List.setIfInBounds_toArray, List.set_cons_zero, List.set_cons_succ, i64_w, i32_w]
                  rfl
                refine pure_ (i := 12) (N := some 85) (v := ?_) (a' := ?_) #[true, true, true, true, true, true, true, true, true, true, true, true, true, false, false, false, false, false, false, false, false, false, false] rfl rfl (by kernel_rfl) (fun _ _ _ h => h) (Or.inl ⟨by rfl, ?_⟩) ?_ ?_
                rotate_left
                · intro w'
                  go_simp
                  with_reducible rfl
                rotate_left
                · simp only [Act.put, List.setIfInBounds_toArray, List.set_cons_zero, List.set_cons_succ, i64_w, i32_w]
                  rfl
                refine pure_ (i := 13) (N := some 86) (v := ?_) (a' := ?_) #[true, true, true, true, true, true, true, true, true, true, true, true, true, true, false, false, false, false, false, false, false, false, false] rfl rfl (by kernel_rfl) (fun _ _ _ h => h) (Or.inl ⟨by rfl, ?_⟩) ?_ ?_
                rotate_left
                · intro w'
                  go_simp
                  with_reducible rfl
                rotate_left
                · simp only [Act.put, List.setIfInBounds_toArray, List.set_cons_zero, List.set_cons_succ, i64_w, i32_w]
                  rfl
                refine pure_ (i := 14) (N := some 87) (v := ?_) (a' := ?_) #[true, true, true, true, true, true, true, true, true, true, true, true, true, true, true, false, false, false, false, false, false, false, false] rfl rfl (by kernel_rfl) (fun _ _ _ h => h) (Or.inl ⟨by rfl, ?_⟩) ?_ ?_
                rotate_left
                · intro w'
                  go_simp
                  with_reducible rfl
                rotate_left
                · simp only [Act.put, List.setIfInBounds_toArray, List.set_cons_zero, List.set_cons_succ, i64_w, i32_w]
                  rfl
                refine pure_ (i := 16) (N := some 89) (v := ?_) (a' := ?_) #[true, true, true, true, true, true, true, true, true, true, true, true, true, true, true, false, true, false, false, false, false, false, false] rfl rfl (by kernel_rfl) (fun _ _ _ h => h) (Or.inl ⟨by rfl, ?_⟩) ?_ ?_
                rotate_left
                · intro w'
                  go_simp
                  with_reducible rfl
                rotate_left
                · simp only [Act.put, List.setIfInBounds_toArray, List.set_cons_zero, List.set_cons_succ, i64_w, i32_w]
                  rfl
                refine pure_ (i := 17) (N := some 90) (v := ?_) (a' := ?_) #[true, true, true, true, true, true, true, true, true, true, true, true, true, true, true, false, true, true, false, false, false, false, false] rfl rfl (by kernel_rfl) (fun _ _ _ h => h) (Or.inl ⟨by rfl, ?_⟩) ?_ ?_
                rotate_left
                · intro w'
                  go_simp
                  with_reducible rfl
                rotate_left
                · simp only [Act.put, List.setIfInBounds_toArray, List.set_cons_zero, List.set_cons_succ, i64_w, i32_w]
                  rfl
                refine pure_ (i := 18) (N := some 91) (v := ?_) (a' := ?_) #[true, true, true, true, true, true, true, true, true, true, true, true, true, true, true, false, true, true, true, false, false, false, false] rfl rfl (by kernel_rfl) (fun _ _ _ h => h) (Or.inl ⟨by rfl, ?_⟩) ?_ ?_
                rotate_left
                · intro w'
                  go_simp
                  with_reducible rfl
                rotate_left
                · simp only [Act.put, List.setIfInBounds_toArray, List.set_cons_zero, List.set_cons_succ, i64_w, i32_w]
                  rfl
                refine take_ (i := 15) (N := some 88) (v := ?_) (a' := ?_) #[true, true, true, true, true, true, true, true, true, true, true, true, true, true, true, true, true, true, true, false, false, false, false] rfl rfl (by kernel_rfl) (fun _ _ _ h => h) (Or.inl ⟨by rfl, ?_⟩) hHeld ?_ ?_
                rotate_left
                · rintro w' ⟨s0, s1, s2, s3, s4, s5, s6, s7, s8, s9, s10, s11, s12, s13, s14, s15, s16, s17, s18, s19, s20, s21, s22, s23, s24, s25⟩
                  go_simp
                  with_reducible rfl
                rotate_left
                · simp only [Act.put, List.setIfInBounds_toArray, List.set_cons_zero, List.set_cons_succ, i64_w, i32_w]
                  rfl
                refine take_ (i := 19) (N := some 92) (v := ?_) (a' := ?_) #[true, true, true, true, true, true, true, true, true, true, true, true, true, true, true, true, true, true, true, true, false, false, false] rfl rfl (by kernel_rfl) (fun _ _ _ h => h) (Or.inl ⟨by rfl, ?_⟩) hHeld ?_ ?_
                rotate_left
                · rintro w' ⟨s0, s1, s2, s3, s4, s5, s6, s7, s8, s9, s10, s11, s12, s13, s14, s15, s16, s17, s18, s19, s20, s21, s22, s23, s24, s25⟩
                  go_simp
                  with_reducible rfl
                rotate_left
                · simp only [Act.put, List.setIfInBounds_toArray, List.set_cons_zero, List.set_cons_succ, i64_w, i32_w]
                  rfl
                refine pure_ (i := 20) (N := some 93) (v := ?_) (a' := ?_) #[true, true, true, true, true, true, true, true, true, true, true, true, true, true, true, true, true, true, true, true, true, false, false] rfl rfl (by kernel_rfl) (fun _ _ _ h => h) (Or.inl ⟨by rfl, ?_⟩) ?_ ?_
                rotate_left
                · intro w'
                  go_simp
                  with_reducible rfl
                rotate_left
                · simp only [Act.put, List.setIfInBounds_toArray, List.set_cons_zero, List.set_cons_succ, i64_w, i32_w]
                  rfl
                refine pure_ (i := 21) (N := some 94) (v := ?_) (a' := ?_) #[true, true, true, true, true, true, true, true, true, true, true, true, true, true, true, true, true, true, true, true, true, true, false] rfl rfl (by kernel_rfl) (fun _ _ _ h => h) (Or.inl ⟨by rfl, ?_⟩) ?_ ?_
                rotate_left
                · intro w'
                  go_simp
                  with_reducible rfl
                rotate_left
                · simp only [Act.put, List.setIfInBounds_toArray, List.set_cons_zero, List.set_cons_succ, i64_w, i32_w]
                  rfl
                refine pure_ (i := 22) (N := some 95) (v := ?_) (a' := ?_) #[true, true, true, true, true, true, true, true, true, true, true, true, true, true, true, true, true, true, true, true, true, true, true] rfl rfl (by kernel_rfl) (fun _ _ _ h => h) (Or.inl ⟨by rfl, ?_⟩) ?_ ?_
                rotate_left
                · intro w'
                  go_simp
                  with_reducible rfl
                rotate_left
                · simp only [Act.put, List.setIfInBounds_toArray, List.set_cons_zero, List.set_cons_succ, i64_w, i32_w]
                  rfl
                refine done_ (by kernel_rfl) ?_
                replace HL := Lib.hid HL.out.drew
                replace HF := Lib.hid HF.out.drew
                replace HP := Lib.hid HP.out.drew
                replace HW := Lib.hid HW.out.drew
                replace HB := Lib.hid (b_drew HB.out)
                generalize wc.drew = wd at *
                go_wp2_with fail
                go_roundg (gk - 1)
                case measure => omega
                case rel => exact ⟨0 + 1, o0, o1, by omega, by go_num, HL.out, HF.out, HP.out, HW.out, HB.out, by rw [if_neg (by omega)]; unfold opn; rw [if_neg (fun q => by rcases q.2 with q2 | q2; exact q2 HNO.out.1; exact q2 HNO.out.2)], by rw [if_pos (by omega)]⟩
              · have t3 : (nx != n') = true := bne_iff_ne.2 hN
                have HNO := Lib.hid (And.intro hT hN)
                clear hT hX hN
                refine start_ (n := 23) (S := fun w' => w'.cell? ⟨w1.heap.size, 0, none⟩ = some (.int .i64 lx) ∧ w'.cell? ⟨w1.heap.size, 1, none⟩ = some (.int .i64 rx) ∧ w'.cell? ⟨w1.heap.size, 2, none⟩ = some (.int .i64 ex) ∧ w'.cell? ⟨w1.heap.size, 3, none⟩ = some (.int .i64 nx) ∧ w'.cell? ⟨w1.heap.size, 4, none⟩ = some (.int .i64 px) ∧ w'.cell? ⟨w1.heap.size, 5, none⟩ = some (.int .i64 dx) ∧ w'.cell? ⟨w1.heap.size, 6, none⟩ = some (.int .i64 ly) ∧ w'.cell? ⟨w1.heap.size, 7, none⟩ = some (.int .i64 ry) ∧ w'.cell? ⟨w1.heap.size, 8, none⟩ = some (.int .i64 ey) ∧ w'.cell? ⟨w1.heap.size, 9, none⟩ = some (.int .i64 ny) ∧ w'.cell? ⟨w1.heap.size, 10, none⟩ = some (.int .i64 py) ∧ w'.cell? ⟨w1.heap.size, 11, none⟩ = some (.int .i64 dy) ∧ w'.cell? ⟨bf, 0, none⟩ = some (.int .i64 l) ∧ w'.cell? ⟨bf, 1, none⟩ = some (.int .i64 r) ∧ w'.cell? ⟨bf, 2, none⟩ = some (.int .i64 e) ∧ w'.cell? ⟨bf, 3, none⟩ = some (.int .i64 n') ∧ w'.cell? ⟨bf, 4, none⟩ = some (.int .i64 p) ∧ w'.cell? ⟨bf, 5, none⟩ = some (.int .i64 d) ∧ w'.cell? ⟨bf, 6, none⟩ = some (.int .i64 l2) ∧ w'.cell? ⟨bf, 7, none⟩ = some (.int .i64 r2) ∧ w'.cell? ⟨bf, 8, none⟩ = some (.int .i64 e2) ∧ w'.cell? ⟨bf, 9, none⟩ = some (.int .i64 n2) ∧ w'.cell? ⟨bf, 10, none⟩ = some (.int .i64 p2) ∧ w'.cell? ⟨bf, 11, none⟩ = some (.int .i64 d2) ∧ w'.cell? ⟨w1.heap.size + 1, 0, none⟩ = some (.int .i64 o0) ∧ w'.cell? ⟨w1.heap.size + 1, 1, none⟩ = some (.int .i64 o1)) (ds := []) #[false, false, false, false, false, false, false, false, false, false, false, false, false, false, false, false, false, false, false, false, false, false, false] (by kernel_rfl) rfl rfl ⟨(HL.out.drew.cell 0), (HL.out.drew.cell 1), (HL.out.drew.cell 2), (HL.out.drew.cell 3), (HL.out.drew.cell 4), (HL.out.drew.cell 5), (HL.out.drew.cell 6), (HL.out.drew.cell 7), (HL.out.drew.cell 8), (HL.out.drew.cell 9), (HL.out.drew.cell 10), (HL.out.drew.cell 11), (HF.out.drew.cell 0), (HF.out.drew.cell 1), (HF.out.drew.cell 2), (HF.out.drew.cell 3), (HF.out.drew.cell 4), (HF.out.drew.cell 5), (HF.out.drew.cell 6), (HF.out.drew.cell 7), (HF.out.drew.cell 8), (HF.out.drew.cell 9), (HF.out.drew.cell 10), (HF.out.drew.cell 11), (HP.out.drew.cell 0), (HP.out.drew.cell 1)⟩ (fun hHeld => ?_)
                refine pure_ (i := 0) (N := some 73) (v := ?_) (a' := ?_) #[true, false, false, false, false, false, false, false, false, false, false, false, false, false, false, false, false, false, false, false, false, false, false] rfl rfl (by kernel_rfl) (fun _ _ _ h => h) (Or.inl ⟨by rfl, ?_⟩) ?_ ?_
                rotate_left
                · intro w'
                  go_simp
                  with_reducible rfl
                rotate_left
                · simp only [Act.put, List.setIfInBounds_toArray, List.set_cons_zero, List.set_cons_succ, i64_w, i32_w]
                  rfl
                refine pure_ (i := 1) (N := some 74) (v := ?_) (a' := ?_) #[true, true, false, false, false, false, false, false, false, false, false, false, false, false, false, false, false, false, false, false, false, false, false] rfl rfl (by kernel_rfl) (fun _ _ _ h => h) (Or.inl ⟨by rfl, ?_⟩) ?_ ?_
                rotate_left
                · intro w'
                  go_simp
                  with_reducible rfl
                rotate_left
                · simp only [Act.put, List.setIfInBounds_toArray, List.set_cons_zero, List.set_cons_succ, i64_w, i32_w]
                  rfl
                refine pure_ (i := 2) (N := some 75) (v := ?_) (a' := ?_) #[true, true, true, false, false, false, false, false, false, false, false, false, false, false, false, false, false, false, false, false, false, false, false] rfl rfl (by kernel_rfl) (fun _ _ _ h => h) (Or.inl ⟨by rfl, ?_⟩) ?_ ?_
                rotate_left
                · intro w'
                  go_simp
                  with_reducible rfl
                rotate_left
                · simp only [Act.put, List.setIfInBounds_toArray, List.set_cons_zero, List.set_cons_succ, i64_w, i32_w]
                  rfl
                refine take_ (i := 3) (N := some 76) (v := ?_) (a' := ?_) #[true, true, true, true, false, false, false, false, false, false, false, false, false, false, false, false, false, false, false, false, false, false, false] rfl rfl (by kernel_rfl) (fun _ _ _ h => h) (Or.inl ⟨by rfl, ?_⟩) hHeld ?_ ?_
                rotate_left
                · rintro w' ⟨s0, s1, s2, s3, s4, s5, s6, s7, s8, s9, s10, s11, s12, s13, s14, s15, s16, s17, s18, s19, s20, s21, s22, s23, s24, s25⟩
                  go_simp
                  with_reducible rfl
                rotate_left
                · simp only [Act.put, List.setIfInBounds_toArray, List.set_cons_zero, List.set_cons_succ, i64_w, i32_w]
                  rfl
                refine pure_ (i := 4) (N := some 77) (v := ?_) (a' := ?_) #[true, true, true, true, true, false, false, false, false, false, false, false, false, false, false, false, false, false, false, false, false, false, false] rfl rfl (by kernel_rfl) (fun _ _ _ h => h) (Or.inl ⟨by rfl, ?_⟩) ?_ ?_
                rotate_left
                · intro w'
                  go_simp
                  with_reducible rfl
                rotate_left
                · simp only [Act.put, List.setIfInBounds_toArray, List.set_cons_zero, List.set_cons_succ, i64_w, i32_w]
                  rfl
                refine pure_ (i := 5) (N := some 78) (v := ?_) (a' := ?_) #[true, true, true, true, true, true, false, false, false, false, false, false, false, false, false, false, false, false, false, false, false, false, false] rfl rfl (by kernel_rfl) (fun _ _ _ h => h) (Or.inl ⟨by rfl, ?_⟩) ?_ ?_
                rotate_left
                · intro w'
                  go_simp
                  with_reducible rfl
                rotate_left
                · simp only [Act.put, List.setIfInBounds_toArray, List.set_cons_zero, List.set_cons_succ, i64_w, i32_w]
                  rfl
                refine pure_ (i := 6) (N := some 79) (v := ?_) (a' := ?_) #[true, true, true, true, true, true, true, false, false, false, false, false, false, false, false, false, false, false, false, false, false, false, false] rfl rfl (by kernel_rfl) (fun _ _ _ h => h) (Or.inl ⟨by rfl, ?_⟩) ?_ ?_
                rotate_left
                · intro w'
                  go_simp
                  with_reducible rfl
                rotate_left
                · simp only [Act.put, List.setIfInBounds_toArray, List.set_cons_zero, List.set_cons_succ, i64_w, i32_w]
                  rfl
                refine pure_ (i := 7) (N := some 80) (v := ?_) (a' := ?_) #[true, true, true, true, true, true, true, true, false, false, false, false, false, false, false, false, false, false, false, false, false, false, false] rfl rfl (by kernel_rfl) (fun _ _ _ h => h) (Or.inl ⟨by rfl, ?_⟩) ?_ ?_
                rotate_left
                · intro w'
                  go_simp
                  with_reducible rfl
                rotate_left
                · simp only [Act.put, List.setIfInBounds_toArray, List.set_cons_zero, List.set_cons_succ, i64_w, i32_w]
                  rfl
                refine pure_ (i := 8) (N := some 81) (v := ?_) (a' := ?_) #[true, true, true, true, true, true, true, true, true, false, false, false, false, false, false, false, false, false, false, false, false, false, false] rfl rfl (by kernel_rfl) (fun _ _ _ h => h) (Or.inl ⟨by rfl, ?_⟩) ?_ ?_
                rotate_left
                · intro w'
                  go_simp
                  with_reducible rfl
                rotate_left
                · simp only [Act.put, List.setIfInBounds_toArray, List.set_cons_zero, List.set_cons_succ, i64_w, i32_w]
                  rfl
                refine take_ (i := 9) (N := some 82) (v := ?_) (a' := ?_) #[true, true, true, true, true, true, true, true, true, true, false, false, false, false, false, false, false, false, false, false, false, false, false] rfl rfl (by kernel_rfl) (fun _ _ _ h => h) (Or.inl ⟨by rfl, ?_⟩) hHeld ?_ ?_
                rotate_left
                · rintro w' ⟨s0, s1, s2, s3, s4, s5, s6, s7, s8, s9, s10, s11, s12, s13, s14, s15, s16, s17, s18, s19, s20, s21, s22, s23, s24, s25⟩
                  go_simp
                  with_reducible rfl
                rotate_left
                · simp only [Act.put, List.setIfInBounds_toArray, List.set_cons_zero, List.set_cons_succ, i64_w, i32_w]
                  rfl
                refine pure_ (i := 10) (N := some 83) (v := ?_) (a' := ?_) #[true, true, true, true, true, true, true, true, true, true, true, false, false, false, false, false, false, false, false, false, false, false, false] rfl rfl (by kernel_rfl) (fun _ _ _ h => h) (Or.inl ⟨by rfl, ?_⟩) ?_ ?_
                rotate_left
                · intro w'
                  go_simp
                  with_reducible rfl
                rotate_left
                · simp only [Act.put, List.setIfInBounds_toArray, List.set_cons_zero, List.set_cons_succ, i64_w, i32_w]
                  rfl
                refine pure_ (i := 11) (N := some 84) (v := ?_) (a' := ?_) #[true, true, true, true, true, true, true, true, true, true, true, true, false, false, false, false, false, false, false, false, false, false, false] rfl rfl (by kernel_rfl) (fun _ _ _ h => h) (Or.inl ⟨by rfl, ?_⟩) ?_ ?_
                rotate_left
                · intro w'
                  go_simp
                  with_reducible rfl
                rotate_left
                · simp only [Act.put, List.setIfInBounds_toArray, List.set_cons_zero, List.set_cons_succ, i64_w, i32_w]
                  rfl
                refine pure_ (i := 12) (N := some 85) (v := ?_) (a' := ?_) #[true, true, true, true, true, true, true, true, true, true, true, true, true, false, false, false, false, false, false, false, false, false, false] rfl rfl (by kernel_rfl) (fun _ _ _ h => h) (Or.inl ⟨by rfl, ?_⟩) ?_ ?_
                rotate_left
                · intro w'
                  go_simp
                  with_reducible rfl
                rotate_left
                · simp only [Act.put, List.setIfInBounds_toArray, List.set_cons_zero, List.set_cons_succ, i64_w, i32_w]
                  rfl
                refine pure_ (i := 13) (N := some 86) (v := ?_) (a' := ?_) #[true, true, true, true, true, true, true, true, true, true, true, true, true, true, false, false, false, false, false, false, false, false, false] rfl rfl (by kernel_rfl) (fun _ _ _ h => h) (Or.inl ⟨by rfl, ?_⟩) ?_ ?_
                rotate_left
                · intro w'
                  go_simp
                  with_reducible rfl
                rotate_left
                · simp only [Act.put, List.setIfInBounds_toArray, List.set_cons_zero, List.set_cons_succ, i64_w, i32_w]
                  rfl
                refine pure_ (i := 14) (N := some 87) (v := ?_) (a' := ?_) #[true, true, true, true, true, true, true, true, true, true, true, true, true, true, true, false, false, false, false, false, false, false, false] rfl rfl (by kernel_rfl) (fun _ _ _ h => h) (Or.inl ⟨by rfl, ?_⟩) ?_ ?_
                rotate_left
                · intro w'
                  go_simp
                  with_reducible rfl
                rotate_left
                · simp only [Act.put, List.setIfInBounds_toArray, List.set_cons_zero, List.set_cons_succ, i64_w, i32_w]
                  rfl
                refine pure_ (i := 16) (N := some 89) (v := ?_) (a' := ?_) #[true, true, true, true, true, true, true, true, true, true, true, true, true, true, true, false, true, false, false, false, false, false, false] rfl rfl (by kernel_rfl) (fun _ _ _ h => h) (Or.inl ⟨by rfl, ?_⟩) ?_ ?_
                rotate_left
                · intro w'
                  go_simp
                  with_reducible rfl
                rotate_left
                · simp only [Act.put, List.setIfInBounds_toArray, List.set_cons_zero, List.set_cons_succ, i64_w, i32_w]
                  rfl
                refine pure_ (i := 17) (N := some 90) (v := ?_) (a' := ?_) #[true, true, true, true, true, true, true, true, true, true, true, true, true, true, true, false, true, true, false, false, false, false, false] rfl rfl (by kernel_rfl) (fun _ _ _ h => h) (Or.inl ⟨by rfl, ?_⟩) ?_ ?_
                rotate_left
                · intro w'
                  go_simp
                  with_reducible rfl
                rotate_left
                · simp only [Act.put, List.setIfInBounds_toArray, List.set_cons_zero, List.set_cons_succ, i64_w, i32_w]
                  rfl
                refine pure_ (i := 18) (N := some 91) (v := ?_) (a' := ?_) #[true, true, true, true, true, true, true, true, true, true, true, true, true, true, true, false, true, true, true, false, false, false, false] rfl rfl (by kernel_rfl) (fun _ _ _ h => h) (Or.inl ⟨by rfl, ?_⟩) ?_ ?_
                rotate_left
                · intro w'
                  go_simp
                  with_reducible rfl
                rotate_left
                · simp only [Act.put, List.setIfInBounds_toArray, List.set_cons_zero, List.set_cons_succ, i64_w, i32_w]
                  rfl
                refine take_ (i := 15) (N := some 88) (v := ?_) (a' := ?_) #[true, true, true, true, true, true, true, true, true, true, true, true, true, true, true, true, true, true, true, false, false, false, false] rfl rfl (by kernel_rfl) (fun _ _ _ h => h) (Or.inl ⟨by rfl, ?_⟩) hHeld ?_ ?_
                rotate_left
                · rintro w' ⟨s0, s1, s2, s3, s4, s5, s6, s7, s8, s9, s10, s11, s12, s13, s14, s15, s16, s17, s18, s19, s20, s21, s22, s23, s24, s25⟩
                  go_simp
                  with_reducible rfl
                rotate_left
                · simp only [Act.put, List.setIfInBounds_toArray, List.set_cons_zero, List.set_cons_succ, i64_w, i32_w]
                  rfl
                refine take_ (i := 19) (N := some 92) (v := ?_) (a' := ?_) #[true, true, true, true, true, true, true, true, true, true, true, true, true, true, true, true, true, true, true, true, false, false, false] rfl rfl (by kernel_rfl) (fun _ _ _ h => h) (Or.inl ⟨by rfl, ?_⟩) hHeld ?_ ?_
                rotate_left
                · rintro w' ⟨s0, s1, s2, s3, s4, s5, s6, s7, s8, s9, s10, s11, s12, s13, s14, s15, s16, s17, s18, s19, s20, s21, s22, s23, s24, s25⟩
                  go_simp
                  with_reducible rfl
                rotate_left
                · simp only [Act.put, List.setIfInBounds_toArray, List.set_cons_zero, List.set_cons_succ, i64_w, i32_w]
                  rfl
                refine pure_ (i := 20) (N := some 93) (v := ?_) (a' := ?_) #[true, true, true, true, true, true, true, true, true, true, true, true, true, true, true, true, true, true, true, true, true, false, false] rfl rfl (by kernel_rfl) (fun _ _ _ h => h) (Or.inl ⟨by rfl, ?_⟩) ?_ ?_
                rotate_left
                · intro w'
                  go_simp
                  with_reducible rfl
                rotate_left
                · simp only [Act.put, List.setIfInBounds_toArray, List.set_cons_zero, List.set_cons_succ, i64_w, i32_w]
                  rfl
                refine pure_ (i := 21) (N := some 94) (v := ?_) (a' := ?_) #[true, true, true, true, true, true, true, true, true, true, true, true, true, true, true, true, true, true, true, true, true, true, false] rfl rfl (by kernel_rfl) (fun _ _ _ h => h) (Or.inl ⟨by rfl, ?_⟩) ?_ ?_
                rotate_left
                · intro w'
                  go_simp
                  with_reducible rfl
                rotate_left
                · simp only [Act.put, List.setIfInBounds_toArray, List.set_cons_zero, List.set_cons_succ, i64_w, i32_w]
                  rfl
                refine pure_ (i := 22) (N := some 95) (v := ?_) (a' := ?_) #[true, true, true, true, true, true, true, true, true, true, true, true, true, true, true, true, true, true, true, true, true, true, true] rfl rfl (by kernel_rfl) (fun _ _ _ h => h) (Or.inl ⟨by rfl, ?_⟩) ?_ ?_
                rotate_left
                · intro w'
                  go_simp
                  with_reducible rfl
                rotate_left
                · simp only [Act.put, List.setIfInBounds_toArray, List.set_cons_zero, List.set_cons_succ, i64_w, i32_w]
                  rfl
                refine done_ (by kernel_rfl) ?_
                replace HL := Lib.hid HL.out.drew
                replace HF := Lib.hid HF.out.drew
                replace HP := Lib.hid HP.out.drew
                replace HW := Lib.hid HW.out.drew
                replace HB := Lib.hid (b_drew HB.out)
                generalize wc.drew = wd at *
                have F3 : decide (nx ≤ o0) = false := decide_eq_false (by have := grow_open HKA.out HGA.out HNO.out.1 (.inr HNO.out.2); dsimp only at this; omega)
                go_upto_region 19 with fail
                refine start_ (n := 8) (S := fun w' => w'.cell? ⟨w1.heap.size, 0, none⟩ = some (.int .i64 lx) ∧ w'.cell? ⟨w1.heap.size, 1, none⟩ = some (.int .i64 rx) ∧ w'.cell? ⟨w1.heap.size, 2, none⟩ = some (.int .i64 ex) ∧ w'.cell? ⟨w1.heap.size, 3, none⟩ = some (.int .i64 nx) ∧ w'.cell? ⟨w1.heap.size, 4, none⟩ = some (.int .i64 px) ∧ w'.cell? ⟨w1.heap.size, 5, none⟩ = some (.int .i64 dx) ∧ w'.cell? ⟨w1.heap.size, 6, none⟩ = some (.int .i64 ly) ∧ w'.cell? ⟨w1.heap.size, 7, none⟩ = some (.int .i64 ry) ∧ w'.cell? ⟨w1.heap.size, 8, none⟩ = some (.int .i64 ey) ∧ w'.cell? ⟨w1.heap.size, 9, none⟩ = some (.int .i64 ny) ∧ w'.cell? ⟨w1.heap.size, 10, none⟩ = some (.int .i64 py) ∧ w'.cell? ⟨w1.heap.size, 11, none⟩ = some (.int .i64 dy) ∧ w'.cell? ⟨bf, 0, none⟩ = some (.int .i64 l) ∧ w'.cell? ⟨bf, 1, none⟩ = some (.int .i64 r) ∧ w'.cell? ⟨bf, 2, none⟩ = some (.int .i64 e) ∧ w'.cell? ⟨bf, 3, none⟩ = some (.int .i64 n') ∧ w'.cell? ⟨bf, 4, none⟩ = some (.int .i64 p) ∧ w'.cell? ⟨bf, 5, none⟩ = some (.int .i64 d) ∧ w'.cell? ⟨bf, 6, none⟩ = some (.int .i64 l2) ∧ w'.cell? ⟨bf, 7, none⟩ = some (.int .i64 r2) ∧ w'.cell? ⟨bf, 8, none⟩ = some (.int .i64 e2) ∧ w'.cell? ⟨bf, 9, none⟩ = some (.int .i64 n2) ∧ w'.cell? ⟨bf, 10, none⟩ = some (.int .i64 p2) ∧ w'.cell? ⟨bf, 11, none⟩ = some (.int .i64 d2) ∧ w'.cell? ⟨w1.heap.size + 1, 0, none⟩ = some (.int .i64 o0) ∧ w'.cell? ⟨w1.heap.size + 1, 1, none⟩ = some (.int .i64 o1)) (ds := []) #[false, false, false, false, false, false, false, false] (by kernel_rfl) rfl rfl ⟨(HL.out.drew.cell 0), (HL.out.drew.cell 1), (HL.out.drew.cell 2), (HL.out.drew.cell 3), (HL.out.drew.cell 4), (HL.out.drew.cell 5), (HL.out.drew.cell 6), (HL.out.drew.cell 7), (HL.out.drew.cell 8), (HL.out.drew.cell 9), (HL.out.drew.cell 10), (HL.out.drew.cell 11), (HF.out.drew.cell 0), (HF.out.drew.cell 1), (HF.out.drew.cell 2), (HF.out.drew.cell 3), (HF.out.drew.cell 4), (HF.out.drew.cell 5), (HF.out.drew.cell 6), (HF.out.drew.cell 7), (HF.out.drew.cell 8), (HF.out.drew.cell 9), (HF.out.drew.cell 10), (HF.out.drew.cell 11), (HP.out.drew.cell 0), (HP.out.drew.cell 1)⟩ (fun hHeld => ?_)
                refine pure_ (i := 0) (N := some 96) (v := ?_) (a' := ?_) #[true, false, false, false, false, false, false, false] rfl rfl (by kernel_rfl) (fun _ _ _ h => h) (Or.inl ⟨by rfl, ?_⟩) ?_ ?_
                rotate_left
                · intro w'
                  go_simp
                  with_reducible rfl
                rotate_left
                · simp only [Act.put, List.setIfInBounds_toArray, List.set_cons_zero, List.set_cons_succ, i64_w, i32_w]
                  rfl
                refine pure_ (i := 1) (N := some 97) (v := ?_) (a' := ?_) #[true, true, false, false, false, false, false, false] rfl rfl (by kernel_rfl) (fun _ _ _ h => h) (Or.inl ⟨by rfl, ?_⟩) ?_ ?_
                rotate_left
                · intro w'
                  go_simp
                  with_reducible rfl
                rotate_left
                · simp only [Act.put, List.setIfInBounds_toArray, List.set_cons_zero, List.set_cons_succ, i64_w, i32_w]
                  rfl
                refine pure_ (i := 2) (N := some 98) (v := ?_) (a' := ?_) #[true, true, true, false, false, false, false, false] rfl rfl (by kernel_rfl) (fun _ _ _ h => h) (Or.inl ⟨by rfl, ?_⟩) ?_ ?_
                rotate_left
                · intro w'
                  go_simp
                  with_reducible rfl
                rotate_left
                · simp only [Act.put, List.setIfInBounds_toArray, List.set_cons_zero, List.set_cons_succ, i64_w, i32_w]
                  rfl
                refine pure_ (i := 4) (N := some 100) (v := ?_) (a' := ?_) #[true, true, true, false, true, false, false, false] rfl rfl (by kernel_rfl) (fun _ _ _ h => h) (Or.inl ⟨by rfl, ?_⟩) ?_ ?_
                rotate_left
                · intro w'
                  go_simp
                  with_reducible rfl
                rotate_left
                · simp only [Act.put, List.setIfInBounds_toArray, List.set_cons_zero, List.set_cons_succ, i64_w, i32_w]
                  rfl
                refine pure_ (i := 5) (N := some 101) (v := ?_) (a' := ?_) #[true, true, true, false, true, true, false, false] rfl rfl (by kernel_rfl) (fun _ _ _ h => h) (Or.inl ⟨by rfl, ?_⟩) ?_ ?_
                rotate_left
                · intro w'
                  go_simp
                  with_reducible rfl
                rotate_left
                · simp only [Act.put, List.setIfInBounds_toArray, List.set_cons_zero, List.set_cons_succ, i64_w, i32_w]
                  rfl
                refine take_ (i := 3) (N := some 99) (v := ?_) (a' := ?_) #[true, true, true, true, true, true, false, false] rfl rfl (by kernel_rfl) (fun _ _ _ h => h) (Or.inl ⟨by rfl, ?_⟩) hHeld ?_ ?_
                rotate_left
                · rintro w' ⟨s0, s1, s2, s3, s4, s5, s6, s7, s8, s9, s10, s11, s12, s13, s14, s15, s16, s17, s18, s19, s20, s21, s22, s23, s24, s25⟩
                  go_simp
                  with_reducible rfl
                rotate_left
                · simp only [Act.put, List.setIfInBounds_toArray, List.set_cons_zero, List.set_cons_succ, i64_w, i32_w]
                  rfl
                refine take_ (i := 6) (N := some 102) (v := ?_) (a' := ?_) #[true, true, true, true, true, true, true, false] rfl rfl (by kernel_rfl) (fun _ _ _ h => h) (Or.inl ⟨by rfl, ?_⟩) hHeld ?_ ?_
                rotate_left
                · rintro w' ⟨s0, s1, s2, s3, s4, s5, s6, s7, s8, s9, s10, s11, s12, s13, s14, s15, s16, s17, s18, s19, s20, s21, s22, s23, s24, s25⟩
                  go_simp
                  with_reducible rfl
                rotate_left
                · simp only [Act.put, List.setIfInBounds_toArray, List.set_cons_zero, List.set_cons_succ, i64_w, i32_w]
                  rfl
                refine pure_ (i := 7) (N := some 103) (v := ?_) (a' := ?_) #[true, true, true, true, true, true, true, true] rfl rfl (by kernel_rfl) (fun _ _ _ h => h) (Or.inl ⟨by rfl, ?_⟩) ?_ ?_
                rotate_left
                · intro w'
                  go_simp
                  with_reducible rfl
                rotate_left
                · simp only [Act.put, List.setIfInBounds_toArray, List.set_cons_zero, List.set_cons_succ, i64_w, i32_w]
                  rfl
                refine done_ (by kernel_rfl) ?_
                replace HL := Lib.hid HL.out.drew
                replace HF := Lib.hid HF.out.drew
                replace HP := Lib.hid HP.out.drew
                replace HW := Lib.hid HW.out.drew
                replace HB := Lib.hid (b_drew HB.out)
                generalize wd.drew = we at *
                have hL := HL.out
                have hP := HP.out
                obtain ⟨y0, y1, y2, y3, y4, y5, y6, y7, y8, y9, y10, y11, z0, z1, z2, z3, z4, z5, z6, z7, z8, z9, z10, z11⟩ := hL.twelve
                have g0 := hP.cell 0
                have g1 := hP.cell 1
                have g2 := hP.frozen 0
                have g3 := hP.frozen 1
                have hP4 := Lib.hid (hP.set 0 (.int .i64 nx))
                have hL4 := Lib.hid (hL.far (p := ⟨w1.heap.size + 1, 0, none⟩) (by simp) (.int .i64 nx))
                have hF4 := Lib.hid (HF.out.far (p := ⟨w1.heap.size + 1, 0, none⟩) (by show bf ≠ w1.heap.size + 1; omega) (.int .i64 nx))
                have hW4 := Lib.hid (HW.out.far (g := w1.heap.size + 1) (i := 0) (u := .int .i64 nx) (by omega))
                have hB4 := Lib.hid (b_set (g := w1.heap.size + 1) (j := 0) (v := .int .i64 nx) HB.out (by have := LB.out; omega))
                clear hL hP HL HF HP HW HB
                go_wp2_with fail
                go_roundg (gk - 1)
                case measure => omega
                case rel => exact ⟨0 + 1, nx, o1, by omega, by go_num, hL4.out, hF4.out, hP4.out, hW4.out, hB4.out, by rw [if_neg (by omega)]; unfold opn; rw [if_pos (⟨HNO.out.1, .inr HNO.out.2⟩)], by rw [if_pos (by omega)]⟩
            · have t2 : (p != 2) = true := bne_iff_ne.2 hX
              have HNO := Lib.hid (And.intro hT hX)
              clear hT hX
              refine start_ (n := 23) (S := fun w' => w'.cell? ⟨w1.heap.size, 0, none⟩ = some (.int .i64 lx) ∧ w'.cell? ⟨w1.heap.size, 1, none⟩ = some (.int .i64 rx) ∧ w'.cell? ⟨w1.heap.size, 2, none⟩ = some (.int .i64 ex) ∧ w'.cell? ⟨w1.heap.size, 3, none⟩ = some (.int .i64 nx) ∧ w'.cell? ⟨w1.heap.size, 4, none⟩ = some (.int .i64 px) ∧ w'.cell? ⟨w1.heap.size, 5, none⟩ = some (.int .i64 dx) ∧ w'.cell? ⟨w1.heap.size, 6, none⟩ = some (.int .i64 ly) ∧ w'.cell? ⟨w1.heap.size, 7, none⟩ = some (.int .i64 ry) ∧ w'.cell? ⟨w1.heap.size, 8, none⟩ = some (.int .i64 ey) ∧ w'.cell? ⟨w1.heap.size, 9, none⟩ = some (.int .i64 ny) ∧ w'.cell? ⟨w1.heap.size, 10, none⟩ = some (.int .i64 py) ∧ w'.cell? ⟨w1.heap.size, 11, none⟩ = some (.int .i64 dy) ∧ w'.cell? ⟨bf, 0, none⟩ = some (.int .i64 l) ∧ w'.cell? ⟨bf, 1, none⟩ = some (.int .i64 r) ∧ w'.cell? ⟨bf, 2, none⟩ = some (.int .i64 e) ∧ w'.cell? ⟨bf, 3, none⟩ = some (.int .i64 n') ∧ w'.cell? ⟨bf, 4, none⟩ = some (.int .i64 p) ∧ w'.cell? ⟨bf, 5, none⟩ = some (.int .i64 d) ∧ w'.cell? ⟨bf, 6, none⟩ = some (.int .i64 l2) ∧ w'.cell? ⟨bf, 7, none⟩ = some (.int .i64 r2) ∧ w'.cell? ⟨bf, 8, none⟩ = some (.int .i64 e2) ∧ w'.cell? ⟨bf, 9, none⟩ = some (.int .i64 n2) ∧ w'.cell? ⟨bf, 10, none⟩ = some (.int .i64 p2) ∧ w'.cell? ⟨bf, 11, none⟩ = some (.int .i64 d2) ∧ w'.cell? ⟨w1.heap.size + 1, 0, none⟩ = some (.int .i64 o0) ∧ w'.cell? ⟨w1.heap.size + 1, 1, none⟩ = some (.int .i64 o1)) (ds := []) #[false, false, false, false, false, false, false, false, false, false, false, false, false, false, false, false, false, false, false, false, false, false, false] (by kernel_rfl) rfl rfl ⟨(HL.out.drew.cell 0), (HL.out.drew.cell 1), (HL.out.drew.cell 2), (HL.out.drew.cell 3), (HL.out.drew.cell 4), (HL.out.drew.cell 5), (HL.out.drew.cell 6), (HL.out.drew.cell 7), (HL.out.drew.cell 8), (HL.out.drew.cell 9), (HL.out.drew.cell 10), (HL.out.drew.cell 11), (HF.out.drew.cell 0), (HF.out.drew.cell 1), (HF.out.drew.cell 2), (HF.out.drew.cell 3), (HF.out.drew.cell 4), (HF.out.drew.cell 5), (HF.out.drew.cell 6), (HF.out.drew.cell 7), (HF.out.drew.cell 8), (HF.out.drew.cell 9), (HF.out.drew.cell 10), (HF.out.drew.cell 11), (HP.out.drew.cell 0), (HP.out.drew.cell 1)⟩ (fun hHeld => ?_)
              refine pure_ (i := 0) (N := some 73) (v := ?_) (a' := ?_) #[true, false, false, false, false, false, false, false, false, false, false, false, false, false, false, false, false, false, false, false, false, false, false] rfl rfl (by kernel_rfl) (fun _ _ _ h => h) (Or.inl ⟨by rfl, ?_⟩) ?_ ?_
              rotate_left
              · intro w'
                go_simp
                with_reducible rfl
              rotate_left
              · simp only [Act.put, List.setIfInBounds_toArray, List.set_cons_zero, List.set_cons_succ, i64_w, i32_w]
                rfl
              refine pure_ (i := 1) (N := some 74) (v := ?_) (a' := ?_) #[true, true, false, false, false, false, false, false, false, false, false, false, false, false, false, false, false, false, false, false, false, false, false] rfl rfl (by kernel_rfl) (fun _ _ _ h => h) (Or.inl ⟨by rfl, ?_⟩) ?_ ?_
              rotate_left
              · intro w'
                go_simp
                with_reducible rfl
              rotate_left
              · simp only [Act.put, List.setIfInBounds_toArray, List.set_cons_zero, List.set_cons_succ, i64_w, i32_w]
                rfl
              refine pure_ (i := 2) (N := some 75) (v := ?_) (a' := ?_) #[true, true, true, false, false, false, false, false, false, false, false, false, false, false, false, false, false, false, false, false, false, false, false] rfl rfl (by kernel_rfl) (fun _ _ _ h => h) (Or.inl ⟨by rfl, ?_⟩) ?_ ?_
              rotate_left
              · intro w'
                go_simp
                with_reducible rfl
              rotate_left
              · simp only [Act.put, List.setIfInBounds_toArray, List.set_cons_zero, List.set_cons_succ, i64_w, i32_w]
                rfl
              refine take_ (i := 3) (N := some 76) (v := ?_) (a' := ?_) #[true, true, true, true, false, false, false, false, false, false, false, false, false, false, false, false, false, false, false, false, false, false, false] rfl rfl (by kernel_rfl) (fun _ _ _ h => h) (Or.inl ⟨by rfl, ?_⟩) hHeld ?_ ?_
              rotate_left
              · rintro w' ⟨s0, s1, s2, s3, s4, s5, s6, s7, s8, s9, s10, s11, s12, s13, s14, s15, s16, s17, s18, s19, s20, s21, s22, s23, s24, s25⟩
                go_simp
                with_reducible rfl
              rotate_left
              · simp only [Act.put, List.setIfInBounds_toArray, List.set_cons_zero, List.set_cons_succ, i64_w, i32_w]
                rfl
              refine pure_ (i := 4) (N := some 77) (v := ?_) (a' := ?_) #[true, true, true, true, true, false, false, false, false, false, false, false, false, false, false, false, false, false, false, false, false, false, false] rfl rfl (by kernel_rfl) (fun _ _ _ h => h) (Or.inl ⟨by rfl, ?_⟩) ?_ ?_
              rotate_left
              · intro w'
                go_simp
                with_reducible rfl
              rotate_left
              · simp only [Act.put, List.setIfInBounds_toArray, List.set_cons_zero, List.set_cons_succ, i64_w, i32_w]
                rfl
              refine pure_ (i := 5) (N := some 78) (v := ?_) (a' := ?_) #[true, true, true, true, true, true, false, false, false, false, false, false, false, false, false, false, false, false, false, false, false, false, false] rfl rfl (by kernel_rfl) (fun _ _ _ h => h) (Or.inl ⟨by rfl, ?_⟩) ?_ ?_
              rotate_left
              · intro w'
                go_simp
                with_reducible rfl
              rotate_left
              · simp only [Act.put, List.setIfInBounds_toArray, List.set_cons_zero, List.set_cons_succ, i64_w, i32_w]
                rfl
              refine pure_ (i := 6) (N := some 79) (v := ?_) (a' := ?_) #[true, true, true, true, true, true, true, false, false, false, false, false, false, false, false, false, false, false, false, false, false, false, false] rfl rfl (by kernel_rfl) (fun _ _ _ h => h) (Or.inl ⟨by rfl, ?_⟩) ?_ ?_
              rotate_left
              · intro w'
                go_simp
                with_reducible rfl
              rotate_left
              · simp only [Act.put, List.setIfInBounds_toArray, List.set_cons_zero, List.set_cons_succ, i64_w, i32_w]
                rfl
              refine pure_ (i := 7) (N := some 80) (v := ?_) (a' := ?_) #[true, true, true, true, true, true, true, true, false, false, false, false, false, false, false, false, false, false, false, false, false, false, false] rfl rfl (by kernel_rfl) (fun _ _ _ h => h) (Or.inl ⟨by rfl, ?_⟩) ?_ ?_
              rotate_left
              · intro w'
                go_simp
                with_reducible rfl
              rotate_left
              · simp only [Act.put, List.setIfInBounds_toArray, List.set_cons_zero, List.set_cons_succ, i64_w, i32_w]
                rfl
              refine pure_ (i := 8) (N := some 81) (v := ?_) (a' := ?_) #[true, true, true, true, true, true, true, true, true, false, false, false, false, false, false, false, false, false, false, false, false, false, false] rfl rfl (by kernel_rfl) (fun _ _ _ h => h) (Or.inl ⟨by rfl, ?_⟩) ?_ ?_
              rotate_left
              · intro w'
                go_simp
                with_reducible rfl
              rotate_left
              · simp only [Act.put, List.setIfInBounds_toArray, List.set_cons_zero, List.set_cons_succ, i64_w, i32_w]
                rfl
              refine take_ (i := 9) (N := some 82) (v := ?_) (a' := ?_) #[true, true, true, true, true, true, true, true, true, true, false, false, false, false, false, false, false, false, false, false, false, false, false] rfl rfl (by kernel_rfl) (fun _ _ _ h => h) (Or.inl ⟨by rfl, ?_⟩) hHeld ?_ ?_
              rotate_left
              · rintro w' ⟨s0, s1, s2, s3, s4, s5, s6, s7, s8, s9, s10, s11, s12, s13, s14, s15, s16, s17, s18, s19, s20, s21, s22, s23, s24, s25⟩
                go_simp
                with_reducible rfl
              rotate_left
              · simp only [Act.put, List.setIfInBounds_toArray, List.set_cons_zero, List.set_cons_succ, i64_w, i32_w]
                rfl
              refine pure_ (i := 10) (N := some 83) (v := ?_) (a' := ?_) #[true, true, true, true, true, true, true, true, true, true, true, false, false, false, false, false, false, false, false, false, false, false, false] rfl rfl (by kernel_rfl) (fun _ _ _ h => h) (Or.inl ⟨by rfl, ?_⟩) ?_ ?_
              rotate_left
              · intro w'
                go_simp
                with_reducible rfl
              rotate_left
              · simp only [Act.put, List.setIfInBounds_toArray, List.set_cons_zero, List.set_cons_succ, i64_w, i32_w]
                rfl
              refine pure_ (i := 11) (N := some 84) (v := ?_) (a' := ?_) #[true, true, true, true, true, true, true, true, true, true, true, true, false, false, false, false, false, false, false, false, false, false, false] rfl rfl (by kernel_rfl) (fun _ _ _ h => h) (Or.inl ⟨by rfl, ?_⟩) ?_ ?_
              rotate_left
              · intro w'
                go_simp
                with_reducible rfl
              rotate_left
              · simp only [Act.put, List.setIfInBounds_toArray, List.set_cons_zero, List.set_cons_succ, i64_w, i32_w]
                rfl
              refine pure_ (i := 12) (N := some 85) (v := undef) (a' := ?_) #[true, true, true, true, true, true, true, true, true, true, true, true, true, false, false, false, false, false, false, false, false, false, false] rfl rfl (by kernel_rfl) (fun _ _ _ h => h) (Or.inr ⟨by rfl, rfl⟩) ?_ ?_
              rotate_left
              · simp only [Act.put, List.setIfInBounds_toArray, List.set_cons_zero, List.set_cons_succ, i64_w, i32_w]
                rfl
              refine pure_ (i := 13) (N := some 86) (v := undef) (a' := ?_) #[true, true, true, true, true, true, true, true, true, true, true, true, true, true, false, false, false, false, false, false, false, false, false] rfl rfl (by kernel_rfl) (fun _ _ _ h => h) (Or.inr ⟨by rfl, rfl⟩) ?_ ?_
              rotate_left
              · simp only [Act.put, List.setIfInBounds_toArray, List.set_cons_zero, List.set_cons_succ, i64_w, i32_w]
                rfl
              refine pure_ (i := 14) (N := some 87) (v := undef) (a' := ?_) #[true, true, true, true, true, true, true, true, true, true, true, true, true, true, true, false, false, false, false, false, false, false, false] rfl rfl (by kernel_rfl) (fun _ _ _ h => h) (Or.inr ⟨by rfl, rfl⟩) ?_ ?_
              rotate_left
              · simp only [Act.put, List.setIfInBounds_toArray, List.set_cons_zero, List.set_cons_succ, i64_w, i32_w]
                rfl
              refine pure_ (i := 15) (N := some 88) (v := undef) (a' := ?_) #[true, true, true, true, true, true, true, true, true, true, true, true, true, true, true, true, false, false, false, false, false, false, false] rfl rfl (by kernel_rfl) (fun _ _ _ h => h) (Or.inr ⟨by rfl, rfl⟩) ?_ ?_
              rotate_left
              · simp only [Act.put, List.setIfInBounds_toArray, List.set_cons_zero, List.set_cons_succ, i64_w, i32_w]
                rfl
              refine pure_ (i := 16) (N := some 89) (v := undef) (a' := ?_) #[true, true, true, true, true, true, true, true, true, true, true, true, true, true, true, true, true, false, false, false, false, false, false] rfl rfl (by kernel_rfl) (fun _ _ _ h => h) (Or.inr ⟨by rfl, rfl⟩) ?_ ?_
              rotate_left
              · simp only [Act.put, List.setIfInBounds_toArray, List.set_cons_zero, List.set_cons_succ, i64_w, i32_w]
                rfl
              refine pure_ (i := 17) (N := some 90) (v := undef) (a' := ?_) #[true, true, true, true, true, true, true, true, true, true, true, true, true, true, true, true, true, true, false, false, false, false, false] rfl rfl (by kernel_rfl) (fun _ _ _ h => h) (Or.inr ⟨by rfl, rfl⟩) ?_ ?_
              rotate_left
              · simp only [Act.put, List.setIfInBounds_toArray, List.set_cons_zero, List.set_cons_succ, i64_w, i32_w]
                rfl
              refine pure_ (i := 18) (N := some 91) (v := undef) (a' := ?_) #[true, true, true, true, true, true, true, true, true, true, true, true, true, true, true, true, true, true, true, false, false, false, false] rfl rfl (by kernel_rfl) (fun _ _ _ h => h) (Or.inr ⟨by rfl, rfl⟩) ?_ ?_
              rotate_left
              · simp only [Act.put, List.setIfInBounds_toArray, List.set_cons_zero, List.set_cons_succ, i64_w, i32_w]
                rfl
              refine pure_ (i := 19) (N := some 92) (v := undef) (a' := ?_) #[true, true, true, true, true, true, true, true, true, true, true, true, true, true, true, true, true, true, true, true, false, false, false] rfl rfl (by kernel_rfl) (fun _ _ _ h => h) (Or.inr ⟨by rfl, rfl⟩) ?_ ?_
              rotate_left
              · simp only [Act.put, List.setIfInBounds_toArray, List.set_cons_zero, List.set_cons_succ, i64_w, i32_w]
                rfl
              refine pure_ (i := 20) (N := some 93) (v := undef) (a' := ?_) #[true, true, true, true, true, true, true, true, true, true, true, true, true, true, true, true, true, true, true, true, true, false, false] rfl rfl (by kernel_rfl) (fun _ _ _ h => h) (Or.inr ⟨by rfl, rfl⟩) ?_ ?_
              rotate_left
              · simp only [Act.put, List.setIfInBounds_toArray, List.set_cons_zero, List.set_cons_succ, i64_w, i32_w]
                rfl
              refine pure_ (i := 21) (N := some 94) (v := ?_) (a' := ?_) #[true, true, true, true, true, true, true, true, true, true, true, true, true, true, true, true, true, true, true, true, true, true, false] rfl rfl (by kernel_rfl) (fun _ _ _ h => h) (Or.inl ⟨by rfl, ?_⟩) ?_ ?_
              rotate_left
              · intro w'
                go_simp
                with_reducible rfl
              rotate_left
              · simp only [Act.put, List.setIfInBounds_toArray, List.set_cons_zero, List.set_cons_succ, i64_w, i32_w]
                rfl
              refine pure_ (i := 22) (N := some 95) (v := ?_) (a' := ?_) #[true, true, true, true, true, true, true, true, true, true, true, true, true, true, true, true, true, true, true, true, true, true, true] rfl rfl (by kernel_rfl) (fun _ _ _ h => h) (Or.inl ⟨by rfl, ?_⟩) ?_ ?_
              rotate_left
              · intro w'
                go_simp
                with_reducible rfl
              rotate_left
              · simp only [Act.put, List.setIfInBounds_toArray, List.set_cons_zero, List.set_cons_succ, i64_w, i32_w]
                rfl
              refine done_ (by kernel_rfl) ?_
              replace HL := Lib.hid HL.out.drew
              replace HF := Lib.hid HF.out.drew
              replace HP := Lib.hid HP.out.drew
              replace HW := Lib.hid HW.out.drew
              replace HB := Lib.hid (b_drew HB.out)
              generalize wc.drew = wd at *
              have F3 : decide (nx ≤ o0) = false := decide_eq_false (by have := grow_open HKA.out HGA.out HNO.out.1 (.inl HNO.out.2); dsimp only at this; omega)
              go_upto_region 19 with fail
              refine start_ (n := 8) (S := fun w' => w'.cell? ⟨w1.heap.size, 0, none⟩ = some (.int .i64 lx) ∧ w'.cell? ⟨w1.heap.size, 1, none⟩ = some (.int .i64 rx) ∧ w'.cell? ⟨w1.heap.size, 2, none⟩ = some (.int .i64 ex) ∧ w'.cell? ⟨w1.heap.size, 3, none⟩ = some (.int .i64 nx) ∧ w'.cell? ⟨w1.heap.size, 4, none⟩ = some (.int .i64 px) ∧ w'.cell? ⟨w1.heap.size, 5, none⟩ = some (.int .i64 dx) ∧ w'.cell? ⟨w1.heap.size, 6, none⟩ = some (.int .i64 ly) ∧ w'.cell? ⟨w1.heap.size, 7, none⟩ = some (.int .i64 ry) ∧ w'.cell? ⟨w1.heap.size, 8, none⟩ = some (.int .i64 ey) ∧ w'.cell? ⟨w1.heap.size, 9, none⟩ = some (.int .i64 ny) ∧ w'.cell? ⟨w1.heap.size, 10, none⟩ = some (.int .i64 py) ∧ w'.cell? ⟨w1.heap.size, 11, none⟩ = some (.int .i64 dy) ∧ w'.cell? ⟨bf, 0, none⟩ = some (.int .i64 l) ∧ w'.cell? ⟨bf, 1, none⟩ = some (.int .i64 r) ∧ w'.cell? ⟨bf, 2, none⟩ = some (.int .i64 e) ∧ w'.cell? ⟨bf, 3, none⟩ = some (.int .i64 n') ∧ w'.cell? ⟨bf, 4, none⟩ = some (.int .i64 p) ∧ w'.cell? ⟨bf, 5, none⟩ = some (.int .i64 d) ∧ w'.cell? ⟨bf, 6, none⟩ = some (.int .i64 l2) ∧ w'.cell? ⟨bf, 7, none⟩ = some (.int .i64 r2) ∧ w'.cell? ⟨bf, 8, none⟩ = some (.int .i64 e2) ∧ w'.cell? ⟨bf, 9, none⟩ = some (.int .i64 n2) ∧ w'.cell? ⟨bf, 10, none⟩ = some (.int .i64 p2) ∧ w'.cell? ⟨bf, 11, none⟩ = some (.int .i64 d2) ∧ w'.cell? ⟨w1.heap.size + 1, 0, none⟩ = some (.int .i64 o0) ∧ w'.cell? ⟨w1.heap.size + 1, 1, none⟩ = some (.int .i64 o1)) (ds := []) #[false, false, false, false, false, false, false, false] (by kernel_rfl) rfl rfl ⟨(HL.out.drew.cell 0), (HL.out.drew.cell 1), (HL.out.drew.cell 2), (HL.out.drew.cell 3), (HL.out.drew.cell 4), (HL.out.drew.cell 5), (HL.out.drew.cell 6), (HL.out.drew.cell 7), (HL.out.drew.cell 8), (HL.out.drew.cell 9), (HL.out.drew.cell 10), (HL.out.drew.cell 11), (HF.out.drew.cell 0), (HF.out.drew.cell 1), (HF.out.drew.cell 2), (HF.out.drew.cell 3), (HF.out.drew.cell 4), (HF.out.drew.cell 5), (HF.out.drew.cell 6), (HF.out.drew.cell 7), (HF.out.drew.cell 8), (HF.out.drew.cell 9), (HF.out.drew.cell 10), (HF.out.drew.cell 11), (HP.out.drew.cell 0), (HP.out.drew.cell 1)⟩ (fun hHeld => ?_)
              refine pure_ (i := 0) (N := some 96) (v := ?_) (a' := ?_) #[true, false, false, false, false, false, false, false] rfl rfl (by kernel_rfl) (fun _ _ _ h => h) (Or.inl ⟨by rfl, ?_⟩) ?_ ?_
              rotate_left
              · intro w'
                go_simp
                with_reducible rfl
              rotate_left
              · simp only [Act.put, List.setIfInBounds_toArray, List.set_cons_zero, List.set_cons_succ, i64_w, i32_w]
                rfl
              refine pure_ (i := 1) (N := some 97) (v := ?_) (a' := ?_) #[true, true, false, false, false, false, false, false] rfl rfl (by kernel_rfl) (fun _ _ _ h => h) (Or.inl ⟨by rfl, ?_⟩) ?_ ?_
              rotate_left
              · intro w'
                go_simp
                with_reducible rfl
              rotate_left
              · simp only [Act.put, List.setIfInBounds_toArray, List.set_cons_zero, List.set_cons_succ, i64_w, i32_w]
                rfl
              refine pure_ (i := 2) (N := some 98) (v := ?_) (a' := ?_) #[true, true, true, false, false, false, false, false] rfl rfl (by kernel_rfl) (fun _ _ _ h => h) (Or.inl ⟨by rfl, ?_⟩) ?_ ?_
              rotate_left
              · intro w'
                go_simp
                with_reducible rfl
              rotate_left
              · simp only [Act.put, List.setIfInBounds_toArray, List.set_cons_zero, List.set_cons_succ, i64_w, i32_w]
                rfl
              refine pure_ (i := 4) (N := some 100) (v := ?_) (a' := ?_) #[true, true, true, false, true, false, false, false] rfl rfl (by kernel_rfl) (fun _ _ _ h => h) (Or.inl ⟨by rfl, ?_⟩) ?_ ?_
              rotate_left
              · intro w'
                go_simp
                with_reducible rfl
              rotate_left
              · simp only [Act.put, List.setIfInBounds_toArray, List.set_cons_zero, List.set_cons_succ, i64_w, i32_w]
                rfl
              refine pure_ (i := 5) (N := some 101) (v := ?_) (a' := ?_) #[true, true, true, false, true, true, false, false] rfl rfl (by kernel_rfl) (fun _ _ _ h => h) (Or.inl ⟨by rfl, ?_⟩) ?_ ?_
              rotate_left
              · intro w'
                go_simp
                with_reducible rfl
              rotate_left
              · simp only [Act.put, List.setIfInBounds_toArray, List.set_cons_zero, List.set_cons_succ, i64_w, i32_w]
                rfl
              refine take_ (i := 3) (N := some 99) (v := ?_) (a' := ?_) #[true, true, true, true, true, true, false, false] rfl rfl (by kernel_rfl) (fun _ _ _ h => h) (Or.inl ⟨by rfl, ?_⟩) hHeld ?_ ?_
              rotate_left
              · rintro w' ⟨s0, s1, s2, s3, s4, s5, s6, s7, s8, s9, s10, s11, s12, s13, s14, s15, s16, s17, s18, s19, s20, s21, s22, s23, s24, s25⟩
                go_simp
                with_reducible rfl
              rotate_left
              · simp only [Act.put, List.setIfInBounds_toArray, List.set_cons_zero, List.set_cons_succ, i64_w, i32_w]
                rfl
              refine take_ (i := 6) (N := some 102) (v := ?_) (a' := ?_) #[true, true, true, true, true, true, true, false] rfl rfl (by kernel_rfl) (fun _ _ _ h => h) (Or.inl ⟨by rfl, ?_⟩) hHeld ?_ ?_
              rotate_left
              · rintro w' ⟨s0, s1, s2, s3, s4, s5, s6, s7, s8, s9, s10, s11, s12, s13, s14, s15, s16, s17, s18, s19, s20, s21, s22, s23, s24, s25⟩
                go_simp
                with_reducible rfl
              rotate_left
              · simp only [Act.put, List.setIfInBounds_toArray, List.set_cons_zero, List.set_cons_succ, i64_w, i32_w]
                rfl
              refine pure_ (i := 7) (N := some 103) (v := ?_) (a' := ?_) #[true, true, true, true, true, true, true, true] rfl rfl (by kernel_rfl) (fun _ _ _ h => h) (Or.inl ⟨by rfl, ?_⟩) ?_ ?_
              rotate_left
              · intro w'
                go_simp
                with_reducible rfl
              rotate_left
              · simp only [Act.put, List.setIfInBounds_toArray, List.set_cons_zero, List.set_cons_succ, i64_w, i32_w]
                rfl
              refine done_ (by kernel_rfl) ?_
              replace HL := Lib.hid HL.out.drew
              replace HF := Lib.hid HF.out.drew
              replace HP := Lib.hid HP.out.drew
              replace HW := Lib.hid HW.out.drew
              replace HB := Lib.hid (b_drew HB.out)
              generalize wd.drew = we at *
              have hL := HL.out
              have hP := HP.out
              obtain ⟨y0, y1, y2, y3, y4, y5, y6, y7, y8, y9, y10, y11, z0, z1, z2, z3, z4, z5, z6, z7, z8, z9, z10, z11⟩ := hL.twelve
              have g0 := hP.cell 0
              have g1 := hP.cell 1
              have g2 := hP.frozen 0
              have g3 := hP.frozen 1
              have hP4 := Lib.hid (hP.set 0 (.int .i64 nx))
              have hL4 := Lib.hid (hL.far (p := ⟨w1.heap.size + 1, 0, none⟩) (by simp) (.int .i64 nx))
              have hF4 := Lib.hid (HF.out.far (p := ⟨w1.heap.size + 1, 0, none⟩) (by show bf ≠ w1.heap.size + 1; omega) (.int .i64 nx))
              have hW4 := Lib.hid (HW.out.far (g := w1.heap.size + 1) (i := 0) (u := .int .i64 nx) (by omega))
              have hB4 := Lib.hid (b_set (g := w1.heap.size + 1) (j := 0) (v := .int .i64 nx) HB.out (by have := LB.out; omega))
              clear hL hP HL HF HP HW HB
              go_wp2_with fail
              go_roundg (gk - 1)
              case measure => omega
              case rel => exact ⟨0 + 1, nx, o1, by omega, by go_num, hL4.out, hF4.out, hP4.out, hW4.out, hB4.out, by rw [if_neg (by omega)]; unfold opn; rw [if_pos (⟨HNO.out.1, .inl HNO.out.2⟩)], by rw [if_pos (by omega)]⟩
          · have t1 : (px == 2) = false := beq_eq_false_iff_ne.2 hT
            have HNO := Lib.hid hT
            clear hT
            refine start_ (n := 23) (S := fun w' => w'.cell? ⟨w1.heap.size, 0, none⟩ = some (.int .i64 lx) ∧ w'.cell? ⟨w1.heap.size, 1, none⟩ = some (.int .i64 rx) ∧ w'.cell? ⟨w1.heap.size, 2, none⟩ = some (.int .i64 ex) ∧ w'.cell? ⟨w1.heap.size, 3, none⟩ = some (.int .i64 nx) ∧ w'.cell? ⟨w1.heap.size, 4, none⟩ = some (.int .i64 px) ∧ w'.cell? ⟨w1.heap.size, 5, none⟩ = some (.int .i64 dx) ∧ w'.cell? ⟨w1.heap.size, 6, none⟩ = some (.int .i64 ly) ∧ w'.cell? ⟨w1.heap.size, 7, none⟩ = some (.int .i64 ry) ∧ w'.cell? ⟨w1.heap.size, 8, none⟩ = some (.int .i64 ey) ∧ w'.cell? ⟨w1.heap.size, 9, none⟩ = some (.int .i64 ny) ∧ w'.cell? ⟨w1.heap.size, 10, none⟩ = some (.int .i64 py) ∧ w'.cell? ⟨w1.heap.size, 11, none⟩ = some (.int .i64 dy) ∧ w'.cell? ⟨bf, 0, none⟩ = some (.int .i64 l) ∧ w'.cell? ⟨bf, 1, none⟩ = some (.int .i64 r) ∧ w'.cell? ⟨bf, 2, none⟩ = some (.int .i64 e) ∧ w'.cell? ⟨bf, 3, none⟩ = some (.int .i64 n') ∧ w'.cell? ⟨bf, 4, none⟩ = some (.int .i64 p) ∧ w'.cell? ⟨bf, 5, none⟩ = some (.int .i64 d) ∧ w'.cell? ⟨bf, 6, none⟩ = some (.int .i64 l2) ∧ w'.cell? ⟨bf, 7, none⟩ = some (.int .i64 r2) ∧ w'.cell? ⟨bf, 8, none⟩ = some (.int .i64 e2) ∧ w'.cell? ⟨bf, 9, none⟩ = some (.int .i64 n2) ∧ w'.cell? ⟨bf, 10, none⟩ = some (.int .i64 p2) ∧ w'.cell? ⟨bf, 11, none⟩ = some (.int .i64 d2) ∧ w'.cell? ⟨w1.heap.size + 1, 0, none⟩ = some (.int .i64 o0) ∧ w'.cell? ⟨w1.heap.size + 1, 1, none⟩ = some (.int .i64 o1)) (ds := []) #[false, false, false, false, false, false, false, false, false, false, false, false, false, false, false, false, false, false, false, false, false, false, false] (by kernel_rfl) rfl rfl ⟨(HL.out.drew.cell 0), (HL.out.drew.cell 1), (HL.out.drew.cell 2), (HL.out.drew.cell 3), (HL.out.drew.cell 4), (HL.out.drew.cell 5), (HL.out.drew.cell 6), (HL.out.drew.cell 7), (HL.out.drew.cell 8), (HL.out.drew.cell 9), (HL.out.drew.cell 10), (HL.out.drew.cell 11), (HF.out.drew.cell 0), (HF.out.drew.cell 1), (HF.out.drew.cell 2), (HF.out.drew.cell 3), (HF.out.drew.cell 4), (HF.out.drew.cell 5), (HF.out.drew.cell 6), (HF.out.drew.cell 7), (HF.out.drew.cell 8), (HF.out.drew.cell 9), (HF.out.drew.cell 10), (HF.out.drew.cell 11), (HP.out.drew.cell 0), (HP.out.drew.cell 1)⟩ (fun hHeld => ?_)
            refine pure_ (i := 0) (N := some 73) (v := ?_) (a' := ?_) #[true, false, false, false, false, false, false, false, false, false, false, false, false, false, false, false, false, false, false, false, false, false, false] rfl rfl (by kernel_rfl) (fun _ _ _ h => h) (Or.inl ⟨by rfl, ?_⟩) ?_ ?_
            rotate_left
            · intro w'
              go_simp
              with_reducible rfl
            rotate_left
            · simp only [Act.put, List.setIfInBounds_toArray, List.set_cons_zero, List.set_cons_succ, i64_w, i32_w]
              rfl
            refine pure_ (i := 1) (N := some 74) (v := ?_) (a' := ?_) #[true, true, false, false, false, false, false, false, false, false, false, false, false, false, false, false, false, false, false, false, false, false, false] rfl rfl (by kernel_rfl) (fun _ _ _ h => h) (Or.inl ⟨by rfl, ?_⟩) ?_ ?_
            rotate_left
            · intro w'
              go_simp
              with_reducible rfl
            rotate_left
            · simp only [Act.put, List.setIfInBounds_toArray, List.set_cons_zero, List.set_cons_succ, i64_w, i32_w]
              rfl
            refine pure_ (i := 2) (N := some 75) (v := ?_) (a' := ?_) #[true, true, true, false, false, false, false, false, false, false, false, false, false, false, false, false, false, false, false, false, false, false, false] rfl rfl (by kernel_rfl) (fun _ _ _ h => h) (Or.inl ⟨by rfl, ?_⟩) ?_ ?_
            rotate_left
            · intro w'
              go_simp
              with_reducible rfl
            rotate_left
            · simp only [Act.put, List.setIfInBounds_toArray, List.set_cons_zero, List.set_cons_succ, i64_w, i32_w]
              rfl
            refine take_ (i := 3) (N := some 76) (v := ?_) (a' := ?_) #[true, true, true, true, false, false, false, false, false, false, false, false, false, false, false, false, false, false, false, false, false, false, false] rfl rfl (by kernel_rfl) (fun _ _ _ h => h) (Or.inl ⟨by rfl, ?_⟩) hHeld ?_ ?_
            rotate_left
            · rintro w' ⟨s0, s1, s2, s3, s4, s5, s6, s7, s8, s9, s10, s11, s12, s13, s14, s15, s16, s17, s18, s19, s20, s21, s22, s23, s24, s25⟩
              go_simp
              with_reducible rfl
            rotate_left
            · simp only [Act.put, List.setIfInBounds_toArray, List.set_cons_zero, List.set_cons_succ, i64_w, i32_w]
              rfl
            refine pure_ (i := 4) (N := some 77) (v := ?_) (a' := ?_) #[true, true, true, true, true, false, false, false, false, false, false, false, false, false, false, false, false, false, false, false, false, false, false] rfl rfl (by kernel_rfl) (fun _ _ _ h => h) (Or.inl ⟨by rfl, ?_⟩) ?_ ?_
            rotate_left
            · intro w'
              go_simp
              with_reducible rfl
            rotate_left
            · simp only [Act.put, List.setIfInBounds_toArray, List.set_cons_zero, List.set_cons_succ, i64_w, i32_w]
              rfl
            refine pure_ (i := 5) (N := some 78) (v := ?_) (a' := ?_) #[true, true, true, true, true, true, false, false, false, false, false, false, false, false, false, false, false, false, false, false, false, false, false] rfl rfl (by kernel_rfl) (fun _ _ _ h => h) (Or.inl ⟨by rfl, ?_⟩) ?_ ?_
            rotate_left
            · intro w'
              go_simp
              with_reducible rfl
            rotate_left
            · simp only [Act.put, List.setIfInBounds_toArray, List.set_cons_zero, List.set_cons_succ, i64_w, i32_w]
              rfl
            refine pure_ (i := 6) (N := some 79) (v := undef) (a' := ?_) #[true, true, true, true, true, true, true, false, false, false, false, false, false, false, false, false, false, false, false, false, false, false, false] rfl rfl (by kernel_rfl) (fun _ _ _ h => h) (Or.inr ⟨by rfl, rfl⟩) ?_ ?_
            rotate_left
            · simp only [Act.put, List.setIfInBounds_toArray, List.set_cons_zero, List.set_cons_succ, i64_w, i32_w]
              rfl
            refine pure_ (i := 7) (N := some 80) (v := undef) (a' := ?_) #[true, true, true, true, true, true, true, true, false, false, false, false, false, false, false, false, false, false, false, false, false, false, false] rfl rfl (by kernel_rfl) (fun _ _ _ h => h) (Or.inr ⟨by rfl, rfl⟩) ?_ ?_
            rotate_left
            · simp only [Act.put, List.setIfInBounds_toArray, List.set_cons_zero, List.set_cons_succ, i64_w, i32_w]
              rfl
            refine pure_ (i := 8) (N := some 81) (v := undef) (a' := ?_) #[true, true, true, true, true, true, true, true, true, false, false, false, false, false, false, false, false, false, false, false, false, false, false] rfl rfl (by kernel_rfl) (fun _ _ _ h => h) (Or.inr ⟨by rfl, rfl⟩) ?_ ?_
            rotate_left
            · simp only [Act.put, List.setIfInBounds_toArray, List.set_cons_zero, List.set_cons_succ, i64_w, i32_w]
              rfl
            refine pure_ (i := 9) (N := some 82) (v := undef) (a' := ?_) #[true, true, true, true, true, true, true, true, true, true, false, false, false, false, false, false, false, false, false, false, false, false, false] rfl rfl (by kernel_rfl) (fun _ _ _ h => h) (Or.inr ⟨by rfl, rfl⟩) ?_ ?_
            rotate_left
            · simp only [Act.put, List.setIfInBounds_toArray, List.set_cons_zero, List.set_cons_succ, i64_w, i32_w]
              rfl
            refine pure_ (i := 10) (N := some 83) (v := undef) (a' := ?_) #[true, true, true, true, true, true, true, true, true, true, true, false, false, false, false, false, false, false, false, false, false, false, false] rfl rfl (by kernel_rfl) (fun _ _ _ h => h) (Or.inr ⟨by rfl, rfl⟩) ?_ ?_
            rotate_left
            · simp only [Act.put, List.setIfInBounds_toArray, List.set_cons_zero, List.set_cons_succ, i64_w, i32_w]
              rfl
            refine pure_ (i := 11) (N := some 84) (v := undef) (a' := ?_) #[true, true, true, true, true, true, true, true, true, true, true, true, false, false, false, false, false, false, false, false, false, false, false] rfl rfl (by kernel_rfl) (fun _ _ _ h => h) (Or.inr ⟨by rfl, rfl⟩) ?_ ?_
            rotate_left
            · simp only [Act.put, List.setIfInBounds_toArray, List.set_cons_zero, List.set_cons_succ, i64_w, i32_w]
              rfl
            refine pure_ (i := 12) (N := some 85) (v := undef) (a' := ?_) #[true, true, true, true, true, true, true, true, true, true, true, true, true, false, false, false, false, false, false, false, false, false, false] rfl rfl (by kernel_rfl) (fun _ _ _ h => h) (Or.inr ⟨by rfl, rfl⟩) ?_ ?_
            rotate_left
            · simp only [Act.put, List.setIfInBounds_toArray, List.set_cons_zero, List.set_cons_succ, i64_w, i32_w]
              rfl
            refine pure_ (i := 13) (N := some 86) (v := undef) (a' := ?_) #[true, true, true, true, true, true, true, true, true, true, true, true, true, true, false, false, false, false, false, false, false, false, false] rfl rfl (by kernel_rfl) (fun _ _ _ h => h) (Or.inr ⟨by rfl, rfl⟩) ?_ ?_
            rotate_left
            · simp only [Act.put, List.setIfInBounds_toArray, List.set_cons_zero, List.set_cons_succ, i64_w, i32_w]
              rfl
            refine pure_ (i := 14) (N := some 87) (v := undef) (a' := ?_) #[true, true, true, true, true, true, true, true, true, true, true, true, true, true, true, false, false, false, false, false, false, false, false] rfl rfl (by kernel_rfl) (fun _ _ _ h => h) (Or.inr ⟨by rfl, rfl⟩) ?_ ?_
            rotate_left
            · simp only [Act.put, List.setIfInBounds_toArray, List.set_cons_zero, List.set_cons_succ, i64_w, i32_w]
              rfl
            refine pure_ (i := 15) (N := some 88) (v := undef) (a' := ?_) #[true, true, true, true, true, true, true, true, true, true, true, true, true, true, true, true, false, false, false, false, false, false, false] rfl rfl (by kernel_rfl) (fun _ _ _ h => h) (Or.inr ⟨by rfl, rfl⟩) ?_ ?_
            rotate_left
            · simp only [Act.put, List.setIfInBounds_toArray, List.set_cons_zero, List.set_cons_succ, i64_w, i32_w]
              rfl
            refine pure_ (i := 16) (N := some 89) (v := undef) (a' := ?_) #[true, true, true, true, true, true, true, true, true, true, true, true, true, true, true, true, true, false, false, false, false, false, false] rfl rfl (by kernel_rfl) (fun _ _ _ h => h) (Or.inr ⟨by rfl, rfl⟩) ?_ ?_
            rotate_left
            · simp only [Act.put, List.setIfInBounds_toArray, List.set_cons_zero, List.set_cons_succ, i64_w, i32_w]
              rfl
            refine pure_ (i := 17) (N := some 90) (v := undef) (a' := ?_) #[true, true, true, true, true, true, true, true, true, true, true, true, true, true, true, true, true, true, false, false, false, false, false] rfl rfl (by kernel_rfl) (fun _ _ _ h => h) (Or.inr ⟨by rfl, rfl⟩) ?_ ?_
            rotate_left
            · simp only [Act.put, List.setIfInBounds_toArray, List.set_cons_zero, List.set_cons_succ, i64_w, i32_w]
              rfl
            refine pure_ (i := 18) (N := some 91) (v := undef) (a' := ?_) #[true, true, true, true, true, true, true, true, true, true, true, true, true, true, true, true, true, true, true, false, false, false, false] rfl rfl (by kernel_rfl) (fun _ _ _ h => h) (Or.inr ⟨by rfl, rfl⟩) ?_ ?_
            rotate_left
            · simp only [Act.put, List.setIfInBounds_toArray, List.set_cons_zero, List.set_cons_succ, i64_w, i32_w]
              rfl
            refine pure_ (i := 19) (N := some 92) (v := undef) (a' := ?_) #[true, true, true, true, true, true, true, true, true, true, true, true, true, true, true, true, true, true, true, true, false, false, false] rfl rfl (by kernel_rfl) (fun _ _ _ h => h) (Or.inr ⟨by rfl, rfl⟩) ?_ ?_
            rotate_left
            · simp only [Act.put, List.setIfInBounds_toArray, List.set_cons_zero, List.set_cons_succ, i64_w, i32_w]
              rfl
            refine pure_ (i := 20) (N := some 93) (v := undef) (a' := ?_) #[true, true, true, true, true, true, true, true, true, true, true, true, true, true, true, true, true, true, true, true, true, false, false] rfl rfl (by kernel_rfl) (fun _ _ _ h => h) (Or.inr ⟨by rfl, rfl⟩) ?_ ?_
            rotate_left
            · simp only [Act.put, List.setIfInBounds_toArray, List.set_cons_zero, List.set_cons_succ, i64_w, i32_w]
              rfl
            refine pure_ (i := 21) (N := some 94) (v := undef) (a' := ?_) #[true, true, true, true, true, true, true, true, true, true, true, true, true, true, true, true, true, true, true, true, true, true, false] rfl rfl (by kernel_rfl) (fun _ _ _ h => h) (Or.inr ⟨by rfl, rfl⟩) ?_ ?_
            rotate_left
            · simp only [Act.put, List.setIfInBounds_toArray, List.set_cons_zero, List.set_cons_succ, i64_w, i32_w]
              rfl
            refine pure_ (i := 22) (N := some 95) (v := ?_) (a' := ?_) #[true, true, true, true, true, true, true, true, true, true, true, true, true, true, true, true, true, true, true, true, true, true, true] rfl rfl (by kernel_rfl) (fun _ _ _ h => h) (Or.inl ⟨by rfl, ?_⟩) ?_ ?_
            rotate_left
            · intro w'
              go_simp
              with_reducible rfl
            rotate_left
            · simp only [Act.put, List.setIfInBounds_toArray, List.set_cons_zero, List.set_cons_succ, i64_w, i32_w]
              rfl
            refine done_ (by kernel_rfl) ?_
            replace HL := Lib.hid HL.out.drew
            replace HF := Lib.hid HF.out.drew
            replace HP := Lib.hid HP.out.drew
            replace HW := Lib.hid HW.out.drew
            replace HB := Lib.hid (b_drew HB.out)
            generalize wc.drew = wd at *
            go_wp2_with fail
            go_roundg (gk - 1)
            case measure => omega
            case rel => exact ⟨0 + 1, o0, o1, by omega, by go_num, HL.out, HF.out, HP.out, HW.out, HB.out, by rw [if_neg (by omega)]; unfold opn; rw [if_neg (fun q => HNO.out q.1)], by rw [if_pos (by omega)]⟩
        by_cases hj1 : j = 1
        · obtain rfl : j = 1 := by omega
          have hpp := HO.out
          have hp1 : o1 = p1 := (show p1 = o1 by simpa using hpp.2).symm
          subst hp1
          have hp0 : p0 = opn ⟨l, r, e, n', p, d⟩ ⟨lx, rx, ex, nx, px, dx⟩ o0 := by simpa using hpp.1
          have HP0 := Lib.hid hp0
          clear hp0 hpp HO
          have F1 : decide (ny < n2) = false := decide_eq_false (by have := HKB.out.n; dsimp only at this; omega)
          have F2 : decide (ey < e2) = false := decide_eq_false (by have := HKB.out.e; dsimp only at this; omega)
          have HCK := Lib.hid (fun w => chk_ok HKB.out.ok w)
          have HL := Lib.hid hL
          have HF := Lib.hid hF
          have HP := Lib.hid hP
          have HW := Lib.hid hrow
          have HB := Lib.hid hb
          clear hL hF hP hrow hb
          go_upto_region 16 with fail
          refine start_ (n := 27) (S := fun w' => w'.cell? ⟨w1.heap.size, 0, none⟩ = some (.int .i64 lx) ∧ w'.cell? ⟨w1.heap.size, 1, none⟩ = some (.int .i64 rx) ∧ w'.cell? ⟨w1.heap.size, 2, none⟩ = some (.int .i64 ex) ∧ w'.cell? ⟨w1.heap.size, 3, none⟩ = some (.int .i64 nx) ∧ w'.cell? ⟨w1.heap.size, 4, none⟩ = some (.int .i64 px) ∧ w'.cell? ⟨w1.heap.size, 5, none⟩ = some (.int .i64 dx) ∧ w'.cell? ⟨w1.heap.size, 6, none⟩ = some (.int .i64 ly) ∧ w'.cell? ⟨w1.heap.size, 7, none⟩ = some (.int .i64 ry) ∧ w'.cell? ⟨w1.heap.size, 8, none⟩ = some (.int .i64 ey) ∧ w'.cell? ⟨w1.heap.size, 9, none⟩ = some (.int .i64 ny) ∧ w'.cell? ⟨w1.heap.size, 10, none⟩ = some (.int .i64 py) ∧ w'.cell? ⟨w1.heap.size, 11, none⟩ = some (.int .i64 dy) ∧ w'.cell? ⟨bf, 0, none⟩ = some (.int .i64 l) ∧ w'.cell? ⟨bf, 1, none⟩ = some (.int .i64 r) ∧ w'.cell? ⟨bf, 2, none⟩ = some (.int .i64 e) ∧ w'.cell? ⟨bf, 3, none⟩ = some (.int .i64 n') ∧ w'.cell? ⟨bf, 4, none⟩ = some (.int .i64 p) ∧ w'.cell? ⟨bf, 5, none⟩ = some (.int .i64 d) ∧ w'.cell? ⟨bf, 6, none⟩ = some (.int .i64 l2) ∧ w'.cell? ⟨bf, 7, none⟩ = some (.int .i64 r2) ∧ w'.cell? ⟨bf, 8, none⟩ = some (.int .i64 e2) ∧ w'.cell? ⟨bf, 9, none⟩ = some (.int .i64 n2) ∧ w'.cell? ⟨bf, 10, none⟩ = some (.int .i64 p2) ∧ w'.cell? ⟨bf, 11, none⟩ = some (.int .i64 d2) ∧ w'.cell? ⟨w1.heap.size + 1, 0, none⟩ = some (.int .i64 p0) ∧ w'.cell? ⟨w1.heap.size + 1, 1, none⟩ = some (.int .i64 o1)) (ds := []) #[false, false, false, false, false, false, false, false, false, false, false, false, false, false, false, false, false, false, false, false, false, false, false, false, false, false, false] (by kernel_rfl) rfl rfl ⟨(HL.out.drew.cell 0), (HL.out.drew.cell 1), (HL.out.drew.cell 2), (HL.out.drew.cell 3), (HL.out.drew.cell 4), (HL.out.drew.cell 5), (HL.out.drew.cell 6), (HL.out.drew.cell 7), (HL.out.drew.cell 8), (HL.out.drew.cell 9), (HL.out.drew.cell 10), (HL.out.drew.cell 11), (HF.out.drew.cell 0), (HF.out.drew.cell 1), (HF.out.drew.cell 2), (HF.out.drew.cell 3), (HF.out.drew.cell 4), (HF.out.drew.cell 5), (HF.out.drew.cell 6), (HF.out.drew.cell 7), (HF.out.drew.cell 8), (HF.out.drew.cell 9), (HF.out.drew.cell 10), (HF.out.drew.cell 11), (HP.out.drew.cell 0), (HP.out.drew.cell 1)⟩ (fun hHeld => ?_)
          refine pure_ (i := 0) (N := some 46) (v := ?_) (a' := ?_) #[true, false, false, false, false, false, false, false, false, false, false, false, false, false, false, false, false, false, false, false, false, false, false, false, false, false, false] rfl rfl (by kernel_rfl) (fun _ _ _ h => h) (Or.inl ⟨by rfl, ?_⟩) ?_ ?_
          rotate_left
          · intro w'
            go_simp
            with_reducible rfl
          rotate_left
          · simp only [Act.put, List.setIfInBounds_toArray, List.set_cons_zero, List.set_cons_succ, i64_w, i32_w]
            rfl
          refine pure_ (i := 1) (N := some 47) (v := ?_) (a' := ?_) #[true, true, false, false, false, false, false, false, false, false, false, false, false, false, false, false, false, false, false, false, false, false, false, false, false, false, false] rfl rfl (by kernel_rfl) (fun _ _ _ h => h) (Or.inl ⟨by rfl, ?_⟩) ?_ ?_
          rotate_left
          · intro w'
            go_simp
            with_reducible rfl
          rotate_left
          · simp only [Act.put, List.setIfInBounds_toArray, List.set_cons_zero, List.set_cons_succ, i64_w, i32_w]
            rfl
          refine pure_ (i := 2) (N := some 48) (v := ?_) (a' := ?_) #[true, true, true, false, false, false, false, false, false, false, false, false, false, false, false, false, false, false, false, false, false, false, false, false, false, false, false] rfl rfl (by kernel_rfl) (fun _ _ _ h => h) (Or.inl ⟨by rfl, ?_⟩) ?_ ?_
          rotate_left
          · intro w'
            go_simp
            with_reducible rfl
          rotate_left
          · simp only [Act.put, List.setIfInBounds_toArray, List.set_cons_zero, List.set_cons_succ, i64_w, i32_w]
            rfl
          refine pure_ (i := 4) (N := some 50) (v := ?_) (a' := ?_) #[true, true, true, false, true, false, false, false, false, false, false, false, false, false, false, false, false, false, false, false, false, false, false, false, false, false, false] rfl rfl (by kernel_rfl) (fun _ _ _ h => h) (Or.inl ⟨by rfl, ?_⟩) ?_ ?_
          rotate_left
          · intro w'
            go_simp
            with_reducible rfl
          rotate_left
          · simp only [Act.put, List.setIfInBounds_toArray, List.set_cons_zero, List.set_cons_succ, i64_w, i32_w]
            rfl
          refine pure_ (i := 5) (N := some 51) (v := ?_) (a' := ?_) #[true, true, true, false, true, true, false, false, false, false, false, false, false, false, false, false, false, false, false, false, false, false, false, false, false, false, false] rfl rfl (by kernel_rfl) (fun _ _ _ h => h) (Or.inl ⟨by rfl, ?_⟩) ?_ ?_
          rotate_left
          · intro w'
            go_simp
            with_reducible rfl
          rotate_left
          · simp only [Act.put, List.setIfInBounds_toArray, List.set_cons_zero, List.set_cons_succ, i64_w, i32_w]
            rfl
          refine pure_ (i := 6) (N := some 52) (v := ?_) (a' := ?_) #[true, true, true, false, true, true, true, false, false, false, false, false, false, false, false, false, false, false, false, false, false, false, false, false, false, false, false] rfl rfl (by kernel_rfl) (fun _ _ _ h => h) (Or.inl ⟨by rfl, ?_⟩) ?_ ?_
          rotate_left
          · intro w'
            go_simp
            with_reducible rfl
          rotate_left
          · simp only [Act.put, List.setIfInBounds_toArray, List.set_cons_zero, List.set_cons_succ, i64_w, i32_w]
            rfl
          refine take_ (i := 3) (N := some 49) (v := ?_) (a' := ?_) #[true, true, true, true, true, true, true, false, false, false, false, false, false, false, false, false, false, false, false, false, false, false, false, false, false, false, false] rfl rfl (by kernel_rfl) (fun _ _ _ h => h) (Or.inl ⟨by rfl, ?_⟩) hHeld ?_ ?_
          rotate_left
          · rintro w' ⟨s0, s1, s2, s3, s4, s5, s6, s7, s8, s9, s10, s11, s12, s13, s14, s15, s16, s17, s18, s19, s20, s21, s22, s23, s24, s25⟩
            go_simp
            with_reducible rfl
          rotate_left
          · simp only [Act.put, List.setIfInBounds_toArray, List.set_cons_zero, List.set_cons_succ, i64_w, i32_w]
            rfl
          refine take_ (i := 7) (N := some 53) (v := ?_) (a' := ?_) #[true, true, true, true, true, true, true, true, false, false, false, false, false, false, false, false, false, false, false, false, false, false, false, false, false, false, false] rfl rfl (by kernel_rfl) (fun _ _ _ h => h) (Or.inl ⟨by rfl, ?_⟩) hHeld ?_ ?_
          rotate_left
          · rintro w' ⟨s0, s1, s2, s3, s4, s5, s6, s7, s8, s9, s10, s11, s12, s13, s14, s15, s16, s17, s18, s19, s20, s21, s22, s23, s24, s25⟩
            go_simp
            with_reducible rfl
          rotate_left
          · simp only [Act.put, List.setIfInBounds_toArray, List.set_cons_zero, List.set_cons_succ, i64_w, i32_w]
            rfl
          refine pure_ (i := 8) (N := some 54) (v := ?_) (a' := ?_) #[true, true, true, true, true, true, true, true, true, false, false, false, false, false, false, false, false, false, false, false, false, false, false, false, false, false, false] rfl rfl (by kernel_rfl) (fun _ _ _ h => h) (Or.inl ⟨by rfl, ?_⟩) ?_ ?_
          rotate_left
          · intro w'
            go_simp
            with_reducible rfl
          rotate_left
          · simp only [Act.put, List.setIfInBounds_toArray, List.set_cons_zero, List.set_cons_succ, i64_w, i32_w]
            rfl
          refine pure_ (i := 9) (N := some 55) (v := ?_) (a' := ?_) #[true, true, true, true, true, true, true, true, true, true, false, false, false, false, false, false, false, false, false, false, false, false, false, false, false, false, false] rfl rfl (by kernel_rfl) (fun _ _ _ h => h) (Or.inl ⟨by rfl, ?_⟩) ?_ ?_
          rotate_left
          · intro w'
            go_simp
            with_reducible rfl
          rotate_left
          · simp only [Act.put, List.setIfInBounds_toArray, List.set_cons_zero, List.set_cons_succ, i64_w, i32_w]
            rfl
          refine pure_ (i := 10) (N := some 56) (v := ?_) (a' := ?_) #[true, true, true, true, true, true, true, true, true, true, true, false, false, false, false, false, false, false, false, false, false, false, false, false, false, false, false] rfl rfl (by kernel_rfl) (fun _ _ _ h => h) (Or.inl ⟨by rfl, ?_⟩) ?_ ?_
          rotate_left
          · intro w'
            go_simp
            with_reducible rfl
          rotate_left
          · simp only [Act.put, List.setIfInBounds_toArray, List.set_cons_zero, List.set_cons_succ, i64_w, i32_w]
            rfl
          refine pure_ (i := 11) (N := some 57) (v := ?_) (a' := ?_) #[true, true, true, true, true, true, true, true, true, true, true, true, false, false, false, false, false, false, false, false, false, false, false, false, false, false, false] rfl rfl (by kernel_rfl) (fun _ _ _ h => h) (Or.inl ⟨by rfl, ?_⟩) ?_ ?_
          rotate_left
          · intro w'
            go_simp
            with_reducible rfl
          rotate_left
          · simp only [Act.put, List.setIfInBounds_toArray, List.set_cons_zero, List.set_cons_succ, i64_w, i32_w]
            rfl
          refine pure_ (i := 12) (N := some 58) (v := ?_) (a' := ?_) #[true, true, true, true, true, true, true, true, true, true, true, true, true, false, false, false, false, false, false, false, false, false, false, false, false, false, false] rfl rfl (by kernel_rfl) (fun _ _ _ h => h) (Or.inl ⟨by rfl, ?_⟩) ?_ ?_
          rotate_left
          · intro w'
            go_simp
            with_reducible rfl
          rotate_left
          · simp only [Act.put, List.setIfInBounds_toArray, List.set_cons_zero, List.set_cons_succ, i64_w, i32_w]
            rfl
          refine pure_ (i := 14) (N := some 60) (v := ?_) (a' := ?_) #[true, true, true, true, true, true, true, true, true, true, true, true, true, false, true, false, false, false, false, false, false, false, false, false, false, false, false] rfl rfl (by kernel_rfl) (fun _ _ _ h => h) (Or.inl ⟨by rfl, ?_⟩) ?_ ?_
          rotate_left
          · intro w'
            go_simp
            with_reducible rfl
          rotate_left
          · simp only [Act.put, List.setIfInBounds_toArray, List.set_cons_zero, List.set_cons_succ, i64_w, i32_w]
            rfl
          refine pure_ (i := 15) (N := some 61) (v := ?_) (a' := ?_) #[true, true, true, true, true, true, true, true, true, true, true, true, true, false, true, true, false, false, false, false, false, false, false, false, false, false, false] rfl rfl (by kernel_rfl) (fun _ _ _ h => h) (Or.inl ⟨by rfl, ?_⟩) ?_ ?_
          rotate_left
          · intro w'
            go_simp
            with_reducible rfl
          rotate_left
          · simp only [Act.put, List.setIfInBounds_toArray, List.set_cons_zero, List.set_cons_succ, i64_w, i32_w]
            rfl
          refine pure_ (i := 16) (N := some 62) (v := ?_) (a' := ?_) #[true, true, true, true, true, true, true, true, true, true, true, true, true, false, true, true, true, false, false, false, false, false, false, false, false, false, false] rfl rfl (by kernel_rfl) (fun _ _ _ h => h) (Or.inl ⟨by rfl, ?_⟩) ?_ ?_
          rotate_left
          · intro w'
            go_simp
            with_reducible rfl
          rotate_left
          · simp only [Act.put, List.setIfInBounds_toArray, List.set_cons_zero, List.set_cons_succ, i64_w, i32_w]
            rfl
          refine take_ (i := 13) (N := some 59) (v := ?_) (a' := ?_) #[true, true, true, true, true, true, true, true, true, true, true, true, true, true, true, true, true, false, false, false, false, false, false, false, false, false, false] rfl rfl (by kernel_rfl) (fun _ _ _ h => h) (Or.inl ⟨by rfl, ?_⟩) hHeld ?_ ?_
          rotate_left
          · rintro w' ⟨s0, s1, s2, s3, s4, s5, s6, s7, s8, s9, s10, s11, s12, s13, s14, s15, s16, s17, s18, s19, s20, s21, s22, s23, s24, s25⟩
            go_simp
            with_reducible rfl
          rotate_left
          · simp only [Act.put, List.setIfInBounds_toArray, List.set_cons_zero, List.set_cons_succ, i64_w, i32_w]
            rfl
          refine take_ (i := 17) (N := some 63) (v := ?_) (a' := ?_) #[true, true, true, true, true, true, true, true, true, true, true, true, true, true, true, true, true, true, false, false, false, false, false, false, false, false, false] rfl rfl (by kernel_rfl) (fun _ _ _ h => h) (Or.inl ⟨by rfl, ?_⟩) hHeld ?_ ?_
          rotate_left
          · rintro w' ⟨s0, s1, s2, s3, s4, s5, s6, s7, s8, s9, s10, s11, s12, s13, s14, s15, s16, s17, s18, s19, s20, s21, s22, s23, s24, s25⟩
            go_simp
            with_reducible rfl
          rotate_left
          · simp only [Act.put, List.setIfInBounds_toArray, List.set_cons_zero, List.set_cons_succ, i64_w, i32_w]
            rfl
          refine pure_ (i := 18) (N := some 64) (v := ?_) (a' := ?_) #[true, true, true, true, true, true, true, true, true, true, true, true, true, true, true, true, true, true, true, false, false, false, false, false, false, false, false] rfl rfl (by kernel_rfl) (fun _ _ _ h => h) (Or.inl ⟨by rfl, ?_⟩) ?_ ?_
          rotate_left
          · intro w'
            go_simp
            with_reducible rfl
          rotate_left
          · simp only [Act.put, List.setIfInBounds_toArray, List.set_cons_zero, List.set_cons_succ, i64_w, i32_w]
            rfl
          refine pure_ (i := 19) (N := some 65) (v := ?_) (a' := ?_) #[true, true, true, true, true, true, true, true, true, true, true, true, true, true, true, true, true, true, true, true, false, false, false, false, false, false, false] rfl rfl (by kernel_rfl) (fun _ _ _ h => h) (Or.inl ⟨by rfl, ?_⟩) ?_ ?_
          rotate_left
          · intro w'
            go_simp
            with_reducible rfl
          rotate_left
          · simp only [Act.put, List.setIfInBounds_toArray, List.set_cons_zero, List.set_cons_succ, i64_w, i32_w]
            rfl
          refine pure_ (i := 20) (N := some 66) (v := ?_) (a' := ?_) #[true, true, true, true, true, true, true, true, true, true, true, true, true, true, true, true, true, true, true, true, true, false, false, false, false, false, false] rfl rfl (by kernel_rfl) (fun _ _ _ h => h) (Or.inl ⟨by rfl, ?_⟩) ?_ ?_
          rotate_left
          · intro w'
            go_simp
            with_reducible rfl
          rotate_left
          · simp only [Act.put, List.setIfInBounds_toArray, List.set_cons_zero, List.set_cons_succ, i64_w, i32_w]
            rfl
          refine pure_ (i := 21) (N := some 67) (v := ?_) (a' := ?_) #[true, true, true, true, true, true, true, true, true, true, true, true, true, true, true, true, true, true, true, true, true, true, false, false, false, false, false] rfl rfl (by kernel_rfl) (fun _ _ _ h => h) (Or.inl ⟨by rfl, ?_⟩) ?_ ?_
          rotate_left
          · intro w'
            go_simp
            with_reducible rfl
          rotate_left
          · simp only [Act.put, List.setIfInBounds_toArray, List.set_cons_zero, List.set_cons_succ, i64_w, i32_w]
            rfl
          refine pure_ (i := 22) (N := some 68) (v := ?_) (a' := ?_) #[true, true, true, true, true, true, true, true, true, true, true, true, true, true, true, true, true, true, true, true, true, true, true, false, false, false, false] rfl rfl (by kernel_rfl) (fun _ _ _ h => h) (Or.inl ⟨by rfl, ?_⟩) ?_ ?_
          rotate_left
          · intro w'
            go_simp
            with_reducible rfl
          rotate_left
          · simp only [Act.put, List.setIfInBounds_toArray, List.set_cons_zero, List.set_cons_succ, i64_w, i32_w]
            rfl
          refine take_ (i := 23) (N := some 69) (v := ?_) (a' := ?_) #[true, true, true, true, true, true, true, true, true, true, true, true, true, true, true, true, true, true, true, true, true, true, true, true, false, false, false] rfl rfl (by kernel_rfl) (fun _ _ _ h => h) (Or.inl ⟨by rfl, ?_⟩) hHeld ?_ ?_
          rotate_left
          · rintro w' ⟨s0, s1, s2, s3, s4, s5, s6, s7, s8, s9, s10, s11, s12, s13, s14, s15, s16, s17, s18, s19, s20, s21, s22, s23, s24, s25⟩
            go_simp
            with_reducible rfl
          rotate_left
          · simp only [Act.put, List.setIfInBounds_toArray, List.set_cons_zero, List.set_cons_succ, i64_w, i32_w]
            rfl
          refine one_ (i := 24) (N := some 70) #[true, true, true, true, true, true, true, true, true, true, true, true, true, true, true, true, true, true, true, true, true, true, true, true, true, false, false] rfl rfl (by kernel_rfl) (by decide) (fun K hK => ?_)
          refine goes_ Try.func22 (by kernel_rfl) rfl #[S6 ⟨ly, ry, ey, ny, py, dy⟩] (by rfl) rfl rfl (by simp only [List.map_toArray, List.map_cons, List.map_nil]; rfl) ?_
          with_reducible refine (HCK.out _).mono ?_
          rintro e9 wc ⟨rfl, hx⟩
          refine ⟨_, rfl, ?_⟩
          refine hK.out _ _ ⟨(cell_below hHeld.1 hx), (cell_below hHeld.2.1 hx), (cell_below hHeld.2.2.1 hx), (cell_below hHeld.2.2.2.1 hx), (cell_below hHeld.2.2.2.2.1 hx), (cell_below hHeld.2.2.2.2.2.1 hx), (cell_below hHeld.2.2.2.2.2.2.1 hx), (cell_below hHeld.2.2.2.2.2.2.2.1 hx), (cell_below hHeld.2.2.2.2.2.2.2.2.1 hx), (cell_below hHeld.2.2.2.2.2.2.2.2.2.1 hx), (cell_below hHeld.2.2.2.2.2.2.2.2.2.2.1 hx), (cell_below hHeld.2.2.2.2.2.2.2.2.2.2.2.1 hx), (cell_below hHeld.2.2.2.2.2.2.2.2.2.2.2.2.1 hx), (cell_below hHeld.2.2.2.2.2.2.2.2.2.2.2.2.2.1 hx), (cell_below hHeld.2.2.2.2.2.2.2.2.2.2.2.2.2.2.1 hx), (cell_below hHeld.2.2.2.2.2.2.2.2.2.2.2.2.2.2.2.1 hx), (cell_below hHeld.2.2.2.2.2.2.2.2.2.2.2.2.2.2.2.2.1 hx), (cell_below hHeld.2.2.2.2.2.2.2.2.2.2.2.2.2.2.2.2.2.1 hx), (cell_below hHeld.2.2.2.2.2.2.2.2.2.2.2.2.2.2.2.2.2.2.1 hx), (cell_below hHeld.2.2.2.2.2.2.2.2.2.2.2.2.2.2.2.2.2.2.2.1 hx), (cell_below hHeld.2.2.2.2.2.2.2.2.2.2.2.2.2.2.2.2.2.2.2.2.1 hx), (cell_below hHeld.2.2.2.2.2.2.2.2.2.2.2.2.2.2.2.2.2.2.2.2.2.1 hx), (cell_below hHeld.2.2.2.2.2.2.2.2.2.2.2.2.2.2.2.2.2.2.2.2.2.2.1 hx), (cell_below hHeld.2.2.2.2.2.2.2.2.2.2.2.2.2.2.2.2.2.2.2.2.2.2.2.1 hx), (cell_below hHeld.2.2.2.2.2.2.2.2.2.2.2.2.2.2.2.2.2.2.2.2.2.2.2.2.1 hx), (cell_below hHeld.2.2.2.2.2.2.2.2.2.2.2.2.2.2.2.2.2.2.2.2.2.2.2.2.2 hx)⟩ (fun hHeld => ?_)
          clear hK K
          refine norm_ (a' := ?_) ?_ ?_
          rotate_left
          · show Act.put _ (some 70) _ = _
            simp only [Act.put, List.setIfInBounds_toArray, List.set_cons_zero, List.set_cons_succ, i64_w, i32_w]
            rfl
          refine pure_ (i := 25) (N := some 71) (v := ?_) (a' := ?_) #[true, true, true, true, true, true, true, true, true, true, true, true, true, true, true, true, true, true, true, true, true, true, true, true, true, true, false] rfl rfl (by kernel_rfl) (fun _ _ _ h => h) (Or.inl ⟨by rfl, ?_⟩) ?_ ?_
          rotate_left
          · intro w'
            go_simp
            with_reducible rfl
          rotate_left
          · simp only [Act.put, List.setIfInBounds_toArray, List.set_cons_zero, List.set_cons_succ, i64_w, i32_w]
            rfl
          refine pure_ (i := 26) (N := some 72) (v := ?_) (a' := ?_) #[true, true, true, true, true, true, true, true, true, true, true, true, true, true, true, true, true, true, true, true, true, true, true, true, true, true, true] rfl rfl (by kernel_rfl) (fun _ _ _ h => h) (Or.inl ⟨by rfl, ?_⟩) ?_ ?_
          rotate_left
          · intro w'
            go_simp
            with_reducible rfl
          rotate_left
          · simp only [Act.put, List.setIfInBounds_toArray, List.set_cons_zero, List.set_cons_succ, i64_w, i32_w]
            rfl
          refine done_ (by kernel_rfl) ?_
          replace HL := Lib.hid (HL.out.drew.below hx)
          replace HF := Lib.hid (HF.out.drew.below hx)
          replace HP := Lib.hid (HP.out.drew.below hx)
          replace HW := Lib.hid (HW.out.drew.below hx)
          replace HB := Lib.hid (b_step (b_drew HB.out) hx)
          clear hx HCK F1 F2
          go_upto_region 18 with fail
          by_cases hT : py = 2
          · have t1 : (py == 2) = true := beq_iff_eq.2 hT
            by_cases hX : p2 = 2
            · have t2 : (p2 != 2) = false := bne_eq_false_iff_eq.2 hX
              by_cases hN : ny = n2
              · have t3 : (ny != n2) = false := bne_eq_false_iff_eq.2 hN
                have HNO := Lib.hid (And.intro hX hN)
                clear hT hX hN
                refine start_ (n := 23) (S := fun w' => w'.cell? ⟨w1.heap.size, 0, none⟩ = some (.int .i64 lx) ∧ w'.cell? ⟨w1.heap.size, 1, none⟩ = some (.int .i64 rx) ∧ w'.cell? ⟨w1.heap.size, 2, none⟩ = some (.int .i64 ex) ∧ w'.cell? ⟨w1.heap.size, 3, none⟩ = some (.int .i64 nx) ∧ w'.cell? ⟨w1.heap.size, 4, none⟩ = some (.int .i64 px) ∧ w'.cell? ⟨w1.heap.size, 5, none⟩ = some (.int .i64 dx) ∧ w'.cell? ⟨w1.heap.size, 6, none⟩ = some (.int .i64 ly) ∧ w'.cell? ⟨w1.heap.size, 7, none⟩ = some (.int .i64 ry) ∧ w'.cell? ⟨w1.heap.size, 8, none⟩ = some (.int .i64 ey) ∧ w'.cell? ⟨w1.heap.size, 9, none⟩ = some (.int .i64 ny) ∧ w'.cell? ⟨w1.heap.size, 10, none⟩ = some (.int .i64 py) ∧ w'.cell? ⟨w1.heap.size, 11, none⟩ = some (.int .i64 dy) ∧ w'.cell? ⟨bf, 0, none⟩ = some (.int .i64 l) ∧ w'.cell? ⟨bf, 1, none⟩ = some (.int .i64 r) ∧ w'.cell? ⟨bf, 2, none⟩ = some (.int .i64 e) ∧ w'.cell? ⟨bf, 3, none⟩ = some (.int .i64 n') ∧ w'.cell? ⟨bf, 4, none⟩ = some (.int .i64 p) ∧ w'.cell? ⟨bf, 5, none⟩ = some (.int .i64 d) ∧ w'.cell? ⟨bf, 6, none⟩ = some (.int .i64 l2) ∧ w'.cell? ⟨bf, 7, none⟩ = some (.int .i64 r2) ∧ w'.cell? ⟨bf, 8, none⟩ = some (.int .i64 e2) ∧ w'.cell? ⟨bf, 9, none⟩ = some (.int .i64 n2) ∧ w'.cell? ⟨bf, 10, none⟩ = some (.int .i64 p2) ∧ w'.cell? ⟨bf, 11, none⟩ = some (.int .i64 d2) ∧ w'.cell? ⟨w1.heap.size + 1, 0, none⟩ = some (.int .i64 p0) ∧ w'.cell? ⟨w1.heap.size + 1, 1, none⟩ = some (.int .i64 o1)) (ds := []) #[false, false, false, false, false, false, false, false, false, false, false, false, false, false, false, false, false, false, false, false, false, false, false] (by kernel_rfl) rfl rfl ⟨(HL.out.drew.cell 0), (HL.out.drew.cell 1), (HL.out.drew.cell 2), (HL.out.drew.cell 3), (HL.out.drew.cell 4), (HL.out.drew.cell 5), (HL.out.drew.cell 6), (HL.out.drew.cell 7), (HL.out.drew.cell 8), (HL.out.drew.cell 9), (HL.out.drew.cell 10), (HL.out.drew.cell 11), (HF.out.drew.cell 0), (HF.out.drew.cell 1), (HF.out.drew.cell 2), (HF.out.drew.cell 3), (HF.out.drew.cell 4), (HF.out.drew.cell 5), (HF.out.drew.cell 6), (HF.out.drew.cell 7), (HF.out.drew.cell 8), (HF.out.drew.cell 9), (HF.out.drew.cell 10), (HF.out.drew.cell 11), (HP.out.drew.cell 0), (HP.out.drew.cell 1)⟩ (fun hHeld => ?_)
                refine pure_ (i := 0) (N := some 73) (v := ?_) (a' := ?_) #[true, false, false, false, false, false, false, false, false, false, false, false, false, false, false, false, false, false, false, false, false, false, false] rfl rfl (by kernel_rfl) (fun _ _ _ h => h) (Or.inl ⟨by rfl, ?_⟩) ?_ ?_
                rotate_left
                · intro w'
                  go_simp
                  with_reducible rfl
                rotate_left
                · simp only [Act.put, List.setIfInBounds_toArray, List.set_cons_zero, List.set_cons_succ, i64_w, i32_w]
                  rfl
                refine pure_ (i := 1) (N := some 74) (v := ?_) (a' := ?_) #[true, true, false, false, false, false, false, false, false, false, false, false, false, false, false, false, false, false, false, false, false, false, false] rfl rfl (by kernel_rfl) (fun _ _ _ h => h) (Or.inl ⟨by rfl, ?_⟩) ?_ ?_
                rotate_left
                · intro w'
                  go_simp
                  with_reducible rfl
                rotate_left
                · simp only [Act.put, List.setIfInBounds_toArray, List.set_cons_zero, List.set_cons_succ, i64_w, i32_w]
                  rfl
                refine pure_ (i := 2) (N := some 75) (v := ?_) (a' := ?_) #[true, true, true, false, false, false, false, false, false, false, false, false, false, false, false, false, false, false, false, false, false, false, false] rfl rfl (by kernel_rfl) (fun _ _ _ h => h) (Or.inl ⟨by rfl, ?_⟩) ?_ ?_
                rotate_left
                · intro w'
                  go_simp
                  with_reducible rfl
                rotate_left
                · simp only [Act.put, List.setIfInBounds_toArray, List.set_cons_zero, List.set_cons_succ, i64_w, i32_w]
                  rfl
                refine take_ (i := 3) (N := some 76) (v := ?_) (a' := ?_) #[true, true, true, true, false, false, false, false, false, false, false, false, false, false, false, false, false, false, false, false, false, false, false] rfl rfl (by kernel_rfl) (fun _ _ _ h => h) (Or.inl ⟨by rfl, ?_⟩) hHeld ?_ ?_
                rotate_left
                · rintro w' ⟨s0, s1, s2, s3, s4, s5, s6, s7, s8, s9, s10, s11, s12, s13, s14, s15, s16, s17, s18, s19, s20, s21, s22, s23, s24, s25⟩
                  go_simp
                  with_reducible rfl
                rotate_left
                · simp only [Act.put, List.setIfInBounds_toArray, List.set_cons_zero, List.set_cons_succ, i64_w, i32_w]
                  rfl
                refine pure_ (i := 4) (N := some 77) (v := ?_) (a' := ?_) #[true, true, true, true, true, false, false, false, false, false, false, false, false, false, false, false, false, false, false, false, false, false, false] rfl rfl (by kernel_rfl) (fun _ _ _ h => h) (Or.inl ⟨by rfl, ?_⟩) ?_ ?_
                rotate_left
                · intro w'
                  go_simp
                  with_reducible rfl
                rotate_left
                · simp only [Act.put, List.setIfInBounds_toArray, List.set_cons_zero, List.set_cons_succ, i64_w, i32_w]
                  rfl
                refine pure_ (i := 5) (N := some 78) (v := ?_) (a' := ?_) #[true, true, true, true, true, true, false, false, false, false, false, false, false, false, false, false, false, false, false, false, false, false, false] rfl rfl (by kernel_rfl) (fun _ _ _ h => h) (Or.inl ⟨by rfl, ?_⟩) ?_ ?_
                rotate_left
                · intro w'
                  go_simp
                  with_reducible rfl
                rotate_left
                · simp only [Act.put, List.setIfInBounds_toArray, List.set_cons_zero, List.set_cons_succ, i64_w, i32_w]
                  rfl
                refine pure_ (i := 6) (N := some 79) (v := ?_) (a' := ?_) #[true, true, true, true, true, true, true, false, false, false, false, false, false, false, false, false, false, false, false, false, false, false, false] rfl rfl (by kernel_rfl) (fun _ _ _ h => h) (Or.inl ⟨by rfl, ?_⟩) ?_ ?_
                rotate_left
                · intro w'
                  go_simp
                  with_reducible rfl
                rotate_left
                · simp only [Act.put, List.setIfInBounds_toArray, List.set_cons_zero, List.set_cons_succ, i64_w, i32_w]
                  rfl
                refine pure_ (i := 7) (N := some 80) (v := ?_) (a' := ?_) #[true, true, true, true, true, true, true, true, false, false, false, false, false, false, false, false, false, false, false, false, false, false, false] rfl rfl (by kernel_rfl) (fun _ _ _ h => h) (Or.inl ⟨by rfl, ?_⟩) ?_ ?_
                rotate_left
                · intro w'
                  go_simp
                  with_reducible rfl
                rotate_left
                · simp only [Act.put, List.setIfInBounds_toArray, List.set_cons_zero, List.set_cons_succ, i64_w, i32_w]
                  rfl
                refine pure_ (i := 8) (N := some 81) (v := ?_) (a' := ?_) #[true, true, true, true, true, true, true, true, true, false, false, false, false, false, false, false, false, false, false, false, false, false, false] rfl rfl (by kernel_rfl) (fun _ _ _ h => h) (Or.inl ⟨by rfl, ?_⟩) ?_ ?_
                rotate_left
                · intro w'
                  go_simp
                  with_reducible rfl
                rotate_left
                · simp only [Act.put, List.setIfInBounds_toArray, List.set_cons_zero, List.set_cons_succ, i64_w, i32_w]
                  rfl
                refine take_ (i := 9) (N := some 82) (v := ?_) (a' := ?_) #[true, true, true, true, true, true, true, true, true, true, false, false, false, false, false, false, false, false, false, false, false, false, false] rfl rfl (by kernel_rfl) (fun _ _ _ h => h) (Or.inl ⟨by rfl, ?_⟩) hHeld ?_ ?_
                rotate_left
                · rintro w' ⟨s0, s1, s2, s3, s4, s5, s6, s7, s8, s9, s10, s11, s12, s13, s14, s15, s16, s17, s18, s19, s20, s21, s22, s23, s24, s25⟩
                  go_simp
                  with_reducible rfl
                rotate_left
                · simp only [Act.put, List.setIfInBounds_toArray, List.set_cons_zero, List.set_cons_succ, i64_w, i32_w]
                  rfl
                refine pure_ (i := 10) (N := some 83) (v := ?_) (a' := ?_) #[true, true, true, true, true, true, true, true, true, true, true, false, false, false, false, false, false, false, false, false, false, false, false] rfl rfl (by kernel_rfl) (fun _ _ _ h => h) (Or.inl ⟨by rfl, ?_⟩) ?_ ?_
                rotate_left
                · intro w'
                  go_simp
                  with_reducible rfl
                rotate_left
                · simp only [Act.put, List.setIfInBounds_toArray, List.set_cons_zero, List.set_cons_succ, i64_w, i32_w]
                  rfl
                refine pure_ (i := 11) (N := some 84) (v := ?_) (a' := ?_) #[true, true, true, true, true, true, true, true, true, true, true, true, false, false, false, false, false, false, false, false, false, false, false] rfl rfl (by kernel_rfl) (fun _ _ _ h => h) (Or.inl ⟨by rfl, ?_⟩) ?_ ?_
                rotate_left
                · intro w'
                  go_simp
                  with_reducible rfl
                rotate_left
                · simp only [Act.put, List.setIfInBounds_toArray, List.set_cons_zero, List.set_cons_succ, i64_w, i32_w]
                  rfl
                refine pure_ (i := 12) (N := some 85) (v := ?_) (a' := ?_) #[true, true, true, true, true, true, true, true, true, true, true, true, true, false, false, false, false, false, false, false, false, false, false] rfl rfl (by kernel_rfl) (fun _ _ _ h => h) (Or.inl ⟨by rfl, ?_⟩) ?_ ?_
                rotate_left
                · intro w'
                  go_simp
                  with_reducible rfl
                rotate_left
                · simp only [Act.put, List.setIfInBounds_toArray, List.set_cons_zero, List.set_cons_succ, i64_w, i32_w]
                  rfl
                refine pure_ (i := 13) (N := some 86) (v := ?_) (a' := ?_) #[true, true, true, true, true, true, true, true, true, true, true, true, true, true, false, false, false, false, false, false, false, false, false] rfl rfl (by kernel_rfl) (fun _ _ _ h => h) (Or.inl ⟨by rfl, ?_⟩) ?_ ?_
                rotate_left
                · intro w'
                  go_simp
                  with_reducible rfl
                rotate_left
                · simp only [Act.put, List.setIfInBounds_toArray, List.set_cons_zero, List.set_cons_succ, i64_w, i32_w]
                  rfl
                refine pure_ (i := 14) (N := some 87) (v := ?_) (a' := ?_) #[true, true, true, true, true, true, true, true, true, true, true, true, true, true, true, false, false, false, false, false, false, false, false] rfl rfl (by kernel_rfl) (fun _ _ _ h => h) (Or.inl ⟨by rfl, ?_⟩) ?_ ?_
                rotate_left
                · intro w'
                  go_simp
                  with_reducible rfl
                rotate_left
                · simp only [Act.put, List.setIfInBounds_toArray, List.set_cons_zero, List.set_cons_succ, i64_w, i32_w]
                  rfl
                refine pure_ (i := 16) (N := some 89) (v := ?_) (a' := ?_) #[true, true, true, true, true, true, true, true, true, true, true, true, true, true, true, false, true, false, false, false, false, false, false] rfl rfl (by kernel_rfl) (fun _ _ _ h => h) (Or.inl ⟨by rfl, ?_⟩) ?_ ?_
                rotate_left
                · intro w'
                  go_simp
                  with_reducible rfl
                rotate_left
                · simp only [Act.put, List.setIfInBounds_toArray, List.set_cons_zero, List.set_cons_succ, i64_w, i32_w]
                  rfl
                refine pure_ (i := 17) (N := some 90) (v := ?_) (a' := ?_) #[true, true, true, true, true, true, true, true, true, true, true, true, true, true, true, false, true, true, false, false, false, false, false] rfl rfl (by kernel_rfl) (fun _ _ _ h => h) (Or.inl ⟨by rfl, ?_⟩) ?_ ?_
                rotate_left
                · intro w'
                  go_simp
                  with_reducible rfl
                rotate_left
                · simp only [Act.put, List.setIfInBounds_toArray, List.set_cons_zero, List.set_cons_succ, i64_w, i32_w]
                  rfl
                refine pure_ (i := 18) (N := some 91) (v := ?_) (a' := ?_) #[true, true, true, true, true, true, true, true, true, true, true, true, true, true, true, false, true, true, true, false, false, false, false] rfl rfl (by kernel_rfl) (fun _ _ _ h => h) (Or.inl ⟨by rfl, ?_⟩) ?_ ?_
                rotate_left
                · intro w'
                  go_simp
                  with_reducible rfl
                rotate_left
                · simp only [Act.put, List.setIfInBounds_toArray, List.set_cons_zero, List.set_cons_succ, i64_w, i32_w]
                  rfl
                refine take_ (i := 15) (N := some 88) (v := ?_) (a' := ?_) #[true, true, true, true, true, true, true, true, true, true, true, true, true, true, true, true, true, true, true, false, false, false, false] rfl rfl (by kernel_rfl) (fun _ _ _ h => h) (Or.inl ⟨by rfl, ?_⟩) hHeld ?_ ?_
                rotate_left
                · rintro w' ⟨s0, s1, s2, s3, s4, s5, s6, s7, s8, s9, s10, s11, s12, s13, s14, s15, s16, s17, s18, s19, s20, s21, s22, s23, s24, s25⟩
                  go_simp
                  with_reducible rfl
                rotate_left
                · simp only [Act.put, List.setIfInBounds_toArray, List.set_cons_zero, List.set_cons_succ, i64_w, i32_w]
                  rfl
                refine take_ (i := 19) (N := some 92) (v := ?_) (a' := ?_) #[true, true, true, true, true, true, true, true, true, true, true, true, true, true, true, true, true, true, true, true, false, false, false] rfl rfl (by kernel_rfl) (fun _ _ _ h => h) (Or.inl ⟨by rfl, ?_⟩) hHeld ?_ ?_
                rotate_left
                · rintro w' ⟨s0, s1, s2, s3, s4, s5, s6, s7, s8, s9, s10, s11, s12, s13, s14, s15, s16, s17, s18, s19, s20, s21, s22, s23, s24, s25⟩
                  go_simp
                  with_reducible rfl
                rotate_left
                · simp only [Act.put, List.setIfInBounds_toArray, List.set_cons_zero, List.set_cons_succ, i64_w, i32_w]
                  rfl
                refine pure_ (i := 20) (N := some 93) (v := ?_) (a' := ?_) #[true, true, true, true, true, true, true, true, true, true, true, true, true, true, true, true, true, true, true, true, true, false, false] rfl rfl (by kernel_rfl) (fun _ _ _ h => h) (Or.inl ⟨by rfl, ?_⟩) ?_ ?_
                rotate_left
                · intro w'
                  go_simp
                  with_reducible rfl
                rotate_left
                · simp only [Act.put, List.setIfInBounds_toArray, List.set_cons_zero, List.set_cons_succ, i64_w, i32_w]
                  rfl
                refine pure_ (i := 21) (N := some 94) (v := ?_) (a' := ?_) #[true, true, true, true, true, true, true, true, true, true, true, true, true, true, true, true, true, true, true, true, true, true, false] rfl rfl (by kernel_rfl) (fun _ _ _ h => h) (Or.inl ⟨by rfl, ?_⟩) ?_ ?_
                rotate_left
                · intro w'
                  go_simp
                  with_reducible rfl
                rotate_left
                · simp only [Act.put, List.setIfInBounds_toArray, List.set_cons_zero, List.set_cons_succ, i64_w, i32_w]
                  rfl
                refine pure_ (i := 22) (N := some 95) (v := ?_) (a' := ?_) #[true, true, true, true, true, true, true, true, true, true, true, true, true, true, true, true, true, true, true, true, true, true, true] rfl rfl (by kernel_rfl) (fun _ _ _ h => h) (Or.inl ⟨by rfl, ?_⟩) ?_ ?_
                rotate_left
                · intro w'
                  go_simp
                  with_reducible rfl
                rotate_left
                · simp only [Act.put, List.setIfInBounds_toArray, List.set_cons_zero, List.set_cons_succ, i64_w, i32_w]
                  rfl
                refine done_ (by kernel_rfl) ?_
                replace HL := Lib.hid HL.out.drew
                replace HF := Lib.hid HF.out.drew
                replace HP := Lib.hid HP.out.drew
                replace HW := Lib.hid HW.out.drew
                replace HB := Lib.hid (b_drew HB.out)
                generalize wc.drew = wd at *
                go_wp2_with fail
                go_roundg (gk - 1)
                case measure => omega
                case rel => exact ⟨1 + 1, p0, o1, by omega, by go_num, HL.out, HF.out, HP.out, HW.out, HB.out, by simpa using HP0.out, by rw [if_neg (by omega)]; unfold opn; rw [if_neg (fun q => by rcases q.2 with q2 | q2; exact q2 HNO.out.1; exact q2 HNO.out.2)]⟩
              · have t3 : (ny != n2) = true := bne_iff_ne.2 hN
                have HNO := Lib.hid (And.intro hT hN)
                clear hT hX hN
                refine start_ (n := 23) (S := fun w' => w'.cell? ⟨w1.heap.size, 0, none⟩ = some (.int .i64 lx) ∧ w'.cell? ⟨w1.heap.size, 1, none⟩ = some (.int .i64 rx) ∧ w'.cell? ⟨w1.heap.size, 2, none⟩ = some (.int .i64 ex) ∧ w'.cell? ⟨w1.heap.size, 3, none⟩ = some (.int .i64 nx) ∧ w'.cell? ⟨w1.heap.size, 4, none⟩ = some (.int .i64 px) ∧ w'.cell? ⟨w1.heap.size, 5, none⟩ = some (.int .i64 dx) ∧ w'.cell? ⟨w1.heap.size, 6, none⟩ = some (.int .i64 ly) ∧ w'.cell? ⟨w1.heap.size, 7, none⟩ = some (.int .i64 ry) ∧ w'.cell? ⟨w1.heap.size, 8, none⟩ = some (.int .i64 ey) ∧ w'.cell? ⟨w1.heap.size, 9, none⟩ = some (.int .i64 ny) ∧ w'.cell? ⟨w1.heap.size, 10, none⟩ = some (.int .i64 py) ∧ w'.cell? ⟨w1.heap.size, 11, none⟩ = some (.int .i64 dy) ∧ w'.cell? ⟨bf, 0, none⟩ = some (.int .i64 l) ∧ w'.cell? ⟨bf, 1, none⟩ = some (.int .i64 r) ∧ w'.cell? ⟨bf, 2, none⟩ = some (.int .i64 e) ∧ w'.cell? ⟨bf, 3, none⟩ = some (.int .i64 n') ∧ w'.cell? ⟨bf, 4, none⟩ = some (.int .i64 p) ∧ w'.cell? ⟨bf, 5, none⟩ = some (.int .i64 d) ∧ w'.cell? ⟨bf, 6, none⟩ = some (.int .i64 l2) ∧ w'.cell? ⟨bf, 7, none⟩ = some (.int .i64 r2) ∧ w'.cell? ⟨bf, 8, none⟩ = some (.int .i64 e2) ∧ w'.cell? ⟨bf, 9, none⟩ = some (.int .i64 n2) ∧ w'.cell? ⟨bf, 10, none⟩ = some (.int .i64 p2) ∧ w'.cell? ⟨bf, 11, none⟩ = some (.int .i64 d2) ∧ w'.cell? ⟨w1.heap.size + 1, 0, none⟩ = some (.int .i64 p0) ∧ w'.cell? ⟨w1.heap.size + 1, 1, none⟩ = some (.int .i64 o1)) (ds := []) #[false, false, false, false, false, false, false, false, false, false, false, false, false, false, false, false, false, false, false, false, false, false, false] (by kernel_rfl) rfl rfl ⟨(HL.out.drew.cell 0), (HL.out.drew.cell 1), (HL.out.drew.cell 2), (HL.out.drew.cell 3), (HL.out.drew.cell 4), (HL.out.drew.cell 5), (HL.out.drew.cell 6), (HL.out.drew.cell 7), (HL.out.drew.cell 8), (HL.out.drew.cell 9), (HL.out.drew.cell 10), (HL.out.drew.cell 11), (HF.out.drew.cell 0), (HF.out.drew.cell 1), (HF.out.drew.cell 2), (HF.out.drew.cell 3), (HF.out.drew.cell 4), (HF.out.drew.cell 5), (HF.out.drew.cell 6), (HF.out.drew.cell 7), (HF.out.drew.cell 8), (HF.out.drew.cell 9), (HF.out.drew.cell 10), (HF.out.drew.cell 11), (HP.out.drew.cell 0), (HP.out.drew.cell 1)⟩ (fun hHeld => ?_)
                refine pure_ (i := 0) (N := some 73) (v := ?_) (a' := ?_) #[true, false, false, false, false, false, false, false, false, false, false, false, false, false, false, false, false, false, false, false, false, false, false] rfl rfl (by kernel_rfl) (fun _ _ _ h => h) (Or.inl ⟨by rfl, ?_⟩) ?_ ?_
                rotate_left
                · intro w'
                  go_simp
                  with_reducible rfl
                rotate_left
                · simp only [Act.put, List.setIfInBounds_toArray, List.set_cons_zero, List.set_cons_succ, i64_w, i32_w]
                  rfl
                refine pure_ (i := 1) (N := some 74) (v := ?_) (a' := ?_) #[true, true, false, false, false, false, false, false, false, false, false, false, false, false, false, false, false, false, false, false, false, false, false] rfl rfl (by kernel_rfl) (fun _ _ _ h => h) (Or.inl ⟨by rfl, ?_⟩) ?_ ?_
                rotate_left
                · intro w'
                  go_simp
                  with_reducible rfl
                rotate_left
                · simp only [Act.put, List.setIfInBounds_toArray, List.set_cons_zero, List.set_cons_succ, i64_w, i32_w]
                  rfl
                refine pure_ (i := 2) (N := some 75) (v := ?_) (a' := ?_) #[true, true, true, false, false, false, false, false, false, false, false, false, false, false, false, false, false, false, false, false, false, false, false] rfl rfl (by kernel_rfl) (fun _ _ _ h => h) (Or.inl ⟨by rfl, ?_⟩) ?_ ?_
                rotate_left
                · intro w'
                  go_simp
                  with_reducible rfl
                rotate_left
                · simp only [Act.put, List.setIfInBounds_toArray, List.set_cons_zero, List.set_cons_succ, i64_w, i32_w]
                  rfl
                refine take_ (i := 3) (N := some 76) (v := ?_) (a' := ?_) #[true, true, true, true, false, false, false, false, false, false, false, false, false, false, false, false, false, false, false, false, false, false, false] rfl rfl (by kernel_rfl) (fun _ _ _ h => h) (Or.inl ⟨by rfl, ?_⟩) hHeld ?_ ?_
                rotate_left
                · rintro w' ⟨s0, s1, s2, s3, s4, s5, s6, s7, s8, s9, s10, s11, s12, s13, s14, s15, s16, s17, s18, s19, s20, s21, s22, s23, s24, s25⟩
                  go_simp
                  with_reducible rfl
                rotate_left
                · simp only [Act.put, List.setIfInBounds_toArray, List.set_cons_zero, List.set_cons_succ, i64_w, i32_w]
                  rfl
                refine pure_ (i := 4) (N := some 77) (v := ?_) (a' := ?_) #[true, true, true, true, true, false, false, false, false, false, false, false, false, false, false, false, false, false, false, false, false, false, false] rfl rfl (by kernel_rfl) (fun _ _ _ h => h) (Or.inl ⟨by rfl, ?_⟩) ?_ ?_
                rotate_left
                · intro w'
                  go_simp
                  with_reducible rfl
                rotate_left
                · simp only [Act.put, List.setIfInBounds_toArray, List.set_cons_zero, List.set_cons_succ, i64_w, i32_w]
                  rfl
                refine pure_ (i := 5) (N := some 78) (v := ?_) (a' := ?_) #[true, true, true, true, true, true, false, false, false, false, false, false, false, false, false, false, false, false, false, false, false, false, false] rfl rfl (by kernel_rfl) (fun _ _ _ h => h) (Or.inl ⟨by rfl, ?_⟩) ?_ ?_
                rotate_left
                · intro w'
                  go_simp
                  with_reducible rfl
                rotate_left
                · simp only [Act.put, List.setIfInBounds_toArray, List.set_cons_zero, List.set_cons_succ, i64_w, i32_w]
                  rfl
                refine pure_ (i := 6) (N := some 79) (v := ?_) (a' := ?_) #[true, true, true, true, true, true, true, false, false, false, false, false, false, false, false, false, false, false, false, false, false, false, false] rfl rfl (by kernel_rfl) (fun _ _ _ h => h) (Or.inl ⟨by rfl, ?_⟩) ?_ ?_
                rotate_left
                · intro w'
                  go_simp
                  with_reducible rfl
                rotate_left
                · simp only [Act.put, List.setIfInBounds_toArray, List.set_cons_zero, List.set_cons_succ, i64_w, i32_w]
                  rfl
                refine pure_ (i := 7) (N := some 80) (v := ?_) (a' := ?_) #[true, true, true, true, true, true, true, true, false, false, false, false, false, false, false, false, false, false, false, false, false, false, false] rfl rfl (by kernel_rfl) (fun _ _ _ h => h) (Or.inl ⟨by rfl, ?_⟩) ?_ ?_
                rotate_left
                · intro w'
                  go_simp
                  with_reducible rfl
                rotate_left
                · simp only [Act.put, List.setIfInBounds_toArray, List.set_cons_zero, List.set_cons_succ, i64_w, i32_w]
                  rfl
                refine pure_ (i := 8) (N := some 81) (v := ?_) (a' := ?_) #[true, true, true, true, true, true, true, true, true, false, false, false, false, false, false, false, false, false, false, false, false, false, false] rfl rfl (by kernel_rfl) (fun _ _ _ h => h) (Or.inl ⟨by rfl, ?_⟩) ?_ ?_
                rotate_left
                · intro w'
                  go_simp
                  with_reducible rfl
                rotate_left
                · simp only [Act.put, List.setIfInBounds_toArray, List.set_cons_zero, List.set_cons_succ, i64_w, i32_w]
                  rfl
                refine take_ (i := 9) (N := some 82) (v := ?_) (a' := ?_) #[true, true, true, true, true, true, true, true, true, true, false, false, false, false, false, false, false, false, false, false, false, false, false] rfl rfl (by kernel_rfl) (fun _ _ _ h => h) (Or.inl ⟨by rfl, ?_⟩) hHeld ?_ ?_
                rotate_left
                · rintro w' ⟨s0, s1, s2, s3, s4, s5, s6, s7, s8, s9, s10, s11, s12, s13, s14, s15, s16, s17, s18, s19, s20, s21, s22, s23, s24, s25⟩
                  go_simp
                  with_reducible rfl
                rotate_left
                · simp only [Act.put, List.setIfInBounds_toArray, List.set_cons_zero, List.set_cons_succ, i64_w, i32_w]
                  rfl
                refine pure_ (i := 10) (N := some 83) (v := ?_) (a' := ?_) #[true, true, true, true, true, true, true, true, true, true, true, false, false, false, false, false, false, false, false, false, false, false, false] rfl rfl (by kernel_rfl) (fun _ _ _ h => h) (Or.inl ⟨by rfl, ?_⟩) ?_ ?_
                rotate_left
                · intro w'
                  go_simp
                  with_reducible rfl
                rotate_left
                · simp only [Act.put, List.setIfInBounds_toArray, List.set_cons_zero, List.set_cons_succ, i64_w, i32_w]
                  rfl
                refine pure_ (i := 11) (N := some 84) (v := ?_) (a' := ?_) #[true, true, true, true, true, true, true, true, true, true, true, true, false, false, false, false, false, false, false, false, false, false, false] rfl rfl (by kernel_rfl) (fun _ _ _ h => h) (Or.inl ⟨by rfl, ?_⟩) ?_ ?_
                rotate_left
                · intro w'
                  go_simp
                  with_reducible rfl
                rotate_left
                · simp only [Act.put, List.setIfInBounds_toArray, List.set_cons_zero, List.set_cons_succ, i64_w, i32_w]
                  rfl
                refine pure_ (i := 12) (N := some 85) (v := ?_) (a' := ?_) #[true, true, true, true, true, true, true, true, true, true, true, true, true, false, false, false, false, false, false, false, false, false, false] rfl rfl (by kernel_rfl) (fun _ _ _ h => h) (Or.inl ⟨by rfl, ?_⟩) ?_ ?_
                rotate_left
                · intro w'
                  go_simp
                  with_reducible rfl
                rotate_left
                · simp only [Act.put, List.setIfInBounds_toArray, List.set_cons_zero, List.set_cons_succ, i64_w, i32_w]
                  rfl
                refine pure_ (i := 13) (N := some 86) (v := ?_) (a' := ?_) #[true, true, true, true, true, true, true, true, true, true, true, true, true, true, false, false, false, false, false, false, false, false, false] rfl rfl (by kernel_rfl) (fun _ _ _ h => h) (Or.inl ⟨by rfl, ?_⟩) ?_ ?_
                rotate_left
                · intro w'
                  go_simp
                  with_reducible rfl
                rotate_left
                · simp only [Act.put, List.setIfInBounds_toArray, List.set_cons_zero, List.set_cons_succ, i64_w, i32_w]
                  rfl
                refine pure_ (i := 14) (N := some 87) (v := ?_) (a' := ?_) #[true, true, true, true, true, true, true, true, true, true, true, true, true, true, true, false, false, false, false, false, false, false, false] rfl rfl (by kernel_rfl) (fun _ _ _ h => h) (Or.inl ⟨by rfl, ?_⟩) ?_ ?_
                rotate_left
                · intro w'
                  go_simp
                  with_reducible rfl
                rotate_left
                · simp only [Act.put, List.setIfInBounds_toArray, List.set_cons_zero, List.set_cons_succ, i64_w, i32_w]
                  rfl
                refine pure_ (i := 16) (N := some 89) (v := ?_) (a' := ?_) #[true, true, true, true, true, true, true, true, true, true, true, true, true, true, true, false, true, false, false, false, false, false, false] rfl rfl (by kernel_rfl) (fun _ _ _ h => h) (Or.inl ⟨by rfl, ?_⟩) ?_ ?_
                rotate_left
                · intro w'
                  go_simp
                  with_reducible rfl
                rotate_left
                · simp only [Act.put, List.setIfInBounds_toArray, List.set_cons_zero, List.set_cons_succ, i64_w, i32_w]
                  rfl
                refine pure_ (i := 17) (N := some 90) (v := ?_) (a' := ?_) #[true, true, true, true, true, true, true, true, true, true, true, true, true, true, true, false, true, true, false, false, false, false, false] rfl rfl (by kernel_rfl) (fun _ _ _ h => h) (Or.inl ⟨by rfl, ?_⟩) ?_ ?_
                rotate_left
                · intro w'
                  go_simp
                  with_reducible rfl
                rotate_left
                · simp only [Act.put, List.setIfInBounds_toArray, List.set_cons_zero, List.set_cons_succ, i64_w, i32_w]
                  rfl
                refine pure_ (i := 18) (N := some 91) (v := ?_) (a' := ?_) #[true, true, true, true, true, true, true, true, true, true, true, true, true, true, true, false, true, true, true, false, false, false, false] rfl rfl (by kernel_rfl) (fun _ _ _ h => h) (Or.inl ⟨by rfl, ?_⟩) ?_ ?_
                rotate_left
                · intro w'
                  go_simp
                  with_reducible rfl
                rotate_left
                · simp only [Act.put, List.setIfInBounds_toArray, List.set_cons_zero, List.set_cons_succ, i64_w, i32_w]
                  rfl
                refine take_ (i := 15) (N := some 88) (v := ?_) (a' := ?_) #[true, true, true, true, true, true, true, true, true, true, true, true, true, true, true, true, true, true, true, false, false, false, false] rfl rfl (by kernel_rfl) (fun _ _ _ h => h) (Or.inl ⟨by rfl, ?_⟩) hHeld ?_ ?_
                rotate_left
                · rintro w' ⟨s0, s1, s2, s3, s4, s5, s6, s7, s8, s9, s10, s11, s12, s13, s14, s15, s16, s17, s18, s19, s20, s21, s22, s23, s24, s25⟩
                  go_simp
                  with_reducible rfl
                rotate_left
                · simp only [Act.put, List.setIfInBounds_toArray, List.set_cons_zero, List.set_cons_succ, i64_w, i32_w]
                  rfl
                refine take_ (i := 19) (N := some 92) (v := ?_) (a' := ?_) #[true, true, true, true, true, true, true, true, true, true, true, true, true, true, true, true, true, true, true, true, false, false, false] rfl rfl (by kernel_rfl) (fun _ _ _ h => h) (Or.inl ⟨by rfl, ?_⟩) hHeld ?_ ?_
                rotate_left
                · rintro w' ⟨s0, s1, s2, s3, s4, s5, s6, s7, s8, s9, s10, s11, s12, s13, s14, s15, s16, s17, s18, s19, s20, s21, s22, s23, s24, s25⟩
                  go_simp
                  with_reducible rfl
                rotate_left
                · simp only [Act.put, List.setIfInBounds_toArray, List.set_cons_zero, List.set_cons_succ, i64_w, i32_w]
                  rfl
                refine pure_ (i := 20) (N := some 93) (v := ?_) (a' := ?_) #[true, true, true, true, true, true, true, true, true, true, true, true, true, true, true, true, true, true, true, true, true, false, false] rfl rfl (by kernel_rfl) (fun _ _ _ h => h) (Or.inl ⟨by rfl, ?_⟩) ?_ ?_
                rotate_left
                · intro w'
                  go_simp
                  with_reducible rfl
                rotate_left
                · simp only [Act.put, List.setIfInBounds_toArray, List.set_cons_zero, List.set_cons_succ, i64_w, i32_w]
                  rfl
                refine pure_ (i := 21) (N := some 94) (v := ?_) (a' := ?_) #[true, true, true, true, true, true, true, true, true, true, true, true, true, true, true, true, true, true, true, true, true, true, false] rfl rfl (by kernel_rfl) (fun _ _ _ h => h) (Or.inl ⟨by rfl, ?_⟩) ?_ ?_
                rotate_left
                · intro w'
                  go_simp
                  with_reducible rfl
                rotate_left
                · simp only [Act.put, List.setIfInBounds_toArray, List.set_cons_zero, List.set_cons_succ, i64_w, i32_w]
                  rfl
                refine pure_ (i := 22) (N := some 95) (v := ?_) (a' := ?_) #[true, true, true, true, true, true, true, true, true, true, true, true, true, true, true, true, true, true, true, true, true, true, true] rfl rfl (by kernel_rfl) (fun _ _ _ h => h) (Or.inl ⟨by rfl, ?_⟩) ?_ ?_
                rotate_left
                · intro w'
                  go_simp
                  with_reducible rfl
                rotate_left
                · simp only [Act.put, List.setIfInBounds_toArray, List.set_cons_zero, List.set_cons_succ, i64_w, i32_w]
                  rfl
                refine done_ (by kernel_rfl) ?_
                replace HL := Lib.hid HL.out.drew
                replace HF := Lib.hid HF.out.drew
                replace HP := Lib.hid HP.out.drew
                replace HW := Lib.hid HW.out.drew
                replace HB := Lib.hid (b_drew HB.out)
                generalize wc.drew = wd at *
                have F3 : decide (ny ≤ o1) = false := decide_eq_false (by have := grow_open HKB.out HGB.out HNO.out.1 (.inr HNO.out.2); dsimp only at this; omega)
                go_upto_region 19 with fail
                refine start_ (n := 8) (S := fun w' => w'.cell? ⟨w1.heap.size, 0, none⟩ = some (.int .i64 lx) ∧ w'.cell? ⟨w1.heap.size, 1, none⟩ = some (.int .i64 rx) ∧ w'.cell? ⟨w1.heap.size, 2, none⟩ = some (.int .i64 ex) ∧ w'.cell? ⟨w1.heap.size, 3, none⟩ = some (.int .i64 nx) ∧ w'.cell? ⟨w1.heap.size, 4, none⟩ = some (.int .i64 px) ∧ w'.cell? ⟨w1.heap.size, 5, none⟩ = some (.int .i64 dx) ∧ w'.cell? ⟨w1.heap.size, 6, none⟩ = some (.int .i64 ly) ∧ w'.cell? ⟨w1.heap.size, 7, none⟩ = some (.int .i64 ry) ∧ w'.cell? ⟨w1.heap.size, 8, none⟩ = some (.int .i64 ey) ∧ w'.cell? ⟨w1.heap.size, 9, none⟩ = some (.int .i64 ny) ∧ w'.cell? ⟨w1.heap.size, 10, none⟩ = some (.int .i64 py) ∧ w'.cell? ⟨w1.heap.size, 11, none⟩ = some (.int .i64 dy) ∧ w'.cell? ⟨bf, 0, none⟩ = some (.int .i64 l) ∧ w'.cell? ⟨bf, 1, none⟩ = some (.int .i64 r) ∧ w'.cell? ⟨bf, 2, none⟩ = some (.int .i64 e) ∧ w'.cell? ⟨bf, 3, none⟩ = some (.int .i64 n') ∧ w'.cell? ⟨bf, 4, none⟩ = some (.int .i64 p) ∧ w'.cell? ⟨bf, 5, none⟩ = some (.int .i64 d) ∧ w'.cell? ⟨bf, 6, none⟩ = some (.int .i64 l2) ∧ w'.cell? ⟨bf, 7, none⟩ = some (.int .i64 r2) ∧ w'.cell? ⟨bf, 8, none⟩ = some (.int .i64 e2) ∧ w'.cell? ⟨bf, 9, none⟩ = some (.int .i64 n2) ∧ w'.cell? ⟨bf, 10, none⟩ = some (.int .i64 p2) ∧ w'.cell? ⟨bf, 11, none⟩ = some (.int .i64 d2) ∧ w'.cell? ⟨w1.heap.size + 1, 0, none⟩ = some (.int .i64 p0) ∧ w'.cell? ⟨w1.heap.size + 1, 1, none⟩ = some (.int .i64 o1)) (ds := []) #[false, false, false, false, false, false, false, false] (by kernel_rfl) rfl rfl ⟨(HL.out.drew.cell 0), (HL.out.drew.cell 1), (HL.out.drew.cell 2), (HL.out.drew.cell 3), (HL.out.drew.cell 4), (HL.out.drew.cell 5), (HL.out.drew.cell 6), (HL.out.drew.cell 7), (HL.out.drew.cell 8), (HL.out.drew.cell 9), (HL.out.drew.cell 10), (HL.out.drew.cell 11), (HF.out.drew.cell 0), (HF.out.drew.cell 1), (HF.out.drew.cell 2), (HF.out.drew.cell 3), (HF.out.drew.cell 4), (HF.out.drew.cell 5), (HF.out.drew.cell 6), (HF.out.drew.cell 7), (HF.out.drew.cell 8), (HF.out.drew.cell 9), (HF.out.drew.cell 10), (HF.out.drew.cell 11), (HP.out.drew.cell 0), (HP.out.drew.cell 1)⟩ (fun hHeld => ?_)
                refine pure_ (i := 0) (N := some 96) (v := ?_) (a' := ?_) #[true, false, false, false, false, false, false, false] rfl rfl (by kernel_rfl) (fun _ _ _ h => h) (Or.inl ⟨by rfl, ?_⟩) ?_ ?_
                rotate_left
                · intro w'
                  go_simp
                  with_reducible rfl
                rotate_left
                · simp only [Act.put, List.setIfInBounds_toArray, List.set_cons_zero, List.set_cons_succ, i64_w, i32_w]
                  rfl
                refine pure_ (i := 1) (N := some 97) (v := ?_) (a' := ?_) #[true, true, false, false, false, false, false, false] rfl rfl (by kernel_rfl) (fun _ _ _ h => h) (Or.inl ⟨by rfl, ?_⟩) ?_ ?_
                rotate_left
                · intro w'
                  go_simp
                  with_reducible rfl
                rotate_left
                · simp only [Act.put, List.setIfInBounds_toArray, List.set_cons_zero, List.set_cons_succ, i64_w, i32_w]
                  rfl
                refine pure_ (i := 2) (N := some 98) (v := ?_) (a' := ?_) #[true, true, true, false, false, false, false, false] rfl rfl (by kernel_rfl) (fun _ _ _ h => h) (Or.inl ⟨by rfl, ?_⟩) ?_ ?_
                rotate_left
                · intro w'
                  go_simp
                  with_reducible rfl
                rotate_left
                · simp only [Act.put, List.setIfInBounds_toArray, List.set_cons_zero, List.set_cons_succ, i64_w, i32_w]
                  rfl
                refine pure_ (i := 4) (N := some 100) (v := ?_) (a' := ?_) #[true, true, true, false, true, false, false, false] rfl rfl (by kernel_rfl) (fun _ _ _ h => h) (Or.inl ⟨by rfl, ?_⟩) ?_ ?_
                rotate_left
                · intro w'
                  go_simp
                  with_reducible rfl
                rotate_left
                · simp only [Act.put, List.setIfInBounds_toArray, List.set_cons_zero, List.set_cons_succ, i64_w, i32_w]
                  rfl
                refine pure_ (i := 5) (N := some 101) (v := ?_) (a' := ?_) #[true, true, true, false, true, true, false, false] rfl rfl (by kernel_rfl) (fun _ _ _ h => h) (Or.inl ⟨by rfl, ?_⟩) ?_ ?_
                rotate_left
                · intro w'
                  go_simp
                  with_reducible rfl
                rotate_left
                · simp only [Act.put, List.setIfInBounds_toArray, List.set_cons_zero, List.set_cons_succ, i64_w, i32_w]
                  rfl
                refine take_ (i := 3) (N := some 99) (v := ?_) (a' := ?_) #[true, true, true, true, true, true, false, false] rfl rfl (by kernel_rfl) (fun _ _ _ h => h) (Or.inl ⟨by rfl, ?_⟩) hHeld ?_ ?_
                rotate_left
                · rintro w' ⟨s0, s1, s2, s3, s4, s5, s6, s7, s8, s9, s10, s11, s12, s13, s14, s15, s16, s17, s18, s19, s20, s21, s22, s23, s24, s25⟩
                  go_simp
                  with_reducible rfl
                rotate_left
                · simp only [Act.put, List.setIfInBounds_toArray, List.set_cons_zero, List.set_cons_succ, i64_w, i32_w]
                  rfl
                refine take_ (i := 6) (N := some 102) (v := ?_) (a' := ?_) #[true, true, true, true, true, true, true, false] rfl rfl (by kernel_rfl) (fun _ _ _ h => h) (Or.inl ⟨by rfl, ?_⟩) hHeld ?_ ?_
                rotate_left
                · rintro w' ⟨s0, s1, s2, s3, s4, s5, s6, s7, s8, s9, s10, s11, s12, s13, s14, s15, s16, s17, s18, s19, s20, s21, s22, s23, s24, s25⟩
                  go_simp
                  with_reducible rfl
                rotate_left
                · simp only [Act.put, List.setIfInBounds_toArray, List.set_cons_zero, List.set_cons_succ, i64_w, i32_w]
                  rfl
                refine pure_ (i := 7) (N := some 103) (v := ?_) (a' := ?_) #[true, true, true, true, true, true, true, true] rfl rfl (by kernel_rfl) (fun _ _ _ h => h) (Or.inl ⟨by rfl, ?_⟩) ?_ ?_
                rotate_left
                · intro w'
                  go_simp
                  with_reducible rfl
                rotate_left
                · simp only [Act.put, List.setIfInBounds_toArray, List.set_cons_zero, List.set_cons_succ, i64_w, i32_w]
                  rfl
                refine done_ (by kernel_rfl) ?_
                replace HL := Lib.hid HL.out.drew
                replace HF := Lib.hid HF.out.drew
                replace HP := Lib.hid HP.out.drew
                replace HW := Lib.hid HW.out.drew
                replace HB := Lib.hid (b_drew HB.out)
                generalize wd.drew = we at *
                have hL := HL.out
                have hP := HP.out
                obtain ⟨y0, y1, y2, y3, y4, y5, y6, y7, y8, y9, y10, y11, z0, z1, z2, z3, z4, z5, z6, z7, z8, z9, z10, z11⟩ := hL.twelve
                have g0 := hP.cell 0
                have g1 := hP.cell 1
                have g2 := hP.frozen 0
                have g3 := hP.frozen 1
                have hP4 := Lib.hid (hP.set 1 (.int .i64 ny))
                have hL4 := Lib.hid (hL.far (p := ⟨w1.heap.size + 1, 1, none⟩) (by simp) (.int .i64 ny))
                have hF4 := Lib.hid (HF.out.far (p := ⟨w1.heap.size + 1, 1, none⟩) (by show bf ≠ w1.heap.size + 1; omega) (.int .i64 ny))
                have hW4 := Lib.hid (HW.out.far (g := w1.heap.size + 1) (i := 1) (u := .int .i64 ny) (by omega))
                have hB4 := Lib.hid (b_set (g := w1.heap.size + 1) (j := 1) (v := .int .i64 ny) HB.out (by have := LB.out; omega))
                clear hL hP HL HF HP HW HB
                go_wp2_with fail
                go_roundg (gk - 1)
                case measure => omega
                case rel => exact ⟨1 + 1, p0, ny, by omega, by go_num, hL4.out, hF4.out, hP4.out, hW4.out, hB4.out, by simpa using HP0.out, by rw [if_neg (by omega)]; unfold opn; rw [if_pos (⟨HNO.out.1, .inr HNO.out.2⟩)]⟩
            · have t2 : (p2 != 2) = true := bne_iff_ne.2 hX
              have HNO := Lib.hid (And.intro hT hX)
              clear hT hX
              refine start_ (n := 23) (S := fun w' => w'.cell? ⟨w1.heap.size, 0, none⟩ = some (.int .i64 lx) ∧ w'.cell? ⟨w1.heap.size, 1, none⟩ = some (.int .i64 rx) ∧ w'.cell? ⟨w1.heap.size, 2, none⟩ = some (.int .i64 ex) ∧ w'.cell? ⟨w1.heap.size, 3, none⟩ = some (.int .i64 nx) ∧ w'.cell? ⟨w1.heap.size, 4, none⟩ = some (.int .i64 px) ∧ w'.cell? ⟨w1.heap.size, 5, none⟩ = some (.int .i64 dx) ∧ w'.cell? ⟨w1.heap.size, 6, none⟩ = some (.int .i64 ly) ∧ w'.cell? ⟨w1.heap.size, 7, none⟩ = some (.int .i64 ry) ∧ w'.cell? ⟨w1.heap.size, 8, none⟩ = some (.int .i64 ey) ∧ w'.cell? ⟨w1.heap.size, 9, none⟩ = some (.int .i64 ny) ∧ w'.cell? ⟨w1.heap.size, 10, none⟩ = some (.int .i64 py) ∧ w'.cell? ⟨w1.heap.size, 11, none⟩ = some (.int .i64 dy) ∧ w'.cell? ⟨bf, 0, none⟩ = some (.int .i64 l) ∧ w'.cell? ⟨bf, 1, none⟩ = some (.int .i64 r) ∧ w'.cell? ⟨bf, 2, none⟩ = some (.int .i64 e) ∧ w'.cell? ⟨bf, 3, none⟩ = some (.int .i64 n') ∧ w'.cell? ⟨bf, 4, none⟩ = some (.int .i64 p) ∧ w'.cell? ⟨bf, 5, none⟩ = some (.int .i64 d) ∧ w'.cell? ⟨bf, 6, none⟩ = some (.int .i64 l2) ∧ w'.cell? ⟨bf, 7, none⟩ = some (.int .i64 r2) ∧ w'.cell? ⟨bf, 8, none⟩ = some (.int .i64 e2) ∧ w'.cell? ⟨bf, 9, none⟩ = some (.int .i64 n2) ∧ w'.cell? ⟨bf, 10, none⟩ = some (.int .i64 p2) ∧ w'.cell? ⟨bf, 11, none⟩ = some (.int .i64 d2) ∧ w'.cell? ⟨w1.heap.size + 1, 0, none⟩ = some (.int .i64 p0) ∧ w'.cell? ⟨w1.heap.size + 1, 1, none⟩ = some (.int .i64 o1)) (ds := []) #[false, false, false, false, false, false, false, false, false, false, false, false, false, false, false, false, false, false, false, false, false, false, false] (by kernel_rfl) rfl rfl ⟨(HL.out.drew.cell 0), (HL.out.drew.cell 1), (HL.out.drew.cell 2), (HL.out.drew.cell 3), (HL.out.drew.cell 4), (HL.out.drew.cell 5), (HL.out.drew.cell 6), (HL.out.drew.cell 7), (HL.out.drew.cell 8), (HL.out.drew.cell 9), (HL.out.drew.cell 10), (HL.out.drew.cell 11), (HF.out.drew.cell 0), (HF.out.drew.cell 1), (HF.out.drew.cell 2), (HF.out.drew.cell 3), (HF.out.drew.cell 4), (HF.out.drew.cell 5), (HF.out.drew.cell 6), (HF.out.drew.cell 7), (HF.out.drew.cell 8), (HF.out.drew.cell 9), (HF.out.drew.cell 10), (HF.out.drew.cell 11), (HP.out.drew.cell 0), (HP.out.drew.cell 1)⟩ (fun hHeld => ?_)
              refine pure_ (i := 0) (N := some 73) (v := ?_) (a' := ?_) #[true, false, false, false, false, false, false, false, false, false, false, false, false, false, false, false, false, false, false, false, false, false, false] rfl rfl (by kernel_rfl) (fun _ _ _ h => h) (Or.inl ⟨by rfl, ?_⟩) ?_ ?_
              rotate_left
              · intro w'
                go_simp
                with_reducible rfl
              rotate_left
              · simp only [Act.put, List.setIfInBounds_toArray, List.set_cons_zero, List.set_cons_succ, i64_w, i32_w]
                rfl
              refine pure_ (i := 1) (N := some 74) (v := ?_) (a' := ?_) #[true, true, false, false, false, false, false, false, false, false, false, false, false, false, false, false, false, false, false, false, false, false, false] rfl rfl (by kernel_rfl) (fun _ _ _ h => h) (Or.inl ⟨by rfl, ?_⟩) ?_ ?_
              rotate_left
              · intro w'
                go_simp
                with_reducible rfl
              rotate_left
              · simp only [Act.put, List.setIfInBounds_toArray, List.set_cons_zero, List.set_cons_succ, i64_w, i32_w]
                rfl
              refine pure_ (i := 2) (N := some 75) (v := ?_) (a' := ?_) #[true, true, true, false, false, false, false, false, false, false, false, false, false, false, false, false, false, false, false, false, false, false, false] rfl rfl (by kernel_rfl) (fun _ _ _ h => h) (Or.inl ⟨by rfl, ?_⟩) ?_ ?_
              rotate_left
              · intro w'
                go_simp
                with_reducible rfl
              rotate_left
              · simp only [Act.put, List.setIfInBounds_toArray, List.set_cons_zero, List.set_cons_succ, i64_w, i32_w]
                rfl
              refine take_ (i := 3) (N := some 76) (v := ?_) (a' := ?_) #[true, true, true, true, false, false, false, false, false, false, false, false, false, false, false, false, false, false, false, false, false, false, false] rfl rfl (by kernel_rfl) (fun _ _ _ h => h) (Or.inl ⟨by rfl, ?_⟩) hHeld ?_ ?_
              rotate_left
              · rintro w' ⟨s0, s1, s2, s3, s4, s5, s6, s7, s8, s9, s10, s11, s12, s13, s14, s15, s16, s17, s18, s19, s20, s21, s22, s23, s24, s25⟩
                go_simp
                with_reducible rfl
              rotate_left
              · simp only [Act.put, List.setIfInBounds_toArray, List.set_cons_zero, List.set_cons_succ, i64_w, i32_w]
                rfl
              refine pure_ (i := 4) (N := some 77) (v := ?_) (a' := ?_) #[true, true, true, true, true, false, false, false, false, false, false, false, false, false, false, false, false, false, false, false, false, false, false] rfl rfl (by kernel_rfl) (fun _ _ _ h => h) (Or.inl ⟨by rfl, ?_⟩) ?_ ?_
              rotate_left
              · intro w'
                go_simp
                with_reducible rfl
              rotate_left
              · simp only [Act.put, List.setIfInBounds_toArray, List.set_cons_zero, List.set_cons_succ, i64_w, i32_w]
                rfl
              refine pure_ (i := 5) (N := some 78) (v := ?_) (a' := ?_) #[true, true, true, true, true, true, false, false, false, false, false, false, false, false, false, false, false, false, false, false, false, false, false] rfl rfl (by kernel_rfl) (fun _ _ _ h => h) (Or.inl ⟨by rfl, ?_⟩) ?_ ?_
              rotate_left
              · intro w'
                go_simp
                with_reducible rfl
              rotate_left
              · simp only [Act.put, List.setIfInBounds_toArray, List.set_cons_zero, List.set_cons_succ, i64_w, i32_w]
                rfl
              refine pure_ (i := 6) (N := some 79) (v := ?_) (a' := ?_) #[true, true, true, true, true, true, true, false, false, false, false, false, false, false, false, false, false, false, false, false, false, false, false] rfl rfl (by kernel_rfl) (fun _ _ _ h => h) (Or.inl ⟨by rfl, ?_⟩) ?_ ?_
              rotate_left
              · intro w'
                go_simp
                with_reducible rfl
              rotate_left
              · simp only [Act.put, List.setIfInBounds_toArray, List.set_cons_zero, List.set_cons_succ, i64_w, i32_w]
                rfl
              refine pure_ (i := 7) (N := some 80) (v := ?_) (a' := ?_) #[true, true, true, true, true, true, true, true, false, false, false, false, false, false, false, false, false, false, false, false, false, false, false] rfl rfl (by kernel_rfl) (fun _ _ _ h => h) (Or.inl ⟨by rfl, ?_⟩) ?_ ?_
              rotate_left
              · intro w'
                go_simp
                with_reducible rfl
              rotate_left
              · simp only [Act.put, List.setIfInBounds_toArray, List.set_cons_zero, List.set_cons_succ, i64_w, i32_w]
                rfl
              refine pure_ (i := 8) (N := some 81) (v := ?_) (a' := ?_) #[true, true, true, true, true, true, true, true, true, false, false, false, false, false, false, false, false, false, false, false, false, false, false] rfl rfl (by kernel_rfl) (fun _ _ _ h => h) (Or.inl ⟨by rfl, ?_⟩) ?_ ?_
              rotate_left
              · intro w'
                go_simp
                with_reducible rfl
              rotate_left
              · simp only [Act.put, List.setIfInBounds_toArray, List.set_cons_zero, List.set_cons_succ, i64_w, i32_w]
                rfl
              refine take_ (i := 9) (N := some 82) (v := ?_) (a' := ?_) #[true, true, true, true, true, true, true, true, true, true, false, false, false, false, false, false, false, false, false, false, false, false, false] rfl rfl (by kernel_rfl) (fun _ _ _ h => h) (Or.inl ⟨by rfl, ?_⟩) hHeld ?_ ?_
              rotate_left
              · rintro w' ⟨s0, s1, s2, s3, s4, s5, s6, s7, s8, s9, s10, s11, s12, s13, s14, s15, s16, s17, s18, s19, s20, s21, s22, s23, s24, s25⟩
                go_simp
                with_reducible rfl
              rotate_left
              · simp only [Act.put, List.setIfInBounds_toArray, List.set_cons_zero, List.set_cons_succ, i64_w, i32_w]
                rfl
              refine pure_ (i := 10) (N := some 83) (v := ?_) (a' := ?_) #[true, true, true, true, true, true, true, true, true, true, true, false, false, false, false, false, false, false, false, false, false, false, false] rfl rfl (by kernel_rfl) (fun _ _ _ h => h) (Or.inl ⟨by rfl, ?_⟩) ?_ ?_
              rotate_left
              · intro w'
                go_simp
                with_reducible rfl
              rotate_left
              · simp only [Act.put, List.setIfInBounds_toArray, List.set_cons_zero, List.set_cons_succ, i64_w, i32_w]
                rfl
              refine pure_ (i := 11) (N := some 84) (v := ?_) (a' := ?_) #[true, true, true, true, true, true, true, true, true, true, true, true, false, false, false, false, false, false, false, false, false, false, false] rfl rfl (by kernel_rfl) (fun _ _ _ h => h) (Or.inl ⟨by rfl, ?_⟩) ?_ ?_
              rotate_left
              · intro w'
                go_simp
                with_reducible rfl
              rotate_left
              · simp only [Act.put, List.setIfInBounds_toArray, List.set_cons_zero, List.set_cons_succ, i64_w, i32_w]
                rfl
              refine pure_ (i := 12) (N := some 85) (v := undef) (a' := ?_) #[true, true, true, true, true, true, true, true, true, true, true, true, true, false, false, false, false, false, false, false, false, false, false] rfl rfl (by kernel_rfl) (fun _ _ _ h => h) (Or.inr ⟨by rfl, rfl⟩) ?_ ?_
              rotate_left
              · simp only [Act.put, List.setIfInBounds_toArray, List.set_cons_zero, List.set_cons_succ, i64_w, i32_w]
                rfl
              refine pure_ (i := 13) (N := some 86) (v := undef) (a' := ?_) #[true, true, true, true, true, true, true, true, true, true, true, true, true, true, false, false, false, false, false, false, false, false, false] rfl rfl (by kernel_rfl) (fun _ _ _ h => h) (Or.inr ⟨by rfl, rfl⟩) ?_ ?_
              rotate_left
              · simp only [Act.put, List.setIfInBounds_toArray, List.set_cons_zero, List.set_cons_succ, i64_w, i32_w]
                rfl
              refine pure_ (i := 14) (N := some 87) (v := undef) (a' := ?_) #[true, true, true, true, true, true, true, true, true, true, true, true, true, true, true, false, false, false, false, false, false, false, false] rfl rfl (by kernel_rfl) (fun _ _ _ h => h) (Or.inr ⟨by rfl, rfl⟩) ?_ ?_
              rotate_left
              · simp only [Act.put, List.setIfInBounds_toArray, List.set_cons_zero, List.set_cons_succ, i64_w, i32_w]
                rfl
              refine pure_ (i := 15) (N := some 88) (v := undef) (a' := ?_) #[true, true, true, true, true, true, true, true, true, true, true, true, true, true, true, true, false, false, false, false, false, false, false] rfl rfl (by kernel_rfl) (fun _ _ _ h => h) (Or.inr ⟨by rfl, rfl⟩) ?_ ?_
              rotate_left
              · simp only [Act.put, List.setIfInBounds_toArray, List.set_cons_zero, List.set_cons_succ, i64_w, i32_w]
                rfl
              refine pure_ (i := 16) (N := some 89) (v := undef) (a' := ?_) #[true, true, true, true, true, true, true, true, true, true, true, true, true, true, true, true, true, false, false, false, false, false, false] rfl rfl (by kernel_rfl) (fun _ _ _ h => h) (Or.inr ⟨by rfl, rfl⟩) ?_ ?_
              rotate_left
              · simp only [Act.put, List.setIfInBounds_toArray, List.set_cons_zero, List.set_cons_succ, i64_w, i32_w]
                rfl
              refine pure_ (i := 17) (N := some 90) (v := undef) (a' := ?_) #[true, true, true, true, true, true, true, true, true, true, true, true, true, true, true, true, true, true, false, false, false, false, false] rfl rfl (by kernel_rfl) (fun _ _ _ h => h) (Or.inr ⟨by rfl, rfl⟩) ?_ ?_
              rotate_left
              · simp only [Act.put, List.setIfInBounds_toArray, List.set_cons_zero, List.set_cons_succ, i64_w, i32_w]
                rfl
              refine pure_ (i := 18) (N := some 91) (v := undef) (a' := ?_) #[true, true, true, true, true, true, true, true, true, true, true, true, true, true, true, true, true, true, true, false, false, false, false] rfl rfl (by kernel_rfl) (fun _ _ _ h => h) (Or.inr ⟨by rfl, rfl⟩) ?_ ?_
              rotate_left
              · simp only [Act.put, List.setIfInBounds_toArray, List.set_cons_zero, List.set_cons_succ, i64_w, i32_w]
                rfl
              refine pure_ (i := 19) (N := some 92) (v := undef) (a' := ?_) #[true, true, true, true, true, true, true, true, true, true, true, true, true, true, true, true, true, true, true, true, false, false, false] rfl rfl (by kernel_rfl) (fun _ _ _ h => h) (Or.inr ⟨by rfl, rfl⟩) ?_ ?_
              rotate_left
              · simp only [Act.put, List.setIfInBounds_toArray, List.set_cons_zero, List.set_cons_succ, i64_w, i32_w]
                rfl
              refine pure_ (i := 20) (N := some 93) (v := undef) (a' := ?_) #[true, true, true, true, true, true, true, true, true, true, true, true, true, true, true, true, true, true, true, true, true, false, false] rfl rfl (by kernel_rfl) (fun _ _ _ h => h) (Or.inr ⟨by rfl, rfl⟩) ?_ ?_
              rotate_left
              · simp only [Act.put, List.setIfInBounds_toArray, List.set_cons_zero, List.set_cons_succ, i64_w, i32_w]
                rfl
              refine pure_ (i := 21) (N := some 94) (v := ?_) (a' := ?_) #[true, true, true, true, true, true, true, true, true, true, true, true, true, true, true, true, true, true, true, true, true, true, false] rfl rfl (by kernel_rfl) (fun _ _ _ h => h) (Or.inl ⟨by rfl, ?_⟩) ?_ ?_
              rotate_left
              · intro w'
                go_simp
                with_reducible rfl
              rotate_left
              · simp only [Act.put, List.setIfInBounds_toArray, List.set_cons_zero, List.set_cons_succ, i64_w, i32_w]
                rfl
              refine pure_ (i := 22) (N := some 95) (v := ?_) (a' := ?_) #[true, true, true, true, true, true, true, true, true, true, true, true, true, true, true, true, true, true, true, true, true, true, true] rfl rfl (by kernel_rfl) (fun _ _ _ h => h) (Or.inl ⟨by rfl, ?_⟩) ?_ ?_
              rotate_left
              · intro w'
                go_simp
                with_reducible rfl
              rotate_left
              · simp only [Act.put, List.setIfInBounds_toArray, List.set_cons_zero, List.set_cons_succ, i64_w, i32_w]
                rfl
              refine done_ (by kernel_rfl) ?_
              replace HL := Lib.hid HL.out.drew
              replace HF := Lib.hid HF.out.drew
              replace HP := Lib.hid HP.out.drew
              replace HW := Lib.hid HW.out.drew
              replace HB := Lib.hid (b_drew HB.out)
              generalize wc.drew = wd at *
              have F3 : decide (ny ≤ o1) = false := decide_eq_false (by have := grow_open HKB.out HGB.out HNO.out.1 (.inl HNO.out.2); dsimp only at this; omega)
              go_upto_region 19 with fail
              refine start_ (n := 8) (S := fun w' => w'.cell? ⟨w1.heap.size, 0, none⟩ = some (.int .i64 lx) ∧ w'.cell? ⟨w1.heap.size, 1, none⟩ = some (.int .i64 rx) ∧ w'.cell? ⟨w1.heap.size, 2, none⟩ = some (.int .i64 ex) ∧ w'.cell? ⟨w1.heap.size, 3, none⟩ = some (.int .i64 nx) ∧ w'.cell? ⟨w1.heap.size, 4, none⟩ = some (.int .i64 px) ∧ w'.cell? ⟨w1.heap.size, 5, none⟩ = some (.int .i64 dx) ∧ w'.cell? ⟨w1.heap.size, 6, none⟩ = some (.int .i64 ly) ∧ w'.cell? ⟨w1.heap.size, 7, none⟩ = some (.int .i64 ry) ∧ w'.cell? ⟨w1.heap.size, 8, none⟩ = some (.int .i64 ey) ∧ w'.cell? ⟨w1.heap.size, 9, none⟩ = some (.int .i64 ny) ∧ w'.cell? ⟨w1.heap.size, 10, none⟩ = some (.int .i64 py) ∧ w'.cell? ⟨w1.heap.size, 11, none⟩ = some (.int .i64 dy) ∧ w'.cell? ⟨bf, 0, none⟩ = some (.int .i64 l) ∧ w'.cell? ⟨bf, 1, none⟩ = some (.int .i64 r) ∧ w'.cell? ⟨bf, 2, none⟩ = some (.int .i64 e) ∧ w'.cell? ⟨bf, 3, none⟩ = some (.int .i64 n') ∧ w'.cell? ⟨bf, 4, none⟩ = some (.int .i64 p) ∧ w'.cell? ⟨bf, 5, none⟩ = some (.int .i64 d) ∧ w'.cell? ⟨bf, 6, none⟩ = some (.int .i64 l2) ∧ w'.cell? ⟨bf, 7, none⟩ = some (.int .i64 r2) ∧ w'.cell? ⟨bf, 8, none⟩ = some (.int .i64 e2) ∧ w'.cell? ⟨bf, 9, none⟩ = some (.int .i64 n2) ∧ w'.cell? ⟨bf, 10, none⟩ = some (.int .i64 p2) ∧ w'.cell? ⟨bf, 11, none⟩ = some (.int .i64 d2) ∧ w'.cell? ⟨w1.heap.size + 1, 0, none⟩ = some (.int .i64 p0) ∧ w'.cell? ⟨w1.heap.size + 1, 1, none⟩ = some (.int .i64 o1)) (ds := []) #[false, false, false, false, false, false, false, false] (by kernel_rfl) rfl rfl ⟨(HL.out.drew.cell 0), (HL.out.drew.cell 1), (HL.out.drew.cell 2), (HL.out.drew.cell 3), (HL.out.drew.cell 4), (HL.out.drew.cell 5), (HL.out.drew.cell 6), (HL.out.drew.cell 7), (HL.out.drew.cell 8), (HL.out.drew.cell 9), (HL.out.drew.cell 10), (HL.out.drew.cell 11), (HF.out.drew.cell 0), (HF.out.drew.cell 1), (HF.out.drew.cell 2), (HF.out.drew.cell 3), (HF.out.drew.cell 4), (HF.out.drew.cell 5), (HF.out.drew.cell 6), (HF.out.drew.cell 7), (HF.out.drew.cell 8), (HF.out.drew.cell 9), (HF.out.drew.cell 10), (HF.out.drew.cell 11), (HP.out.drew.cell 0), (HP.out.drew.cell 1)⟩ (fun hHeld => ?_)
              refine pure_ (i := 0) (N := some 96) (v := ?_) (a' := ?_) #[true, false, false, false, false, false, false, false] rfl rfl (by kernel_rfl) (fun _ _ _ h => h) (Or.inl ⟨by rfl, ?_⟩) ?_ ?_
              rotate_left
              · intro w'
                go_simp
                with_reducible rfl
              rotate_left
              · simp only [Act.put, List.setIfInBounds_toArray, List.set_cons_zero, List.set_cons_succ, i64_w, i32_w]
                rfl
              refine pure_ (i := 1) (N := some 97) (v := ?_) (a' := ?_) #[true, true, false, false, false, false, false, false] rfl rfl (by kernel_rfl) (fun _ _ _ h => h) (Or.inl ⟨by rfl, ?_⟩) ?_ ?_
              rotate_left
              · intro w'
                go_simp
                with_reducible rfl
              rotate_left
              · simp only [Act.put, List.setIfInBounds_toArray, List.set_cons_zero, List.set_cons_succ, i64_w, i32_w]
                rfl
              refine pure_ (i := 2) (N := some 98) (v := ?_) (a' := ?_) #[true, true, true, false, false, false, false, false] rfl rfl (by kernel_rfl) (fun _ _ _ h => h) (Or.inl ⟨by rfl, ?_⟩) ?_ ?_
              rotate_left
              · intro w'
                go_simp
                with_reducible rfl
              rotate_left
              · simp only [Act.put, List.setIfInBounds_toArray, List.set_cons_zero, List.set_cons_succ, i64_w, i32_w]
                rfl
              refine pure_ (i := 4) (N := some 100) (v := ?_) (a' := ?_) #[true, true, true, false, true, false, false, false] rfl rfl (by kernel_rfl) (fun _ _ _ h => h) (Or.inl ⟨by rfl, ?_⟩) ?_ ?_
              rotate_left
              · intro w'
                go_simp
                with_reducible rfl
              rotate_left
              · simp only [Act.put, List.setIfInBounds_toArray, List.set_cons_zero, List.set_cons_succ, i64_w, i32_w]
                rfl
              refine pure_ (i := 5) (N := some 101) (v := ?_) (a' := ?_) #[true, true, true, false, true, true, false, false] rfl rfl (by kernel_rfl) (fun _ _ _ h => h) (Or.inl ⟨by rfl, ?_⟩) ?_ ?_
              rotate_left
              · intro w'
                go_simp
                with_reducible rfl
              rotate_left
              · simp only [Act.put, List.setIfInBounds_toArray, List.set_cons_zero, List.set_cons_succ, i64_w, i32_w]
                rfl
              refine take_ (i := 3) (N := some 99) (v := ?_) (a' := ?_) #[true, true, true, true, true, true, false, false] rfl rfl (by kernel_rfl) (fun _ _ _ h => h) (Or.inl ⟨by rfl, ?_⟩) hHeld ?_ ?_
              rotate_left
              · rintro w' ⟨s0, s1, s2, s3, s4, s5, s6, s7, s8, s9, s10, s11, s12, s13, s14, s15, s16, s17, s18, s19, s20, s21, s22, s23, s24, s25⟩
                go_simp
                with_reducible rfl
              rotate_left
              · simp only [Act.put, List.setIfInBounds_toArray, List.set_cons_zero, List.set_cons_succ, i64_w, i32_w]
                rfl
              refine take_ (i := 6) (N := some 102) (v := ?_) (a' := ?_) #[true, true, true, true, true, true, true, false] rfl rfl (by kernel_rfl) (fun _ _ _ h => h) (Or.inl ⟨by rfl, ?_⟩) hHeld ?_ ?_
              rotate_left
              · rintro w' ⟨s0, s1, s2, s3, s4, s5, s6, s7, s8, s9, s10, s11, s12, s13, s14, s15, s16, s17, s18, s19, s20, s21, s22, s23, s24, s25⟩
                go_simp
                with_reducible rfl
              rotate_left
              · simp only [Act.put, List.setIfInBounds_toArray, List.set_cons_zero, List.set_cons_succ, i64_w, i32_w]
                rfl
              refine pure_ (i := 7) (N := some 103) (v := ?_) (a' := ?_) #[true, true, true, true, true, true, true, true] rfl rfl (by kernel_rfl) (fun _ _ _ h => h) (Or.inl ⟨by rfl, ?_⟩) ?_ ?_
              rotate_left
              · intro w'
                go_simp
                with_reducible rfl
              rotate_left
              · simp only [Act.put, List.setIfInBounds_toArray, List.set_cons_zero, List.set_cons_succ, i64_w, i32_w]
                rfl
              refine done_ (by kernel_rfl) ?_
              replace HL := Lib.hid HL.out.drew
              replace HF := Lib.hid HF.out.drew
              replace HP := Lib.hid HP.out.drew
              replace HW := Lib.hid HW.out.drew
              replace HB := Lib.hid (b_drew HB.out)
              generalize wd.drew = we at *
              have hL := HL.out
              have hP := HP.out
              obtain ⟨y0, y1, y2, y3, y4, y5, y6, y7, y8, y9, y10, y11, z0, z1, z2, z3, z4, z5, z6, z7, z8, z9, z10, z11⟩ := hL.twelve
              have g0 := hP.cell 0
              have g1 := hP.cell 1
              have g2 := hP.frozen 0
              have g3 := hP.frozen 1
              have hP4 := Lib.hid (hP.set 1 (.int .i64 ny))
              have hL4 := Lib.hid (hL.far (p := ⟨w1.heap.size + 1, 1, none⟩) (by simp) (.int .i64 ny))
              have hF4 := Lib.hid (HF.out.far (p := ⟨w1.heap.size + 1, 1, none⟩) (by show bf ≠ w1.heap.size + 1; omega) (.int .i64 ny))
              have hW4 := Lib.hid (HW.out.far (g := w1.heap.size + 1) (i := 1) (u := .int .i64 ny) (by omega))
              have hB4 := Lib.hid (b_set (g := w1.heap.size + 1) (j := 1) (v := .int .i64 ny) HB.out (by have := LB.out; omega))
              clear hL hP HL HF HP HW HB
              go_wp2_with fail
              go_roundg (gk - 1)
              case measure => omega
              case rel => exact ⟨1 + 1, p0, ny, by omega, by go_num, hL4.out, hF4.out, hP4.out, hW4.out, hB4.out, by simpa using HP0.out, by rw [if_neg (by omega)]; unfold opn; rw [if_pos (⟨HNO.out.1, .inl HNO.out.2⟩)]⟩
          · have t1 : (py == 2) = false := beq_eq_false_iff_ne.2 hT
            have HNO := Lib.hid hT
            clear hT
            refine start_ (n := 23) (S := fun w' => w'.cell? ⟨w1.heap.size, 0, none⟩ = some (.int .i64 lx) ∧ w'.cell? ⟨w1.heap.size, 1, none⟩ = some (.int .i64 rx) ∧ w'.cell? ⟨w1.heap.size, 2, none⟩ = some (.int .i64 ex) ∧ w'.cell? ⟨w1.heap.size, 3, none⟩ = some (.int .i64 nx) ∧ w'.cell? ⟨w1.heap.size, 4, none⟩ = some (.int .i64 px) ∧ w'.cell? ⟨w1.heap.size, 5, none⟩ = some (.int .i64 dx) ∧ w'.cell? ⟨w1.heap.size, 6, none⟩ = some (.int .i64 ly) ∧ w'.cell? ⟨w1.heap.size, 7, none⟩ = some (.int .i64 ry) ∧ w'.cell? ⟨w1.heap.size, 8, none⟩ = some (.int .i64 ey) ∧ w'.cell? ⟨w1.heap.size, 9, none⟩ = some (.int .i64 ny) ∧ w'.cell? ⟨w1.heap.size, 10, none⟩ = some (.int .i64 py) ∧ w'.cell? ⟨w1.heap.size, 11, none⟩ = some (.int .i64 dy) ∧ w'.cell? ⟨bf, 0, none⟩ = some (.int .i64 l) ∧ w'.cell? ⟨bf, 1, none⟩ = some (.int .i64 r) ∧ w'.cell? ⟨bf, 2, none⟩ = some (.int .i64 e) ∧ w'.cell? ⟨bf, 3, none⟩ = some (.int .i64 n') ∧ w'.cell? ⟨bf, 4, none⟩ = some (.int .i64 p) ∧ w'.cell? ⟨bf, 5, none⟩ = some (.int .i64 d) ∧ w'.cell? ⟨bf, 6, none⟩ = some (.int .i64 l2) ∧ w'.cell? ⟨bf, 7, none⟩ = some (.int .i64 r2) ∧ w'.cell? ⟨bf, 8, none⟩ = some (.int .i64 e2) ∧ w'.cell? ⟨bf, 9, none⟩ = some (.int .i64 n2) ∧ w'.cell? ⟨bf, 10, none⟩ = some (.int .i64 p2) ∧ w'.cell? ⟨bf, 11, none⟩ = some (.int .i64 d2) ∧ w'.cell? ⟨w1.heap.size + 1, 0, none⟩ = some (.int .i64 p0) ∧ w'.cell? ⟨w1.heap.size + 1, 1, none⟩ = some (.int .i64 o1)) (ds := []) #[false, false, false, false, false, false, false, false, false, false, false, false, false, false, false, false, false, false, false, false, false, false, false] (by kernel_rfl) rfl rfl ⟨(HL.out.drew.cell 0), (HL.out.drew.cell 1), (HL.out.drew.cell 2), (HL.out.drew.cell 3), (HL.out.drew.cell 4), (HL.out.drew.cell 5), (HL.out.drew.cell 6), (HL.out.drew.cell 7), (HL.out.drew.cell 8), (HL.out.drew.cell 9), (HL.out.drew.cell 10), (HL.out.drew.cell 11), (HF.out.drew.cell 0), (HF.out.drew.cell 1), (HF.out.drew.cell 2), (HF.out.drew.cell 3), (HF.out.drew.cell 4), (HF.out.drew.cell 5), (HF.out.drew.cell 6), (HF.out.drew.cell 7), (HF.out.drew.cell 8), (HF.out.drew.cell 9), (HF.out.drew.cell 10), (HF.out.drew.cell 11), (HP.out.drew.cell 0), (HP.out.drew.cell 1)⟩ (fun hHeld => ?_)
            refine pure_ (i := 0) (N := some 73) (v := ?_) (a' := ?_) #[true, false, false, false, false, false, false, false, false, false, false, false, false, false, false, false, false, false, false, false, false, false, false] rfl rfl (by kernel_rfl) (fun _ _ _ h => h) (Or.inl ⟨by rfl, ?_⟩) ?_ ?_
            rotate_left
            · intro w'
              go_simp
              with_reducible rfl
            rotate_left
            · simp only [Act.put, List.setIfInBounds_toArray, List.set_cons_zero, List.set_cons_succ, i64_w, i32_w]
              rfl
            refine pure_ (i := 1) (N := some 74) (v := ?_) (a' := ?_) #[true, true, false, false, false, false, false, false, false, false, false, false, false, false, false, false, false, false, false, false, false, false, false] rfl rfl (by kernel_rfl) (fun _ _ _ h => h) (Or.inl ⟨by rfl, ?_⟩) ?_ ?_
            rotate_left
            · intro w'
              go_simp
              with_reducible rfl
            rotate_left
            · simp only [Act.put, List.setIfInBounds_toArray, List.set_cons_zero, List.set_cons_succ, i64_w, i32_w]
              rfl
            refine pure_ (i := 2) (N := some 75) (v := ?_) (a' := ?_) #[true, true, true, false, false, false, false, false, false, false, false, false, false, false, false, false, false, false, false, false, false, false, false] rfl rfl (by kernel_rfl) (fun _ _ _ h => h) (Or.inl ⟨by rfl, ?_⟩) ?_ ?_
            rotate_left
            · intro w'
              go_simp
              with_reducible rfl
            rotate_left
            · simp only [Act.put, List.setIfInBounds_toArray, List.set_cons_zero, List.set_cons_succ, i64_w, i32_w]
              rfl
            refine take_ (i := 3) (N := some 76) (v := ?_) (a' := ?_) #[true, true, true, true, false, false, false, false, false, false, false, false, false, false, false, false, false, false, false, false, false, false, false] rfl rfl (by kernel_rfl) (fun _ _ _ h => h) (Or.inl ⟨by rfl, ?_⟩) hHeld ?_ ?_
            rotate_left
            · rintro w' ⟨s0, s1, s2, s3, s4, s5, s6, s7, s8, s9, s10, s11, s12, s13, s14, s15, s16, s17, s18, s19, s20, s21, s22, s23, s24, s25⟩
              go_simp
              with_reducible rfl
            rotate_left
            · simp only [Act.put, List.setIfInBounds_toArray, List.set_cons_zero, List.set_cons_succ, i64_w, i32_w]
              rfl
            refine pure_ (i := 4) (N := some 77) (v := ?_) (a' := ?_) #[true, true, true, true, true, false, false, false, false, false, false, false, false, false, false, false, false, false, false, false, false, false, false] rfl rfl (by kernel_rfl) (fun _ _ _ h => h) (Or.inl ⟨by rfl, ?_⟩) ?_ ?_
            rotate_left
            · intro w'
              go_simp
              with_reducible rfl
            rotate_left
            · simp only [Act.put, List.setIfInBounds_toArray, List.set_cons_zero, List.set_cons_succ, i64_w, i32_w]
              rfl
            refine pure_ (i := 5) (N := some 78) (v := ?_) (a' := ?_) #[true, true, true, true, true, true, false, false, false, false, false, false, false, false, false, false, false, false, false, false, false, false, false] rfl rfl (by kernel_rfl) (fun _ _ _ h => h) (Or.inl ⟨by rfl, ?_⟩) ?_ ?_
            rotate_left
            · intro w'
              go_simp
              with_reducible rfl
            rotate_left
            · simp only [Act.put, List.setIfInBounds_toArray, List.set_cons_zero, List.set_cons_succ, i64_w, i32_w]
              rfl
            refine pure_ (i := 6) (N := some 79) (v := undef) (a' := ?_) #[true, true, true, true, true, true, true, false, false, false, false, false, false, false, false, false, false, false, false, false, false, false, false] rfl rfl (by kernel_rfl) (fun _ _ _ h => h) (Or.inr ⟨by rfl, rfl⟩) ?_ ?_
            rotate_left
            · simp only [Act.put, List.setIfInBounds_toArray, List.set_cons_zero, List.set_cons_succ, i64_w, i32_w]
              rfl
            refine pure_ (i := 7) (N := some 80) (v := undef) (a' := ?_) #[true, true, true, true, true, true, true, true, false, false, false, false, false, false, false, false, false, false, false, false, false, false, false] rfl rfl (by kernel_rfl) (fun _ _ _ h => h) (Or.inr ⟨by rfl, rfl⟩) ?_ ?_
            rotate_left
            · simp only [Act.put, List.setIfInBounds_toArray, List.set_cons_zero, List.set_cons_succ, i64_w, i32_w]
              rfl
            refine pure_ (i := 8) (N := some 81) (v := undef) (a' := ?_) #[true, true, true, true, true, true, true, true, true, false, false, false, false, false, false, false, false, false, false, false, false, false, false] rfl rfl (by kernel_rfl) (fun _ _ _ h => h) (Or.inr ⟨by rfl, rfl⟩) ?_ ?_
            rotate_left
            · simp only [Act.put, List.setIfInBounds_toArray, List.set_cons_zero, List.set_cons_succ, i64_w, i32_w]
              rfl
            refine pure_ (i := 9) (N := some 82) (v := undef) (a' := ?_) #[true, true, true, true, true, true, true, true, true, true, false, false, false, false, false, false, false, false, false, false, false, false, false] rfl rfl (by kernel_rfl) (fun _ _ _ h => h) (Or.inr ⟨by rfl, rfl⟩) ?_ ?_
            rotate_left
            · simp only [Act.put, List.setIfInBounds_toArray, List.set_cons_zero, List.set_cons_succ, i64_w, i32_w]
              rfl
            refine pure_ (i := 10) (N := some 83) (v := undef) (a' := ?_) #[true, true, true, true, true, true, true, true, true, true, true, false, false, false, false, false, false, false, false, false, false, false, false] rfl rfl (by kernel_rfl) (fun _ _ _ h => h) (Or.inr ⟨by rfl, rfl⟩) ?_ ?_
            rotate_left
            · simp only [Act.put, List.setIfInBounds_toArray, List.set_cons_zero, List.set_cons_succ, i64_w, i32_w]
              rfl
            refine pure_ (i := 11) (N := some 84) (v := undef) (a' := ?_) #[true, true, true, true, true, true, true, true, true, true, true, true, false, false, false, false, false, false, false, false, false, false, false] rfl rfl (by kernel_rfl) (fun _ _ _ h => h) (Or.inr ⟨by rfl, rfl⟩) ?_ ?_
            rotate_left
            · simp only [Act.put, List.setIfInBounds_toArray, List.set_cons_zero, List.set_cons_succ, i64_w, i32_w]
              rfl
            refine pure_ (i := 12) (N := some 85) (v := undef) (a' := ?_) #[true, true, true, true, true, true, true, true, true, true, true, true, true, false, false, false, false, false, false, false, false, false, false] rfl rfl (by kernel_rfl) (fun _ _ _ h => h) (Or.inr ⟨by rfl, rfl⟩) ?_ ?_
            rotate_left
            · simp only [Act.put, List.setIfInBounds_toArray, List.set_cons_zero, List.set_cons_succ, i64_w, i32_w]
              rfl
            refine pure_ (i := 13) (N := some 86) (v := undef) (a' := ?_) #[true, true, true, true, true, true, true, true, true, true, true, true, true, true, false, false, false, false, false, false, false, false, false] rfl rfl (by kernel_rfl) (fun _ _ _ h => h) (Or.inr ⟨by rfl, rfl⟩) ?_ ?_
            rotate_left
            · simp only [Act.put, List.setIfInBounds_toArray, List.set_cons_zero, List.set_cons_succ, i64_w, i32_w]
              rfl
            refine pure_ (i := 14) (N := some 87) (v := undef) (a' := ?_) #[true, true, true, true, true, true, true, true, true, true, true, true, true, true, true, false, false, false, false, false, false, false, false] rfl rfl (by kernel_rfl) (fun _ _ _ h => h) (Or.inr ⟨by rfl, rfl⟩) ?_ ?_
            rotate_left
            · simp only [Act.put, List.setIfInBounds_toArray, List.set_cons_zero, List.set_cons_succ, i64_w, i32_w]
              rfl
            refine pure_ (i := 15) (N := some 88) (v := undef) (a' := ?_) #[true, true, true, true, true, true, true, true, true, true, true, true, true, true, true, true, false, false, false, false, false, false, false] rfl rfl (by kernel_rfl) (fun _ _ _ h => h) (Or.inr ⟨by rfl, rfl⟩) ?_ ?_
            rotate_left
            · simp only [Act.put, List.setIfInBounds_toArray, List.set_cons_zero, List.set_cons_succ, i64_w, i32_w]
              rfl
            refine pure_ (i := 16) (N := some 89) (v := undef) (a' := ?_) #[true, true, true, true, true, true, true, true, true, true, true, true, true, true, true, true, true, false, false, false, false, false, false] rfl rfl (by kernel_rfl) (fun _ _ _ h => h) (Or.inr ⟨by rfl, rfl⟩) ?_ ?_
            rotate_left
            · simp only [Act.put, List.setIfInBounds_toArray, List.set_cons_zero, List.set_cons_succ, i64_w, i32_w]
              rfl
            refine pure_ (i := 17) (N := some 90) (v := undef) (a' := ?_) #[true, true, true, true, true, true, true, true, true, true, true, true, true, true, true, true, true, true, false, false, false, false, false] rfl rfl (by kernel_rfl) (fun _ _ _ h => h) (Or.inr ⟨by rfl, rfl⟩) ?_ ?_
            rotate_left
            · simp only [Act.put, List.setIfInBounds_toArray, List.set_cons_zero, List.set_cons_succ, i64_w, i32_w]
              rfl
            refine pure_ (i := 18) (N := some 91) (v := undef) (a' := ?_) #[true, true, true, true, true, true, true, true, true, true, true, true, true, true, true, true, true, true, true, false, false, false, false] rfl rfl (by kernel_rfl) (fun _ _ _ h => h) (Or.inr ⟨by rfl, rfl⟩) ?_ ?_
            rotate_left
            · simp only [Act.put, List.setIfInBounds_toArray, List.set_cons_zero, List.set_cons_succ, i64_w, i32_w]
              rfl
            refine pure_ (i := 19) (N := some 92) (v := undef) (a' := ?_) #[true, true, true, true, true, true, true, true, true, true, true, true, true, true, true, true, true, true, true, true, false, false, false] rfl rfl (by kernel_rfl) (fun _ _ _ h => h) (Or.inr ⟨by rfl, rfl⟩) ?_ ?_
            rotate_left
            · simp only [Act.put, List.setIfInBounds_toArray, List.set_cons_zero, List.set_cons_succ, i64_w, i32_w]
              rfl
            refine pure_ (i := 20) (N := some 93) (v := undef) (a' := ?_) #[true, true, true, true, true, true, true, true, true, true, true, true, true, true, true, true, true, true, true, true, true, false, false] rfl rfl (by kernel_rfl) (fun _ _ _ h => h) (Or.inr ⟨by rfl, rfl⟩) ?_ ?_
            rotate_left
            · simp only [Act.put, List.setIfInBounds_toArray, List.set_cons_zero, List.set_cons_succ, i64_w, i32_w]
              rfl
            refine pure_ (i := 21) (N := some 94) (v := undef) (a' := ?_) #[true, true, true, true, true, true, true, true, true, true, true, true, true, true, true, true, true, true, true, true, true, true, false] rfl rfl (by kernel_rfl) (fun _ _ _ h => h) (Or.inr ⟨by rfl, rfl⟩) ?_ ?_
            rotate_left
            · simp only [Act.put, List.setIfInBounds_toArray, List.set_cons_zero, List.set_cons_succ, i64_w, i32_w]
              rfl
            refine pure_ (i := 22) (N := some 95) (v := ?_) (a' := ?_) #[true, true, true, true, true, true, true, true, true, true, true, true, true, true, true, true, true, true, true, true, true, true, true] rfl rfl (by kernel_rfl) (fun _ _ _ h => h) (Or.inl ⟨by rfl, ?_⟩) ?_ ?_
            rotate_left
            · intro w'
              go_simp
              with_reducible rfl
            rotate_left
            · simp only [Act.put, List.setIfInBounds_toArray, List.set_cons_zero, List.set_cons_succ, i64_w, i32_w]
              rfl
            refine done_ (by kernel_rfl) ?_
            replace HL := Lib.hid HL.out.drew
            replace HF := Lib.hid HF.out.drew
            replace HP := Lib.hid HP.out.drew
            replace HW := Lib.hid HW.out.drew
            replace HB := Lib.hid (b_drew HB.out)
            generalize wc.drew = wd at *
            go_wp2_with fail
            go_roundg (gk - 1)
            case measure => omega
            case rel => exact ⟨1 + 1, p0, o1, by omega, by go_num, HL.out, HF.out, HP.out, HW.out, HB.out, by simpa using HP0.out, by rw [if_neg (by omega)]; unfold opn; rw [if_neg (fun q => HNO.out q.1)]⟩
        · obtain rfl : j = 2 := by omega
          have hpp := HO.out
          have hp0 : p0 = opn ⟨l, r, e, n', p, d⟩ ⟨lx, rx, ex, nx, px, dx⟩ o0 := by simpa using hpp.1
          have hp1 : p1 = opn ⟨l2, r2, e2, n2, p2, d2⟩ ⟨ly, ry, ey, ny, py, dy⟩ o1 := by simpa using hpp.2
          have G0 := Lib.hid (grow_next HKA.out HGA.out)
          have G1 := Lib.hid (grow_next HKB.out HGB.out)
          rw [← hp0] at G0
          rw [← hp1] at G1
          clear hp0 hp1 hpp HO
          have HL := Lib.hid hL
          have HP := Lib.hid hP
          have HW := Lib.hid hrow
          have HB := Lib.hid hb
          clear hL hF hP hrow hb
          go_wp2_with fail
          go_roundg (gko - 1)
          case measure => omega
          case rel => exact ⟨k + 1, p0, p1, by omega, by go_num, by rw [HST.out]; exact HL.out, HP.out, by rw [HST.out]; exact HW.out, by rw [HST.out]; exact G0.out, by rw [HST.out]; exact G1.out, HB.out⟩
    · have HB := Lib.hid hb
      clear hL hP hrow hg0 hg1 hb HI HA
      go_wp2_with fail
      refine (awake_any _).mono ?_
      rintro e9 wz ⟨rfl, hx⟩
      go_wp2_with fail
      go_ret
      exact ⟨rfl, b_step HB.out hx⟩
end Go.Proofs.Ytemljffppdjmgaa
