/- SessionConnects returns true for all starts, steps and ends. -/
import Derived.Test.YtemljffppdjmgaaJ
import Derived.Test.YtemljffppdjmgaaKc
namespace Go.Proofs.Ytemljffppdjmgaa
open Go.RowKit Go.Proofs.YtemljffppdjmgaaW.PrintLast
set_option linter.unusedVariables false
set_option linter.unusedSimpArgs false
theorem acc_same {a b : Ses} (h : Ok a) (hp : a.p = 2) (hn : a.n = b.n) (he : a.e = b.e) : accF a b.n b.e = 0 := by
  unfold accF
  rw [chk_zero.2 h, if_neg (by simp), if_neg (by omega), if_neg (by omega), if_neg (by omega)]
set_option maxRecDepth 20000 in
set_option maxHeartbeats 8000000 in
theorem connects_f (e0 e1 n0 n1 : Int) (a0 : 0 ≤ e0) (a1 : e0 ≤ 255) (b0 : 0 ≤ e1) (b1 : e1 ≤ 255) (c0 : 0 ≤ n0) (c1 : n0 ≤ 255) (d0 : 0 ≤ n1) (d1 : n1 ≤ 255)
    (A : Option Addr) (len cap : Nat) (K : Nat → Int) (O : Nat → Bool) (Q : Nat → Int) (w : World) (hA : 0 < len → ∃ b off, A = some ⟨b, off, none⟩ ∧ StepAt w b off len K O Q) :
    Calls Try.prog 3 #[.agg #[.int .u8 e0, .int .u8 e1, .int .u8 n0, .int .u8 n1], .slice A len cap, .bool false] w fun e w' => e = .returned (.bool true) ∧ Below w.heap.size w w' := by
  by_cases h60 : (60 : Int) < len
  · clear hA
    go_enter Try.func3, Try.ntmps3
    go_wp2_with fail
    refine (awake_any _).mono ?_
    rintro e w1 ⟨rfl, h1⟩
    go_wp2_with fail
    go_ret
    exact ⟨rfl, b_step (b_alloc (Below.refl _ _) _) h1⟩
  have h60' : (len : Int) ≤ 60 := by omega
  have HE := Lib.hid (fun w => ends_any e0 e1 n0 n1 a0 a1 b0 b1 c0 c1 d0 d1 w)
  have HI := Lib.hid (fun i => run_inv (Inv.start e0 e1 n0 n1) K O Q i)
  have HBD := Lib.hid (fun i => run_bound (Inv.start e0 e1 n0 n1) (by unfold endA; dsimp only; omega) (by unfold endB; dsimp only; omega) K O Q i)
  have HA := Lib.hid hA
  clear hA h60 a0 a1 b0 b1 c0 c1 d0 d1
  generalize hea : endA e0 n0 = ea at HE HI HBD
  generalize heb : endB e1 n1 = eb at HE HI HBD
  clear hea heb
  go_enter Try.func3, Try.ntmps3
  go_wp2_with fail
  refine (HE.out _).mono ?_
  rintro e w1 ⟨rfl, h1⟩
  have M1 := (Blk.new w #[.int .u8 e0, .int .u8 e1, .int .u8 n0, .int .u8 n1] 24).below h1
  have hb1 := b_step (b_alloc (Below.refl w.heap.size w) (.cells #[.int .u8 e0, .int .u8 e1, .int .u8 n0, .int .u8 n1] 24)) h1
  have lm1 := M1.lt
  clear h1 HE
  have LB : Hid (w.heap.size + 1 ≤ w1.heap.size) := Lib.hid (by omega)
  have B0 := Blk.new w1 (c12 ea eb) 29
  have hb2 := b_alloc hb1 (.cells (c12 ea eb) 29)
  go_wp2_with fail
  go_loopg [9, 10] len (fun n vv i wr => ∃ (k : Nat), k + n = len ∧ i = .int .i64 k ∧ Blk wr w1.heap.size (c12 (runF ea eb K O Q k).1 (runF ea eb K O Q k).2.1) 29 ∧ Row wr (w1.heap.size + 1) vv (runF ea eb K O Q k).2.2 ∧ Below w.heap.size w wr ∧ Blk wr w.heap.size #[.int .u8 e0, .int .u8 e1, .int .u8 n0, .int .u8 n1] 24)
  case atStart => exact ⟨0, by omega, rfl, B0, row_nil _ _, hb2, (M1.alloc _)⟩
  case round =>
    obtain ⟨k, hk, rfl, hL, hrow, hb, hM⟩ := hrel
    generalize hrun : runF ea eb K O Q k = R at hL hrow
    obtain ⟨⟨l, r, e, n', p, d⟩, ⟨l2, r2, e2, n2, p2, d2⟩, sent⟩ := R
    have HRUN := Lib.hid hrun
    clear hrun B0 hb2 M1 hb1
    dsimp only at hL hrow
    by_cases hlt : k < len
    · obtain ⟨bs, off, rfl, hst⟩ := HA.out (by omega)
      have hinv := HI.out k
      rw [HRUN.out] at hinv
      dsimp only at hinv
      obtain ⟨x0, x1, x2, k0, k1, q0, q1⟩ := (hst.below hb) k hlt
      have hbs : bs < w.heap.size := hst.lt hlt
      clear hst
      have HC := Lib.hid (fun W (hw : Row W (w1.heap.size + 1) u9 sent) (hz : w1.heap.size + 1 ≤ W.heap.size) => step_any ⟨l, r, e, n', p, d⟩ ⟨l2, r2, e2, n2, p2, d2⟩ (w1.heap.size + 1) u9 sent (K k) (O k) (Q k) k k0 k1 q0 q1 W hw hz (by have := hinv.len; omega) hinv.kinds)
      have HST : Hid (runF ea eb K O Q (k + 1) = stepF ⟨l, r, e, n', p, d⟩ ⟨l2, r2, e2, n2, p2, d2⟩ sent (K k) (O k) (Q k) k) := by
        show stepF (runF ea eb K O Q k).1 _ _ _ _ _ _ = _
        rw [HRUN.out]
      clear hinv k0 k1 q0 q1
      generalize K k = kk at *
      generalize O k = oo at *
      generalize Q k = qq at *
      generalize stepF ⟨l, r, e, n', p, d⟩ ⟨l2, r2, e2, n2, p2, d2⟩ sent kk oo qq k = R2 at HC HST
      obtain ⟨⟨lx, rx, ex, nx, px, dx⟩, ⟨ly, ry, ey, ny, py, dy⟩, sent2⟩ := R2
      dsimp only at HC
      have HVB := Lib.hid (fun j hj => (hrow.block j hj).1)
      have lL := hL.lt
      have lL2 : w1.heap.size + 1 ≤ wr.drew.heap.size := by show _ ≤ wr.heap.size; omega
      have c0k : (0 : Int) ≤ (k : Int) := by omega
      have c1k : (k : Int) < (len : Int) := by omega
      have hwk : IntKind.i64.wrap (k : Int) = k := IntWalk.i64_in _ ⟨by omega, by omega⟩
      have HBB := Lib.hid hb
      have HLL := Lib.hid hL
      have HRR := Lib.hid hrow
      have HKK := Lib.hid hM
      clear hL hrow hb hM
      go_upto_region 10 with fail
      refine start_ (n := 13) (S := fun w' => w'.cell? ⟨w1.heap.size, 0, none⟩ = some (.int .i64 l) ∧ w'.cell? ⟨w1.heap.size, 1, none⟩ = some (.int .i64 r) ∧ w'.cell? ⟨w1.heap.size, 2, none⟩ = some (.int .i64 e) ∧ w'.cell? ⟨w1.heap.size, 3, none⟩ = some (.int .i64 n') ∧ w'.cell? ⟨w1.heap.size, 4, none⟩ = some (.int .i64 p) ∧ w'.cell? ⟨w1.heap.size, 5, none⟩ = some (.int .i64 d) ∧ w'.cell? ⟨w1.heap.size, 6, none⟩ = some (.int .i64 l2) ∧ w'.cell? ⟨w1.heap.size, 7, none⟩ = some (.int .i64 r2) ∧ w'.cell? ⟨w1.heap.size, 8, none⟩ = some (.int .i64 e2) ∧ w'.cell? ⟨w1.heap.size, 9, none⟩ = some (.int .i64 n2) ∧ w'.cell? ⟨w1.heap.size, 10, none⟩ = some (.int .i64 p2) ∧ w'.cell? ⟨w1.heap.size, 11, none⟩ = some (.int .i64 d2) ∧ w'.cell? ⟨bs, off + k * 3, none⟩ = some (.int .u8 kk) ∧ w'.cell? ⟨bs, off + k * 3 + 1, none⟩ = some (.bool oo) ∧ w'.cell? ⟨bs, off + k * 3 + 2, none⟩ = some (.int .u8 qq)) (ds := [11]) #[false, false, false, false, false, false, false, false, false, false, false, false, false] (by kernel_rfl) rfl rfl ⟨(HLL.out.drew.cell 0), (HLL.out.drew.cell 1), (HLL.out.drew.cell 2), (HLL.out.drew.cell 3), (HLL.out.drew.cell 4), (HLL.out.drew.cell 5), (HLL.out.drew.cell 6), (HLL.out.drew.cell 7), (HLL.out.drew.cell 8), (HLL.out.drew.cell 9), (HLL.out.drew.cell 10), (HLL.out.drew.cell 11), x0, x1, x2⟩ (fun hHeld => ?_)
      refine pure_ (i := 1) (N := some 36) (v := ?_) (a' := ?_) #[false, true, false, false, false, false, false, false, false, false, false, false, false] rfl rfl (by kernel_rfl) (fun _ _ _ h => h) (Or.inl ⟨by rfl, ?_⟩) ?_ ?_
      rotate_left
      · intro w'
        go_simp
        with_reducible rfl
      rotate_left
      · simp only [Act.put, List.setIfInBounds_toArray, List.set_cons_zero, List.set_cons_succ, i64_w, i32_w]
        rfl
      refine pure_ (i := 2) (N := some 37) (v := ?_) (a' := ?_) #[false, true, true, false, false, false, false, false, false, false, false, false, false] rfl rfl (by kernel_rfl) (fun _ _ _ h => h) (Or.inl ⟨by rfl, ?_⟩) ?_ ?_
      rotate_left
      · intro w'
        go_simp
        with_reducible rfl
      rotate_left
      · simp only [Act.put, List.setIfInBounds_toArray, List.set_cons_zero, List.set_cons_succ, i64_w, i32_w]
        rfl
      refine pure_ (i := 3) (N := some 38) (v := ?_) (a' := ?_) #[false, true, true, true, false, false, false, false, false, false, false, false, false] rfl rfl (by kernel_rfl) (fun _ _ _ h => h) (Or.inl ⟨by rfl, ?_⟩) ?_ ?_
      rotate_left
      · intro w'
        go_simp
        with_reducible rfl
      rotate_left
      · simp only [Act.put, List.setIfInBounds_toArray, List.set_cons_zero, List.set_cons_succ, i64_w, i32_w]
        rfl
      refine pure_ (i := 4) (N := some 39) (v := ?_) (a' := ?_) #[false, true, true, true, true, false, false, false, false, false, false, false, false] rfl rfl (by kernel_rfl) (fun _ _ _ h => h) (Or.inl ⟨by rfl, ?_⟩) ?_ ?_
      rotate_left
      · intro w'
        go_simp
        with_reducible rfl
      rotate_left
      · simp only [Act.put, List.setIfInBounds_toArray, List.set_cons_zero, List.set_cons_succ, i64_w, i32_w]
        rfl
      refine pure_ (i := 6) (N := some 41) (v := ?_) (a' := ?_) #[false, true, true, true, true, false, true, false, false, false, false, false, false] rfl rfl (by kernel_rfl) (fun _ _ _ h => h) (Or.inl ⟨by rfl, ?_⟩) ?_ ?_
      rotate_left
      · intro w'
        go_simp
        with_reducible rfl
      rotate_left
      · simp only [Act.put, List.setIfInBounds_toArray, List.set_cons_zero, List.set_cons_succ, i64_w, i32_w]
        rfl
      refine take_ (i := 0) (N := some 35) (v := ?_) (a' := ?_) #[true, true, true, true, true, false, true, false, false, false, false, false, false] rfl rfl (by kernel_rfl) (fun _ _ _ h => h) (Or.inl ⟨by rfl, ?_⟩) hHeld ?_ ?_
      rotate_left
      · rintro w' ⟨s0, s1, s2, s3, s4, s5, s6, s7, s8, s9, s10, s11, s12, s13, s14⟩
        go_simp
        with_reducible rfl
      rotate_left
      · simp only [Act.put, List.setIfInBounds_toArray, List.set_cons_zero, List.set_cons_succ, i64_w, i32_w]
        rfl
      refine take_ (i := 5) (N := some 40) (v := ?_) (a' := ?_) #[true, true, true, true, true, true, true, false, false, false, false, false, false] rfl rfl (by kernel_rfl) (fun _ _ _ h => h) (Or.inl ⟨by rfl, ?_⟩) hHeld ?_ ?_
      rotate_left
      · rintro w' ⟨s0, s1, s2, s3, s4, s5, s6, s7, s8, s9, s10, s11, s12, s13, s14⟩
        go_simp
        with_reducible rfl
      rotate_left
      · simp only [Act.put, List.setIfInBounds_toArray, List.set_cons_zero, List.set_cons_succ, i64_w, i32_w]
        rfl
      refine one_ (i := 7) (N := some 42) #[true, true, true, true, true, true, true, true, false, false, false, false, false] rfl rfl (by kernel_rfl) (by decide) (fun K hK => ?_)
      refine goes_ Try.func12 (by kernel_rfl) rfl #[A12 ⟨l, r, e, n', p, d⟩ ⟨l2, r2, e2, n2, p2, d2⟩, u9, .agg #[.int .u8 kk, .bool oo, .int .u8 qq], .int .i64 (k : Int)] (by rfl) rfl rfl (by simp only [List.map_toArray, List.map_cons, List.map_nil]; rfl) ?_
      with_reducible refine (HC.out _ HRR.out.drew lL2).mono ?_
      rintro e wz ⟨v2, he, hr, hg⟩
      subst he
      refine ⟨_, rfl, ?_⟩
      have hL2 := (HLL.out.drew).grown hg (fun e => by have := HVB.out _ e.symm; omega)
      obtain ⟨y0, y1, y2, y3, y4, y5, y6, y7, y8, y9, y10, y11, z0, z1, z2, z3, z4, z5, z6, z7, z8, z9, z10, z11⟩ := hL2.twelve
      refine hK.out _ _ ⟨(hL2.cell 0), (hL2.cell 1), (hL2.cell 2), (hL2.cell 3), (hL2.cell 4), (hL2.cell 5), (hL2.cell 6), (hL2.cell 7), (hL2.cell 8), (hL2.cell 9), (hL2.cell 10), (hL2.cell 11), (hg.cell x0 (fun e => by have := HVB.out _ e.symm; simp at this; omega)), (hg.cell x1 (fun e => by have := HVB.out _ e.symm; simp at this; omega)), (hg.cell x2 (fun e => by have := HVB.out _ e.symm; simp at this; omega))⟩ (fun hHeld => ?_)
      clear hK K
      refine norm_ (a' := ?_) ?_ ?_
      rotate_left
      · show Act.put _ (some 42) _ = _
        simp only [Act.put, List.setIfInBounds_toArray, List.set_cons_zero, List.set_cons_succ, i64_w, i32_w]
        rfl
      refine pure_ (i := 8) (N := some 34) (v := ?_) (a' := ?_) #[true, true, true, true, true, true, true, true, true, false, false, false, false] rfl rfl (by kernel_rfl) (fun _ _ _ h => h) (Or.inl ⟨by rfl, ?_⟩) ?_ ?_
      rotate_left
      · intro w'
        go_simp
        with_reducible rfl
      rotate_left
      · simp only [Act.put, List.setIfInBounds_toArray, List.set_cons_zero, List.set_cons_succ, i64_w, i32_w]
        rfl
      refine pure_ (i := 9) (N := some 43) (v := ?_) (a' := ?_) #[true, true, true, true, true, true, true, true, true, true, false, false, false] rfl rfl (by kernel_rfl) (fun _ _ _ h => h) (Or.inl ⟨by rfl, ?_⟩) ?_ ?_
      rotate_left
      · intro w'
        go_simp
        with_reducible rfl
      rotate_left
      · simp only [Act.put, List.setIfInBounds_toArray, List.set_cons_zero, List.set_cons_succ, i64_w, i32_w]
        rfl
      refine pure_ (i := 10) (N := some 44) (v := ?_) (a' := ?_) #[true, true, true, true, true, true, true, true, true, true, true, false, false] rfl rfl (by kernel_rfl) (fun _ _ _ h => h) (Or.inl ⟨by rfl, ?_⟩) ?_ ?_
      rotate_left
      · intro w'
        go_simp
        with_reducible rfl
      rotate_left
      · simp only [Act.put, List.setIfInBounds_toArray, List.set_cons_zero, List.set_cons_succ, i64_w, i32_w]
        rfl
      refine last_ (i := 11) (N := none) #[true, true, true, true, true, true, true, true, true, true, true, true, false] rfl rfl (by kernel_rfl) (by decide) (fun K hK => ?_)
      refine skip_ (w1 := ?_) (by rfl) rfl ?_ ?_
      rotate_left
      · go_simp
        rfl
      refine hK.out _ _ ?_
      clear hK K
      refine pure_ (i := 12) (N := some 9) (v := ?_) (a' := ?_) #[true, true, true, true, true, true, true, true, true, true, true, true, true] rfl rfl (by kernel_rfl) (fun _ _ _ h => h) (Or.inl ⟨by rfl, ?_⟩) ?_ ?_
      rotate_left
      · intro w'
        go_simp
        with_reducible rfl
      rotate_left
      · simp only [Act.put, List.setIfInBounds_toArray, List.set_cons_zero, List.set_cons_succ, i64_w, i32_w]
        rfl
      refine done_ (by kernel_rfl) ?_
      have hN := hL2.store12 (a' := (.int .i64 lx)) (b' := (.int .i64 rx)) (c' := (.int .i64 ex)) (d' := (.int .i64 nx)) (e' := (.int .i64 px)) (f' := (.int .i64 dx)) (m' := (.int .i64 ly)) (n' := (.int .i64 ry)) (o' := (.int .i64 ey)) (p' := (.int .i64 ny)) (q' := (.int .i64 py)) (r' := (.int .i64 dy))
      have hR := hr.apart12 (g := w1.heap.size) (a' := (.int .i64 lx)) (b' := (.int .i64 rx)) (c' := (.int .i64 ex)) (d' := (.int .i64 nx)) (e' := (.int .i64 px)) (f' := (.int .i64 dx)) (m' := (.int .i64 ly)) (n' := (.int .i64 ry)) (o' := (.int .i64 ey)) (p' := (.int .i64 ny)) (q' := (.int .i64 py)) (r' := (.int .i64 dy)) (fun j hj => by have := (hr.block j hj).1; omega)
      have hB3 := b_12 (g := w1.heap.size) (a' := (.int .i64 lx)) (b' := (.int .i64 rx)) (c' := (.int .i64 ex)) (d' := (.int .i64 nx)) (e' := (.int .i64 px)) (f' := (.int .i64 dx)) (m' := (.int .i64 ly)) (n' := (.int .i64 ry)) (o' := (.int .i64 ey)) (p' := (.int .i64 ny)) (q' := (.int .i64 py)) (r' := (.int .i64 dy)) (b_grown (b_drew HBB.out) hg (fun j hj => by have := HVB.out j hj; have := LB.out; omega)) (by have := LB.out; omega)
      have hM := HKK.out.drew
      have hlb := LB.out
      have hK3 := (hM.grown hg (fun e => by have := HVB.out _ e.symm; omega)).far12 (g2 := w1.heap.size) (a' := (.int .i64 lx)) (b' := (.int .i64 rx)) (c' := (.int .i64 ex)) (d' := (.int .i64 nx)) (e' := (.int .i64 px)) (f' := (.int .i64 dx)) (m' := (.int .i64 ly)) (n' := (.int .i64 ry)) (o' := (.int .i64 ey)) (p' := (.int .i64 ny)) (q' := (.int .i64 py)) (r' := (.int .i64 dy)) (by omega)
      clear hM hlb
      go_wp2_with fail
      go_roundg (gk - 1)
      case measure => omega
      case rel => exact ⟨k + 1, by omega, by go_num, by rw [HST.out]; exact hN, by rw [HST.out]; exact hR, hB3, hK3⟩
    · obtain rfl : k = len := by omega
      have hinv := HI.out k
      have hbd := HBD.out k
      rw [HRUN.out] at hinv hbd
      dsimp only at hinv hbd
      have q1 := hinv.al
      have q2 := hinv.ar
      have q3 := hinv.bl
      have q4 := hinv.br
      dsimp only at q1 q2 q3 q4
      subst q1 q2 q3 q4
      have HCA : Hid (∀ w, Calls Try.prog 13 #[S6 ⟨0, 1, e, n', p, d⟩] w (Gave ⟨0, 1, e, n', 0, 0⟩ (closeF ⟨0, 1, e, n', p, d⟩).2 w)) := Lib.hid fun w => gave_of (close_any _ w) (close_shut hinv.oka) rfl
      have HCB : Hid (∀ w, Calls Try.prog 13 #[S6 ⟨1, 0, e2, n2, p2, d2⟩] w (Gave ⟨1, 0, e2, n2, 0, 0⟩ (closeF ⟨1, 0, e2, n2, p2, d2⟩).2 w)) := Lib.hid fun w => gave_of (close_any _ w) (close_shut hinv.okb) rfl
      generalize (closeF ⟨0, 1, e, n', p, d⟩).2 = msa at HCA
      generalize (closeF ⟨1, 0, e2, n2, p2, d2⟩).2 = msb at HCB
      have HN1 : Hid (Ok ⟨0, 1, e, n', 0, 0⟩) := Lib.hid (by obtain ⟨t1, t2, t3, t4, t5, t6, t7, t8, t9, t10, t11, t12, t13, t14⟩ := hinv.oka; dsimp only at *; constructor <;> dsimp only <;> omega)
      have HN2 : Hid (Ok ⟨1, 0, e2, n2, 0, 0⟩) := Lib.hid (by obtain ⟨t1, t2, t3, t4, t5, t6, t7, t8, t9, t10, t11, t12, t13, t14⟩ := hinv.okb; dsimp only at *; constructor <;> dsimp only <;> omega)
      have HB1 : Hid (n' ≤ 66 ∧ n2 ≤ 66) := Lib.hid (by omega)
      clear hinv hbd HA HI HBD hrow hM
      have lL := hL.lt
      obtain ⟨y0, y1, y2, y3, y4, y5, y6, y7, y8, y9, y10, y11, z0, z1, z2, z3, z4, z5, z6, z7, z8, z9, z10, z11⟩ := hL.twelve
      go_wp2_with fail
      refine (HCA.out _).mono ?_
      rintro e9 wy ⟨v1, rfl, -, h1⟩
      have hL1 := hL.below h1
      have hb4 := b_step hb h1
      have l1 := hL1.lt
      clear h1 hL hb y0 y1 y2 y3 y4 y5 y6 y7 y8 y9 y10 y11 z0 z1 z2 z3 z4 z5 z6 z7 z8 z9 z10 z11
      obtain ⟨y0, y1, y2, y3, y4, y5, y6, y7, y8, y9, y10, y11, z0, z1, z2, z3, z4, z5, z6, z7, z8, z9, z10, z11⟩ := hL1.twelve
      go_wp2_with fail
      refine (HCB.out _).mono ?_
      rintro e9 wz ⟨v2, rfl, -, h1⟩
      have hL2 := (hL1.lo6 (a' := .int .i64 0) (b' := .int .i64 1) (c' := .int .i64 e) (d' := .int .i64 n') (e' := .int .i64 0) (f' := .int .i64 0)).below h1
      have hb5 := b_step (b_store6 (g := w1.heap.size) (a := .int .i64 0) (b := .int .i64 1) (c := .int .i64 e) (d := .int .i64 n') (e := .int .i64 0) (f := .int .i64 0) hb4 (by omega)) h1
      have l2 := hL2.lt
      clear h1 hL1 hb4 HCA HCB y0 y1 y2 y3 y4 y5 y6 y7 y8 y9 y10 y11 z0 z1 z2 z3 z4 z5 z6 z7 z8 z9 z10 z11
      obtain ⟨y0, y1, y2, y3, y4, y5, y6, y7, y8, y9, y10, y11, z0, z1, z2, z3, z4, z5, z6, z7, z8, z9, z10, z11⟩ := hL2.twelve
      have hL3 := hL2.hi6 (m' := .int .i64 1) (n' := .int .i64 0) (o' := .int .i64 e2) (p' := .int .i64 n2) (q' := .int .i64 0) (r' := .int .i64 0)
      have hb6 := b_hi6 (g := w1.heap.size) (a := .int .i64 1) (b := .int .i64 0) (c := .int .i64 e2) (d := .int .i64 n2) (e := .int .i64 0) (f := .int .i64 0) hb5 (by omega)
      go_wp2_with fail
      go_loopg [12] 3 (fun n i ws => ∃ (j : Nat) (E1 N1 E2 N2 : Int), j + n = 3 ∧ i = .int .i64 j ∧ Blk ws w1.heap.size (c12 ⟨0, 1, E1, N1, 0, 0⟩ ⟨1, 0, E2, N2, 0, 0⟩) 29 ∧ Ok ⟨0, 1, E1, N1, 0, 0⟩ ∧ Ok ⟨1, 0, E2, N2, 0, 0⟩ ∧ N1 ≤ 100 ∧ N2 ≤ 100 ∧ (j = 0 ∨ (j = 1 ∧ E1 = E2 ∧ N2 ≤ N1)) ∧ (j = 0 → N1 ≤ 66 ∧ N2 ≤ 66) ∧ Below w.heap.size w ws)
      case atStart => exact ⟨0, e, n', e2, n2, by omega, rfl, hL3, HN1.out, HN2.out, by have := HB1.out; omega, by have := HB1.out; omega, .inl rfl, fun _ => HB1.out, hb6⟩
      case round =>
        clear hL2 hL3 hb5 hb6 y0 y1 y2 y3 y4 y5 y6 y7 y8 y9 y10 y11 z0 z1 z2 z3 z4 z5 z6 z7 z8 z9 z10 z11
        obtain ⟨j, E1, N1, E2, N2, hj, rfl, hL, hok1, hok2, hn1, hn2, hready, h66, hb⟩ := hrel
        have hj3 : (j : Int) < 3 := by omega
        have HD : Hid (∀ w, Calls Try.prog 14 #[S6 ⟨0, 1, E1, N1, 0, 0⟩, .int .i64 100, .int .i64 5] w (Dialled ⟨0, 1, E1, N1 + 1, 1, 105⟩ [⟨5, 0, 1, N1 + 1, E1⟩] 0 w)) := Lib.hid fun w => dialled_of (dial_any _ _ _ w) (dial_shut hok1 (by omega) (by unfold InTime; omega))
        have HMET := Lib.hid (round_law hok1 hok2 (by omega))
        have HV1 : Hid (∀ w base v, Row w base v [⟨5, 0, 1, N1 + 1, E1⟩] → Calls Try.prog 15 #[S6 ⟨1, 0, E2, N2, 0, 0⟩, v] w (Gave (dlv ⟨1, 0, E2, N2, 0, 0⟩ [⟨5, 0, 1, N1 + 1, E1⟩]).1 (dlv ⟨1, 0, E2, N2, 0, 0⟩ [⟨5, 0, 1, N1 + 1, E1⟩]).2 w)) := Lib.hid fun w base v hv => deliver_any _ base v _ w hv (by simp) (by simp)
        have HV2 : Hid (∀ w base v, Row w base v (dlv ⟨1, 0, E2, N2, 0, 0⟩ [⟨5, 0, 1, N1 + 1, E1⟩]).2 → Calls Try.prog 15 #[S6 ⟨0, 1, E1, N1 + 1, 1, 105⟩, v] w (Gave (dlv ⟨0, 1, E1, N1 + 1, 1, 105⟩ (dlv ⟨1, 0, E2, N2, 0, 0⟩ [⟨5, 0, 1, N1 + 1, E1⟩]).2).1 (dlv ⟨0, 1, E1, N1 + 1, 1, 105⟩ (dlv ⟨1, 0, E2, N2, 0, 0⟩ [⟨5, 0, 1, N1 + 1, E1⟩]).2).2 w)) := Lib.hid fun w base v hv => deliver_any _ base v _ w hv (fun m hm => by rw [dlv_one] at hm; have := (recv_kept hok2 _).sent m hm; omega) (by have := dlv_short ⟨1, 0, E2, N2, 0, 0⟩ [⟨5, 0, 1, N1 + 1, E1⟩]; simp at this; omega)
        generalize dlv ⟨1, 0, E2, N2, 0, 0⟩ [⟨5, 0, 1, N1 + 1, E1⟩] = R1 at HMET HV1 HV2
        obtain ⟨⟨zl, zr, ze, zn, zp, zd⟩, ms2⟩ := R1
        dsimp only at HMET HV1 HV2
        generalize dlv ⟨0, 1, E1, N1 + 1, 1, 105⟩ ms2 = R2 at HMET HV2
        obtain ⟨⟨xl, xr, xe, xn, xp, xd⟩, ms3⟩ := R2
        dsimp only at HMET HV2
        have HW : wrap64 1 = 1 := by unfold wrap64; omega
        have HREADY := Lib.hid hready
        have H66 := Lib.hid h66
        clear hready h66 hok1 hok2 HN1 HN2 HB1
        have lL := hL.lt
        obtain ⟨y0, y1, y2, y3, y4, y5, y6, y7, y8, y9, y10, y11, z0, z1, z2, z3, z4, z5, z6, z7, z8, z9, z10, z11⟩ := hL.twelve
        go_wp2_with fail
        refine (HD.out _).mono ?_
        rintro e9 wd ⟨v1, rfl, r1, h1⟩
        have L1 := hL.below h1
        have hb7 := b_step hb h1
        have l1 := L1.lt
        clear h1 hL hb HD y0 y1 y2 y3 y4 y5 y6 y7 y8 y9 y10 y11 z0 z1 z2 z3 z4 z5 z6 z7 z8 z9 z10 z11
        obtain ⟨y0, y1, y2, y3, y4, y5, y6, y7, y8, y9, y10, y11, z0, z1, z2, z3, z4, z5, z6, z7, z8, z9, z10, z11⟩ := L1.twelve
        go_wp2_with fail
        refine (HV1.out _ _ _ (r1.below (b_alloc (Below.refl _ _) _))).mono ?_
        rintro e9 we ⟨v2, rfl, r2, h2⟩
        have L2 := (L1.alloc (.cells (c6 ⟨0, 1, E1, N1 + 1, 1, 105⟩) 28)).below h2
        have D2 := (Blk.new wd (c6 ⟨0, 1, E1, N1 + 1, 1, 105⟩) 28).below h2
        have hb8 := b_step (b_alloc hb7 (.cells (c6 ⟨0, 1, E1, N1 + 1, 1, 105⟩) 28)) h2
        have l3 := D2.lt
        clear h2 L1 hb7 HV1 r1 y0 y1 y2 y3 y4 y5 y6 y7 y8 y9 y10 y11 z0 z1 z2 z3 z4 z5 z6 z7 z8 z9 z10 z11
        obtain ⟨p0, p1, p2, p3, p4, p5, q0, q1, q2, q3, q4, q5⟩ := D2.six
        go_wp2_with fail
        refine (HV2.out _ _ _ (r2.below (b_alloc (Below.refl _ _) _))).mono ?_
        rintro e9 wf ⟨v3, rfl, r3, h3⟩
        have L3 := (L2.alloc (.cells (c6 ⟨zl, zr, ze, zn, zp, zd⟩) 28)).below h3
        have D3 := (D2.alloc (.cells (c6 ⟨zl, zr, ze, zn, zp, zd⟩) 28)).below h3
        have E3 := (Blk.new we (c6 ⟨zl, zr, ze, zn, zp, zd⟩) 28).below h3
        have hb9 := b_step (b_alloc hb8 (.cells (c6 ⟨zl, zr, ze, zn, zp, zd⟩) 28)) h3
        have l4 := E3.lt
        clear h3 L2 D2 hb8 HV2 r2 r3 p0 p1 p2 p3 p4 p5 q0 q1 q2 q3 q4 q5
        obtain ⟨p0, p1, p2, p3, p4, p5, q0, q1, q2, q3, q4, q5⟩ := D3.six
        have D4 := D3.store6 (a' := .int .i64 xl) (b' := .int .i64 xr) (c' := .int .i64 xe) (d' := .int .i64 xn) (e' := .int .i64 xp) (f' := .int .i64 xd)
        have E4 := E3.far6 (g' := wd.heap.size) (a := .int .i64 xl) (b := .int .i64 xr) (c := .int .i64 xe) (d := .int .i64 xn) (e := .int .i64 xp) (f := .int .i64 xd) (by omega)
        have L4 := L3.far6 (g' := wd.heap.size) (a := .int .i64 xl) (b := .int .i64 xr) (c := .int .i64 xe) (d := .int .i64 xn) (e := .int .i64 xp) (f := .int .i64 xd) (by omega)
        have hb10 := b_store6 (g := wd.heap.size) (a := .int .i64 xl) (b := .int .i64 xr) (c := .int .i64 xe) (d := .int .i64 xn) (e := .int .i64 xp) (f := .int .i64 xd) hb9 (by omega)
        clear L3 D3 E3 hb9
        go_upto_region 24 with fail
        generalize ((((((wf.setCell ⟨wd.heap.size, 0, none⟩ (.int .i64 xl)).setCell ⟨wd.heap.size, 1, none⟩ (.int .i64 xr)).setCell ⟨wd.heap.size, 2, none⟩ (.int .i64 xe)).setCell ⟨wd.heap.size, 3, none⟩ (.int .i64 xn)).setCell ⟨wd.heap.size, 4, none⟩ (.int .i64 xp)).setCell ⟨wd.heap.size, 5, none⟩ (.int .i64 xd)) = wq at *
        clear p0 p1 p2 p3 p4 p5 q0 q1 q2 q3 q4 q5
        obtain ⟨y0, y1, y2, y3, y4, y5, y6, y7, y8, y9, y10, y11, z0, z1, z2, z3, z4, z5, z6, z7, z8, z9, z10, z11⟩ := L4.twelve
        have HD4 := Lib.hid D4
        have HE4 := Lib.hid E4
        have HL4 := Lib.hid L4
        have HB10 := Lib.hid hb10
        clear D4 E4 L4 hb10
        refine start_ (n := 9) (S := fun w' => w'.cell? ⟨wd.heap.size, 0, none⟩ = some (.int .i64 xl) ∧ w'.cell? ⟨wd.heap.size, 1, none⟩ = some (.int .i64 xr) ∧ w'.cell? ⟨wd.heap.size, 2, none⟩ = some (.int .i64 xe) ∧ w'.cell? ⟨wd.heap.size, 3, none⟩ = some (.int .i64 xn) ∧ w'.cell? ⟨wd.heap.size, 4, none⟩ = some (.int .i64 xp) ∧ w'.cell? ⟨wd.heap.size, 5, none⟩ = some (.int .i64 xd) ∧ w'.cell? ⟨we.heap.size, 0, none⟩ = some (.int .i64 zl) ∧ w'.cell? ⟨we.heap.size, 1, none⟩ = some (.int .i64 zr) ∧ w'.cell? ⟨we.heap.size, 2, none⟩ = some (.int .i64 ze) ∧ w'.cell? ⟨we.heap.size, 3, none⟩ = some (.int .i64 zn) ∧ w'.cell? ⟨we.heap.size, 4, none⟩ = some (.int .i64 zp) ∧ w'.cell? ⟨we.heap.size, 5, none⟩ = some (.int .i64 zd)) (ds := [8]) #[false, false, false, false, false, false, false, false, false] (by kernel_rfl) rfl rfl ⟨(HD4.out.drew.cell 0), (HD4.out.drew.cell 1), (HD4.out.drew.cell 2), (HD4.out.drew.cell 3), (HD4.out.drew.cell 4), (HD4.out.drew.cell 5), (HE4.out.drew.cell 0), (HE4.out.drew.cell 1), (HE4.out.drew.cell 2), (HE4.out.drew.cell 3), (HE4.out.drew.cell 4), (HE4.out.drew.cell 5)⟩ (fun hHeld => ?_)
        refine pure_ (i := 0) (N := some 89) (v := ?_) (a' := ?_) #[true, false, false, false, false, false, false, false, false] rfl rfl (by kernel_rfl) (fun _ _ _ h => h) (Or.inl ⟨by rfl, ?_⟩) ?_ ?_
        rotate_left
        · intro w'
          go_simp
          with_reducible rfl
        rotate_left
        · simp only [Act.put, List.setIfInBounds_toArray, List.set_cons_zero, List.set_cons_succ, i64_w, i32_w]
          rfl
        refine pure_ (i := 1) (N := some 90) (v := ?_) (a' := ?_) #[true, true, false, false, false, false, false, false, false] rfl rfl (by kernel_rfl) (fun _ _ _ h => h) (Or.inl ⟨by rfl, ?_⟩) ?_ ?_
        rotate_left
        · intro w'
          go_simp
          with_reducible rfl
        rotate_left
        · simp only [Act.put, List.setIfInBounds_toArray, List.set_cons_zero, List.set_cons_succ, i64_w, i32_w]
          rfl
        refine pure_ (i := 2) (N := some 91) (v := ?_) (a' := ?_) #[true, true, true, false, false, false, false, false, false] rfl rfl (by kernel_rfl) (fun _ _ _ h => h) (Or.inl ⟨by rfl, ?_⟩) ?_ ?_
        rotate_left
        · intro w'
          go_simp
          with_reducible rfl
        rotate_left
        · simp only [Act.put, List.setIfInBounds_toArray, List.set_cons_zero, List.set_cons_succ, i64_w, i32_w]
          rfl
        refine take_ (i := 3) (N := some 92) (v := ?_) (a' := ?_) #[true, true, true, true, false, false, false, false, false] rfl rfl (by kernel_rfl) (fun _ _ _ h => h) (Or.inl ⟨by rfl, ?_⟩) hHeld ?_ ?_
        rotate_left
        · rintro w' ⟨s0, s1, s2, s3, s4, s5, s6, s7, s8, s9, s10, s11⟩
          go_simp
          with_reducible rfl
        rotate_left
        · simp only [Act.put, List.setIfInBounds_toArray, List.set_cons_zero, List.set_cons_succ, i64_w, i32_w]
          rfl
        refine pure_ (i := 5) (N := some 94) (v := ?_) (a' := ?_) #[true, true, true, true, false, true, false, false, false] rfl rfl (by kernel_rfl) (fun _ _ _ h => h) (Or.inl ⟨by rfl, ?_⟩) ?_ ?_
        rotate_left
        · intro w'
          go_simp
          with_reducible rfl
        rotate_left
        · simp only [Act.put, List.setIfInBounds_toArray, List.set_cons_zero, List.set_cons_succ, i64_w, i32_w]
          rfl
        refine take_ (i := 4) (N := some 93) (v := ?_) (a' := ?_) #[true, true, true, true, true, true, false, false, false] rfl rfl (by kernel_rfl) (fun _ _ _ h => h) (Or.inl ⟨by rfl, ?_⟩) hHeld ?_ ?_
        rotate_left
        · rintro w' ⟨s0, s1, s2, s3, s4, s5, s6, s7, s8, s9, s10, s11⟩
          go_simp
          with_reducible rfl
        rotate_left
        · simp only [Act.put, List.setIfInBounds_toArray, List.set_cons_zero, List.set_cons_succ, i64_w, i32_w]
          rfl
        refine one_ (i := 6) (N := none) #[true, true, true, true, true, true, true, false, false] rfl rfl (by kernel_rfl) (by decide) (fun K hK => ?_)
        have D5 := HD4.out.drew
        have E5 := HE4.out.drew
        have L5 := HL4.out.drew
        have hb5 := b_drew HB10.out
        clear HD4 HE4 HL4 HB10 hHeld y0 y1 y2 y3 y4 y5 y6 y7 y8 y9 y10 y11 z0 z1 z2 z3 z4 z5 z6 z7 z8 z9 z10 z11
        generalize wq.drew = wv at *
        obtain ⟨y0, y1, y2, y3, y4, y5, y6, y7, y8, y9, y10, y11, z0, z1, z2, z3, z4, z5, z6, z7, z8, z9, z10, z11⟩ := L5.twelve
        have lL5 := L5.lt
        have D5 := Lib.hid (D5.far6 (g' := w1.heap.size) (a := .int .i64 xl) (b := .int .i64 xr) (c := .int .i64 xe) (d := .int .i64 xn) (e := .int .i64 xp) (f := .int .i64 xd) (by omega))
        have E5 := Lib.hid (E5.far6 (g' := w1.heap.size) (a := .int .i64 xl) (b := .int .i64 xr) (c := .int .i64 xe) (d := .int .i64 xn) (e := .int .i64 xp) (f := .int .i64 xd) (by omega))
        have L5 := Lib.hid (L5.lo6 (a' := .int .i64 xl) (b' := .int .i64 xr) (c' := .int .i64 xe) (d' := .int .i64 xn) (e' := .int .i64 xp) (f' := .int .i64 xd))
        have hb5 := Lib.hid (b_store6 (g := w1.heap.size) (a := .int .i64 xl) (b := .int .i64 xr) (c := .int .i64 xe) (d := .int .i64 xn) (e := .int .i64 xp) (f := .int .i64 xd) hb5 (by omega))
        refine skip_ (w1 := ?_) (by rfl) rfl ?_ ?_
        rotate_left
        · go_simp
          rfl
        refine hK.out _ _ ⟨(D5.out.cell 0), (D5.out.cell 1), (D5.out.cell 2), (D5.out.cell 3), (D5.out.cell 4), (D5.out.cell 5), (E5.out.cell 0), (E5.out.cell 1), (E5.out.cell 2), (E5.out.cell 3), (E5.out.cell 4), (E5.out.cell 5)⟩ (fun hHeld => ?_)
        clear hK K
        refine pure_ (i := 7) (N := some 95) (v := ?_) (a' := ?_) #[true, true, true, true, true, true, true, true, false] rfl rfl (by kernel_rfl) (fun _ _ _ h => h) (Or.inl ⟨by rfl, ?_⟩) ?_ ?_
        rotate_left
        · intro w'
          go_simp
          with_reducible rfl
        rotate_left
        · simp only [Act.put, List.setIfInBounds_toArray, List.set_cons_zero, List.set_cons_succ, i64_w, i32_w]
          rfl
        refine last_ (i := 8) (N := none) #[true, true, true, true, true, true, true, true, true] rfl rfl (by kernel_rfl) (by decide) (fun K hK => ?_)
        have D5 := D5.out
        have E5 := E5.out
        have L5 := L5.out
        have hb5 := hb5.out
        clear hHeld y0 y1 y2 y3 y4 y5 y6 y7 y8 y9 y10 y11 z0 z1 z2 z3 z4 z5 z6 z7 z8 z9 z10 z11
        generalize ((((((wv.setCell ⟨w1.heap.size, 0, none⟩ (.int .i64 xl)).setCell ⟨w1.heap.size, 1, none⟩ (.int .i64 xr)).setCell ⟨w1.heap.size, 2, none⟩ (.int .i64 xe)).setCell ⟨w1.heap.size, 3, none⟩ (.int .i64 xn)).setCell ⟨w1.heap.size, 4, none⟩ (.int .i64 xp)).setCell ⟨w1.heap.size, 5, none⟩ (.int .i64 xd)) = wu at *
        obtain ⟨y0, y1, y2, y3, y4, y5, y6, y7, y8, y9, y10, y11, z0, z1, z2, z3, z4, z5, z6, z7, z8, z9, z10, z11⟩ := L5.twelve
        have lL6 := L5.lt
        have D6 := Lib.hid (D5.farHi6 (g2 := w1.heap.size) (a := .int .i64 zl) (b := .int .i64 zr) (c := .int .i64 ze) (d := .int .i64 zn) (e := .int .i64 zp) (f := .int .i64 zd) (by omega))
        have E6 := Lib.hid (E5.farHi6 (g2 := w1.heap.size) (a := .int .i64 zl) (b := .int .i64 zr) (c := .int .i64 ze) (d := .int .i64 zn) (e := .int .i64 zp) (f := .int .i64 zd) (by omega))
        have L6 := Lib.hid (L5.hi6 (m' := .int .i64 zl) (n' := .int .i64 zr) (o' := .int .i64 ze) (p' := .int .i64 zn) (q' := .int .i64 zp) (r' := .int .i64 zd))
        have B6 := Lib.hid (b_hi6 (g := w1.heap.size) (a := .int .i64 zl) (b := .int .i64 zr) (c := .int .i64 ze) (d := .int .i64 zn) (e := .int .i64 zp) (f := .int .i64 zd) hb5 (by omega))
        clear D5 E5 L5 hb5
        refine skip_ (w1 := ?_) (by rfl) rfl ?_ ?_
        rotate_left
        · go_simp
          rfl
        refine hK.out _ _ ?_
        clear hK K
        refine done_ (by kernel_rfl) ?_
        clear y0 y1 y2 y3 y4 y5 y6 y7 y8 y9 y10 y11 z0 z1 z2 z3 z4 z5 z6 z7 z8 z9 z10 z11
        have D7 := D6.out
        have E7 := E6.out
        have L7 := L6.out
        have B7 := B6.out
        clear D6 E6 L6 B6
        generalize ((((((wu.setCell ⟨w1.heap.size, 6, none⟩ (.int .i64 zl)).setCell ⟨w1.heap.size, 7, none⟩ (.int .i64 zr)).setCell ⟨w1.heap.size, 8, none⟩ (.int .i64 ze)).setCell ⟨w1.heap.size, 9, none⟩ (.int .i64 zn)).setCell ⟨w1.heap.size, 10, none⟩ (.int .i64 zp)).setCell ⟨w1.heap.size, 11, none⟩ (.int .i64 zd)) = wt at *
        have HOKA := Lib.hid HMET.out.oka
        have HOKB := Lib.hid HMET.out.okb
        have hae := HMET.out.ae
        dsimp only at hae
        subst hae
        rcases HMET.out.open' with hop | hcl
        · dsimp only at hop
          obtain ⟨rfl, rfl, rfl⟩ := hop
          have HACC := Lib.hid (fun W => acc_any ⟨xl, xr, xe, xn, 2, xd⟩ xn xe W)
          have hz := acc_same (b := ⟨zl, zr, xe, xn, 2, zd⟩) HOKA.out rfl rfl rfl
          dsimp only at hz
          rw [hz] at HACC
          clear HMET HOKA HOKB HREADY H66 hz L7
          have lD := D7.lt
          have lE := E7.lt
          obtain ⟨p0, p1, p2, p3, p4, p5, q0, q1, q2, q3, q4, q5⟩ := D7.six
          go_wp2_with fail
          refine (awake_any _).mono ?_
          rintro e9 wx ⟨rfl, hx⟩
          have D8 := D7.below hx
          have E8 := E7.below hx
          have B8 := b_step B7 hx
          clear D7 E7 B7 hx p0 p1 p2 p3 p4 p5 q0 q1 q2 q3 q4 q5
          obtain ⟨p0, p1, p2, p3, p4, p5, q0, q1, q2, q3, q4, q5⟩ := D8.six
          obtain ⟨y0, y1, y2, y3, y4, y5, z0, z1, z2, z3, z4, z5⟩ := E8.six
          go_wp2_with fail
          refine (HACC.out _).mono ?_
          rintro e9 wy2 ⟨rfl, hy⟩
          go_wp2_with fail
          go_ret
          exact ⟨rfl, b_step B8 hy⟩
        · dsimp only at hcl
          obtain ⟨rfl, rfl, h3, h4, h5, rfl, rfl, rfl, rfl, h10⟩ := hcl
          have hx0 := HOKA.out.pd
          have hz0 := HOKB.out.pd
          dsimp only at hx0 hz0
          obtain rfl : xd = 0 := by omega
          obtain rfl : zd = 0 := by omega
          have hj0 : j = 0 := by have := HREADY.out; omega
          have h66 := H66.out hj0
          clear HREADY H66 HMET hx0 hz0
          have HF := Lib.hid (And.intro h3 (And.intro h4 (And.intro h5 (And.intro h10 h66))))
          clear h3 h4 h5 h10 h66
          obtain ⟨p0, p1, p2, p3, p4, p5, q0, q1, q2, q3, q4, q5⟩ := D7.six
          go_wp2_with fail
          go_roundg (gk - 1)
          case measure => omega
          case rel => exact ⟨j + 1, xe, xn, xe, zn, by omega, by go_num, L7, HOKA.out, HOKB.out, by have := HF.out; omega, by have := HF.out; omega, .inr ⟨by omega, rfl, by have := HF.out; omega⟩, fun q => absurd q (by omega), B7⟩
set_option maxRecDepth 20000 in
set_option maxHeartbeats 8000000 in
theorem connects_t (e0 e1 n0 n1 : Int) (a0 : 0 ≤ e0) (a1 : e0 ≤ 255) (b0 : 0 ≤ e1) (b1 : e1 ≤ 255) (c0 : 0 ≤ n0) (c1 : n0 ≤ 255) (d0 : 0 ≤ n1) (d1 : n1 ≤ 255)
    (A : Option Addr) (len cap : Nat) (K : Nat → Int) (O : Nat → Bool) (Q : Nat → Int) (w : World) (hA : 0 < len → ∃ b off, A = some ⟨b, off, none⟩ ∧ StepAt w b off len K O Q) :
    Calls Try.prog 3 #[.agg #[.int .u8 e0, .int .u8 e1, .int .u8 n0, .int .u8 n1], .slice A len cap, .bool true] w fun e w' => e = .returned (.bool true) ∧ Below w.heap.size w w' := by
  by_cases h60 : (60 : Int) < len
  · clear hA
    go_enter Try.func3, Try.ntmps3
    go_wp2_with fail
    refine (awake_any _).mono ?_
    rintro e w1 ⟨rfl, h1⟩
    go_wp2_with fail
    go_ret
    exact ⟨rfl, b_step (b_alloc (Below.refl _ _) _) h1⟩
  have h60' : (len : Int) ≤ 60 := by omega
  have HE := Lib.hid (fun w => ends_any e0 e1 n0 n1 a0 a1 b0 b1 c0 c1 d0 d1 w)
  have HI := Lib.hid (fun i => run_inv (Inv.start e0 e1 n0 n1) K O Q i)
  have HBD := Lib.hid (fun i => run_bound (Inv.start e0 e1 n0 n1) (by unfold endA; dsimp only; omega) (by unfold endB; dsimp only; omega) K O Q i)
  have HA := Lib.hid hA
  clear hA h60 a0 a1 b0 b1 c0 c1 d0 d1
  generalize hea : endA e0 n0 = ea at HE HI HBD
  generalize heb : endB e1 n1 = eb at HE HI HBD
  clear hea heb
  go_enter Try.func3, Try.ntmps3
  go_wp2_with fail
  refine (HE.out _).mono ?_
  rintro e w1 ⟨rfl, h1⟩
  have M1 := (Blk.new w #[.int .u8 e0, .int .u8 e1, .int .u8 n0, .int .u8 n1] 24).below h1
  have hb1 := b_step (b_alloc (Below.refl w.heap.size w) (.cells #[.int .u8 e0, .int .u8 e1, .int .u8 n0, .int .u8 n1] 24)) h1
  have lm1 := M1.lt
  clear h1 HE
  have LB : Hid (w.heap.size + 1 ≤ w1.heap.size) := Lib.hid (by omega)
  have B0 := Blk.new w1 (c12 ea eb) 29
  have hb2 := b_alloc hb1 (.cells (c12 ea eb) 29)
  go_wp2_with fail
  go_loopg [9, 10] len (fun n vv i wr => ∃ (k : Nat), k + n = len ∧ i = .int .i64 k ∧ Blk wr w1.heap.size (c12 (runF ea eb K O Q k).1 (runF ea eb K O Q k).2.1) 29 ∧ Row wr (w1.heap.size + 1) vv (runF ea eb K O Q k).2.2 ∧ Below w.heap.size w wr ∧ Blk wr w.heap.size #[.int .u8 e0, .int .u8 e1, .int .u8 n0, .int .u8 n1] 24)
  case atStart => exact ⟨0, by omega, rfl, B0, row_nil _ _, hb2, (M1.alloc _)⟩
  case round =>
    obtain ⟨k, hk, rfl, hL, hrow, hb, hM⟩ := hrel
    generalize hrun : runF ea eb K O Q k = R at hL hrow
    obtain ⟨⟨l, r, e, n', p, d⟩, ⟨l2, r2, e2, n2, p2, d2⟩, sent⟩ := R
    have HRUN := Lib.hid hrun
    clear hrun B0 hb2 M1 hb1
    dsimp only at hL hrow
    by_cases hlt : k < len
    · obtain ⟨bs, off, rfl, hst⟩ := HA.out (by omega)
      have hinv := HI.out k
      rw [HRUN.out] at hinv
      dsimp only at hinv
      obtain ⟨x0, x1, x2, k0, k1, q0, q1⟩ := (hst.below hb) k hlt
      have hbs : bs < w.heap.size := hst.lt hlt
      clear hst
      have HC := Lib.hid (fun W (hw : Row W (w1.heap.size + 1) u9 sent) (hz : w1.heap.size + 1 ≤ W.heap.size) => step_any ⟨l, r, e, n', p, d⟩ ⟨l2, r2, e2, n2, p2, d2⟩ (w1.heap.size + 1) u9 sent (K k) (O k) (Q k) k k0 k1 q0 q1 W hw hz (by have := hinv.len; omega) hinv.kinds)
      have HST : Hid (runF ea eb K O Q (k + 1) = stepF ⟨l, r, e, n', p, d⟩ ⟨l2, r2, e2, n2, p2, d2⟩ sent (K k) (O k) (Q k) k) := by
        show stepF (runF ea eb K O Q k).1 _ _ _ _ _ _ = _
        rw [HRUN.out]
      clear hinv k0 k1 q0 q1
      generalize K k = kk at *
      generalize O k = oo at *
      generalize Q k = qq at *
      generalize stepF ⟨l, r, e, n', p, d⟩ ⟨l2, r2, e2, n2, p2, d2⟩ sent kk oo qq k = R2 at HC HST
      obtain ⟨⟨lx, rx, ex, nx, px, dx⟩, ⟨ly, ry, ey, ny, py, dy⟩, sent2⟩ := R2
      dsimp only at HC
      have HVB := Lib.hid (fun j hj => (hrow.block j hj).1)
      have lL := hL.lt
      have lL2 : w1.heap.size + 1 ≤ wr.drew.heap.size := by show _ ≤ wr.heap.size; omega
      have c0k : (0 : Int) ≤ (k : Int) := by omega
      have c1k : (k : Int) < (len : Int) := by omega
      have hwk : IntKind.i64.wrap (k : Int) = k := IntWalk.i64_in _ ⟨by omega, by omega⟩
      have HBB := Lib.hid hb
      have HLL := Lib.hid hL
      have HRR := Lib.hid hrow
      have HKK := Lib.hid hM
      clear hL hrow hb hM
      go_upto_region 10 with fail
      refine start_ (n := 13) (S := fun w' => w'.cell? ⟨w1.heap.size, 0, none⟩ = some (.int .i64 l) ∧ w'.cell? ⟨w1.heap.size, 1, none⟩ = some (.int .i64 r) ∧ w'.cell? ⟨w1.heap.size, 2, none⟩ = some (.int .i64 e) ∧ w'.cell? ⟨w1.heap.size, 3, none⟩ = some (.int .i64 n') ∧ w'.cell? ⟨w1.heap.size, 4, none⟩ = some (.int .i64 p) ∧ w'.cell? ⟨w1.heap.size, 5, none⟩ = some (.int .i64 d) ∧ w'.cell? ⟨w1.heap.size, 6, none⟩ = some (.int .i64 l2) ∧ w'.cell? ⟨w1.heap.size, 7, none⟩ = some (.int .i64 r2) ∧ w'.cell? ⟨w1.heap.size, 8, none⟩ = some (.int .i64 e2) ∧ w'.cell? ⟨w1.heap.size, 9, none⟩ = some (.int .i64 n2) ∧ w'.cell? ⟨w1.heap.size, 10, none⟩ = some (.int .i64 p2) ∧ w'.cell? ⟨w1.heap.size, 11, none⟩ = some (.int .i64 d2) ∧ w'.cell? ⟨bs, off + k * 3, none⟩ = some (.int .u8 kk) ∧ w'.cell? ⟨bs, off + k * 3 + 1, none⟩ = some (.bool oo) ∧ w'.cell? ⟨bs, off + k * 3 + 2, none⟩ = some (.int .u8 qq)) (ds := [11]) #[false, false, false, false, false, false, false, false, false, false, false, false, false] (by kernel_rfl) rfl rfl ⟨(HLL.out.drew.cell 0), (HLL.out.drew.cell 1), (HLL.out.drew.cell 2), (HLL.out.drew.cell 3), (HLL.out.drew.cell 4), (HLL.out.drew.cell 5), (HLL.out.drew.cell 6), (HLL.out.drew.cell 7), (HLL.out.drew.cell 8), (HLL.out.drew.cell 9), (HLL.out.drew.cell 10), (HLL.out.drew.cell 11), x0, x1, x2⟩ (fun hHeld => ?_)
      refine pure_ (i := 1) (N := some 36) (v := ?_) (a' := ?_) #[false, true, false, false, false, false, false, false, false, false, false, false, false] rfl rfl (by kernel_rfl) (fun _ _ _ h => h) (Or.inl ⟨by rfl, ?_⟩) ?_ ?_
      rotate_left
      · intro w'
        go_simp
        with_reducible rfl
      rotate_left
      · simp only [Act.put, List.setIfInBounds_toArray, List.set_cons_zero, List.set_cons_succ, i64_w, i32_w]
        rfl
      refine pure_ (i := 2) (N := some 37) (v := ?_) (a' := ?_) #[false, true, true, false, false, false, false, false, false, false, false, false, false] rfl rfl (by kernel_rfl) (fun _ _ _ h => h) (Or.inl ⟨by rfl, ?_⟩) ?_ ?_
      rotate_left
      · intro w'
        go_simp
        with_reducible rfl
      rotate_left
      · simp only [Act.put, List.setIfInBounds_toArray, List.set_cons_zero, List.set_cons_succ, i64_w, i32_w]
        rfl
      refine pure_ (i := 3) (N := some 38) (v := ?_) (a' := ?_) #[false, true, true, true, false, false, false, false, false, false, false, false, false] rfl rfl (by kernel_rfl) (fun _ _ _ h => h) (Or.inl ⟨by rfl, ?_⟩) ?_ ?_
      rotate_left
      · intro w'
        go_simp
        with_reducible rfl
      rotate_left
      · simp only [Act.put, List.setIfInBounds_toArray, List.set_cons_zero, List.set_cons_succ, i64_w, i32_w]
        rfl
      refine pure_ (i := 4) (N := some 39) (v := ?_) (a' := ?_) #[false, true, true, true, true, false, false, false, false, false, false, false, false] rfl rfl (by kernel_rfl) (fun _ _ _ h => h) (Or.inl ⟨by rfl, ?_⟩) ?_ ?_
      rotate_left
      · intro w'
        go_simp
        with_reducible rfl
      rotate_left
      · simp only [Act.put, List.setIfInBounds_toArray, List.set_cons_zero, List.set_cons_succ, i64_w, i32_w]
        rfl
      refine pure_ (i := 6) (N := some 41) (v := ?_) (a' := ?_) #[false, true, true, true, true, false, true, false, false, false, false, false, false] rfl rfl (by kernel_rfl) (fun _ _ _ h => h) (Or.inl ⟨by rfl, ?_⟩) ?_ ?_
      rotate_left
      · intro w'
        go_simp
        with_reducible rfl
      rotate_left
      · simp only [Act.put, List.setIfInBounds_toArray, List.set_cons_zero, List.set_cons_succ, i64_w, i32_w]
        rfl
      refine take_ (i := 0) (N := some 35) (v := ?_) (a' := ?_) #[true, true, true, true, true, false, true, false, false, false, false, false, false] rfl rfl (by kernel_rfl) (fun _ _ _ h => h) (Or.inl ⟨by rfl, ?_⟩) hHeld ?_ ?_
      rotate_left
      · rintro w' ⟨s0, s1, s2, s3, s4, s5, s6, s7, s8, s9, s10, s11, s12, s13, s14⟩
        go_simp
        with_reducible rfl
      rotate_left
      · simp only [Act.put, List.setIfInBounds_toArray, List.set_cons_zero, List.set_cons_succ, i64_w, i32_w]
        rfl
      refine take_ (i := 5) (N := some 40) (v := ?_) (a' := ?_) #[true, true, true, true, true, true, true, false, false, false, false, false, false] rfl rfl (by kernel_rfl) (fun _ _ _ h => h) (Or.inl ⟨by rfl, ?_⟩) hHeld ?_ ?_
      rotate_left
      · rintro w' ⟨s0, s1, s2, s3, s4, s5, s6, s7, s8, s9, s10, s11, s12, s13, s14⟩
        go_simp
        with_reducible rfl
      rotate_left
      · simp only [Act.put, List.setIfInBounds_toArray, List.set_cons_zero, List.set_cons_succ, i64_w, i32_w]
        rfl
      refine one_ (i := 7) (N := some 42) #[true, true, true, true, true, true, true, true, false, false, false, false, false] rfl rfl (by kernel_rfl) (by decide) (fun K hK => ?_)
      refine goes_ Try.func12 (by kernel_rfl) rfl #[A12 ⟨l, r, e, n', p, d⟩ ⟨l2, r2, e2, n2, p2, d2⟩, u9, .agg #[.int .u8 kk, .bool oo, .int .u8 qq], .int .i64 (k : Int)] (by rfl) rfl rfl (by simp only [List.map_toArray, List.map_cons, List.map_nil]; rfl) ?_
      with_reducible refine (HC.out _ HRR.out.drew lL2).mono ?_
      rintro e wz ⟨v2, he, hr, hg⟩
      subst he
      refine ⟨_, rfl, ?_⟩
      have hL2 := (HLL.out.drew).grown hg (fun e => by have := HVB.out _ e.symm; omega)
      obtain ⟨y0, y1, y2, y3, y4, y5, y6, y7, y8, y9, y10, y11, z0, z1, z2, z3, z4, z5, z6, z7, z8, z9, z10, z11⟩ := hL2.twelve
      refine hK.out _ _ ⟨(hL2.cell 0), (hL2.cell 1), (hL2.cell 2), (hL2.cell 3), (hL2.cell 4), (hL2.cell 5), (hL2.cell 6), (hL2.cell 7), (hL2.cell 8), (hL2.cell 9), (hL2.cell 10), (hL2.cell 11), (hg.cell x0 (fun e => by have := HVB.out _ e.symm; simp at this; omega)), (hg.cell x1 (fun e => by have := HVB.out _ e.symm; simp at this; omega)), (hg.cell x2 (fun e => by have := HVB.out _ e.symm; simp at this; omega))⟩ (fun hHeld => ?_)
      clear hK K
      refine norm_ (a' := ?_) ?_ ?_
      rotate_left
      · show Act.put _ (some 42) _ = _
        simp only [Act.put, List.setIfInBounds_toArray, List.set_cons_zero, List.set_cons_succ, i64_w, i32_w]
        rfl
      refine pure_ (i := 8) (N := some 34) (v := ?_) (a' := ?_) #[true, true, true, true, true, true, true, true, true, false, false, false, false] rfl rfl (by kernel_rfl) (fun _ _ _ h => h) (Or.inl ⟨by rfl, ?_⟩) ?_ ?_
      rotate_left
      · intro w'
        go_simp
        with_reducible rfl
      rotate_left
      · simp only [Act.put, List.setIfInBounds_toArray, List.set_cons_zero, List.set_cons_succ, i64_w, i32_w]
        rfl
      refine pure_ (i := 9) (N := some 43) (v := ?_) (a' := ?_) #[true, true, true, true, true, true, true, true, true, true, false, false, false] rfl rfl (by kernel_rfl) (fun _ _ _ h => h) (Or.inl ⟨by rfl, ?_⟩) ?_ ?_
      rotate_left
      · intro w'
        go_simp
        with_reducible rfl
      rotate_left
      · simp only [Act.put, List.setIfInBounds_toArray, List.set_cons_zero, List.set_cons_succ, i64_w, i32_w]
        rfl
      refine pure_ (i := 10) (N := some 44) (v := ?_) (a' := ?_) #[true, true, true, true, true, true, true, true, true, true, true, false, false] rfl rfl (by kernel_rfl) (fun _ _ _ h => h) (Or.inl ⟨by rfl, ?_⟩) ?_ ?_
      rotate_left
      · intro w'
        go_simp
        with_reducible rfl
      rotate_left
      · simp only [Act.put, List.setIfInBounds_toArray, List.set_cons_zero, List.set_cons_succ, i64_w, i32_w]
        rfl
      refine last_ (i := 11) (N := none) #[true, true, true, true, true, true, true, true, true, true, true, true, false] rfl rfl (by kernel_rfl) (by decide) (fun K hK => ?_)
      refine skip_ (w1 := ?_) (by rfl) rfl ?_ ?_
      rotate_left
      · go_simp
        rfl
      refine hK.out _ _ ?_
      clear hK K
      refine pure_ (i := 12) (N := some 9) (v := ?_) (a' := ?_) #[true, true, true, true, true, true, true, true, true, true, true, true, true] rfl rfl (by kernel_rfl) (fun _ _ _ h => h) (Or.inl ⟨by rfl, ?_⟩) ?_ ?_
      rotate_left
      · intro w'
        go_simp
        with_reducible rfl
      rotate_left
      · simp only [Act.put, List.setIfInBounds_toArray, List.set_cons_zero, List.set_cons_succ, i64_w, i32_w]
        rfl
      refine done_ (by kernel_rfl) ?_
      have hN := hL2.store12 (a' := (.int .i64 lx)) (b' := (.int .i64 rx)) (c' := (.int .i64 ex)) (d' := (.int .i64 nx)) (e' := (.int .i64 px)) (f' := (.int .i64 dx)) (m' := (.int .i64 ly)) (n' := (.int .i64 ry)) (o' := (.int .i64 ey)) (p' := (.int .i64 ny)) (q' := (.int .i64 py)) (r' := (.int .i64 dy))
      have hR := hr.apart12 (g := w1.heap.size) (a' := (.int .i64 lx)) (b' := (.int .i64 rx)) (c' := (.int .i64 ex)) (d' := (.int .i64 nx)) (e' := (.int .i64 px)) (f' := (.int .i64 dx)) (m' := (.int .i64 ly)) (n' := (.int .i64 ry)) (o' := (.int .i64 ey)) (p' := (.int .i64 ny)) (q' := (.int .i64 py)) (r' := (.int .i64 dy)) (fun j hj => by have := (hr.block j hj).1; omega)
      have hB3 := b_12 (g := w1.heap.size) (a' := (.int .i64 lx)) (b' := (.int .i64 rx)) (c' := (.int .i64 ex)) (d' := (.int .i64 nx)) (e' := (.int .i64 px)) (f' := (.int .i64 dx)) (m' := (.int .i64 ly)) (n' := (.int .i64 ry)) (o' := (.int .i64 ey)) (p' := (.int .i64 ny)) (q' := (.int .i64 py)) (r' := (.int .i64 dy)) (b_grown (b_drew HBB.out) hg (fun j hj => by have := HVB.out j hj; have := LB.out; omega)) (by have := LB.out; omega)
      have hM := HKK.out.drew
      have hlb := LB.out
      have hK3 := (hM.grown hg (fun e => by have := HVB.out _ e.symm; omega)).far12 (g2 := w1.heap.size) (a' := (.int .i64 lx)) (b' := (.int .i64 rx)) (c' := (.int .i64 ex)) (d' := (.int .i64 nx)) (e' := (.int .i64 px)) (f' := (.int .i64 dx)) (m' := (.int .i64 ly)) (n' := (.int .i64 ry)) (o' := (.int .i64 ey)) (p' := (.int .i64 ny)) (q' := (.int .i64 py)) (r' := (.int .i64 dy)) (by omega)
      clear hM hlb
      go_wp2_with fail
      go_roundg (gk - 1)
      case measure => omega
      case rel => exact ⟨k + 1, by omega, by go_num, by rw [HST.out]; exact hN, by rw [HST.out]; exact hR, hB3, hK3⟩
    · obtain rfl : k = len := by omega
      have hinv := HI.out k
      have hbd := HBD.out k
      rw [HRUN.out] at hinv hbd
      dsimp only at hinv hbd
      have q1 := hinv.al
      have q2 := hinv.ar
      have q3 := hinv.bl
      have q4 := hinv.br
      dsimp only at q1 q2 q3 q4
      subst q1 q2 q3 q4
      have HCA : Hid (∀ w, Calls Try.prog 13 #[S6 ⟨0, 1, e, n', p, d⟩] w (Gave ⟨0, 1, e, n', 0, 0⟩ (closeF ⟨0, 1, e, n', p, d⟩).2 w)) := Lib.hid fun w => gave_of (close_any _ w) (close_shut hinv.oka) rfl
      have HCB : Hid (∀ w, Calls Try.prog 13 #[S6 ⟨1, 0, e2, n2, p2, d2⟩] w (Gave ⟨1, 0, e2, n2, 0, 0⟩ (closeF ⟨1, 0, e2, n2, p2, d2⟩).2 w)) := Lib.hid fun w => gave_of (close_any _ w) (close_shut hinv.okb) rfl
      generalize (closeF ⟨0, 1, e, n', p, d⟩).2 = msa at HCA
      generalize (closeF ⟨1, 0, e2, n2, p2, d2⟩).2 = msb at HCB
      have HN1 : Hid (Ok ⟨0, 1, e, n', 0, 0⟩) := Lib.hid (by obtain ⟨t1, t2, t3, t4, t5, t6, t7, t8, t9, t10, t11, t12, t13, t14⟩ := hinv.oka; dsimp only at *; constructor <;> dsimp only <;> omega)
      have HN2 : Hid (Ok ⟨1, 0, e2, n2, 0, 0⟩) := Lib.hid (by obtain ⟨t1, t2, t3, t4, t5, t6, t7, t8, t9, t10, t11, t12, t13, t14⟩ := hinv.okb; dsimp only at *; constructor <;> dsimp only <;> omega)
      have HB1 : Hid (n' ≤ 66 ∧ n2 ≤ 66) := Lib.hid (by omega)
      clear hinv hbd HA HI HBD hrow hM
      have lL := hL.lt
      obtain ⟨y0, y1, y2, y3, y4, y5, y6, y7, y8, y9, y10, y11, z0, z1, z2, z3, z4, z5, z6, z7, z8, z9, z10, z11⟩ := hL.twelve
      go_wp2_with fail
      refine (HCA.out _).mono ?_
      rintro e9 wy ⟨v1, rfl, -, h1⟩
      have hL1 := hL.below h1
      have hb4 := b_step hb h1
      have l1 := hL1.lt
      clear h1 hL hb y0 y1 y2 y3 y4 y5 y6 y7 y8 y9 y10 y11 z0 z1 z2 z3 z4 z5 z6 z7 z8 z9 z10 z11
      obtain ⟨y0, y1, y2, y3, y4, y5, y6, y7, y8, y9, y10, y11, z0, z1, z2, z3, z4, z5, z6, z7, z8, z9, z10, z11⟩ := hL1.twelve
      go_wp2_with fail
      refine (HCB.out _).mono ?_
      rintro e9 wz ⟨v2, rfl, -, h1⟩
      have hL2 := (hL1.lo6 (a' := .int .i64 0) (b' := .int .i64 1) (c' := .int .i64 e) (d' := .int .i64 n') (e' := .int .i64 0) (f' := .int .i64 0)).below h1
      have hb5 := b_step (b_store6 (g := w1.heap.size) (a := .int .i64 0) (b := .int .i64 1) (c := .int .i64 e) (d := .int .i64 n') (e := .int .i64 0) (f := .int .i64 0) hb4 (by omega)) h1
      have l2 := hL2.lt
      clear h1 hL1 hb4 HCA HCB y0 y1 y2 y3 y4 y5 y6 y7 y8 y9 y10 y11 z0 z1 z2 z3 z4 z5 z6 z7 z8 z9 z10 z11
      obtain ⟨y0, y1, y2, y3, y4, y5, y6, y7, y8, y9, y10, y11, z0, z1, z2, z3, z4, z5, z6, z7, z8, z9, z10, z11⟩ := hL2.twelve
      have hL3 := hL2.hi6 (m' := .int .i64 1) (n' := .int .i64 0) (o' := .int .i64 e2) (p' := .int .i64 n2) (q' := .int .i64 0) (r' := .int .i64 0)
      have hb6 := b_hi6 (g := w1.heap.size) (a := .int .i64 1) (b := .int .i64 0) (c := .int .i64 e2) (d := .int .i64 n2) (e := .int .i64 0) (f := .int .i64 0) hb5 (by omega)
      go_wp2_with fail
      go_loopg [12] 3 (fun n i ws => ∃ (j : Nat) (E1 N1 E2 N2 : Int), j + n = 3 ∧ i = .int .i64 j ∧ Blk ws w1.heap.size (c12 ⟨0, 1, E1, N1, 0, 0⟩ ⟨1, 0, E2, N2, 0, 0⟩) 29 ∧ Ok ⟨0, 1, E1, N1, 0, 0⟩ ∧ Ok ⟨1, 0, E2, N2, 0, 0⟩ ∧ N1 ≤ 100 ∧ N2 ≤ 100 ∧ (j = 0 ∨ (j = 1 ∧ E1 = E2 ∧ N1 ≤ N2)) ∧ (j = 0 → N1 ≤ 66 ∧ N2 ≤ 66) ∧ Below w.heap.size w ws)
      case atStart => exact ⟨0, e, n', e2, n2, by omega, rfl, hL3, HN1.out, HN2.out, by have := HB1.out; omega, by have := HB1.out; omega, .inl rfl, fun _ => HB1.out, hb6⟩
      case round =>
        clear hL2 hL3 hb5 hb6 y0 y1 y2 y3 y4 y5 y6 y7 y8 y9 y10 y11 z0 z1 z2 z3 z4 z5 z6 z7 z8 z9 z10 z11
        obtain ⟨j, E1, N1, E2, N2, hj, rfl, hL, hok1, hok2, hn1, hn2, hready, h66, hb⟩ := hrel
        have hj3 : (j : Int) < 3 := by omega
        have HD : Hid (∀ w, Calls Try.prog 14 #[S6 ⟨1, 0, E2, N2, 0, 0⟩, .int .i64 100, .int .i64 5] w (Dialled ⟨1, 0, E2, N2 + 1, 1, 105⟩ [⟨5, 1, 0, N2 + 1, E2⟩] 0 w)) := Lib.hid fun w => dialled_of (dial_any _ _ _ w) (dial_shut hok2 (by omega) (by unfold InTime; omega))
        have HMET := Lib.hid (round_law hok2 hok1 (by omega))
        have HV1 : Hid (∀ w base v, Row w base v [⟨5, 1, 0, N2 + 1, E2⟩] → Calls Try.prog 15 #[S6 ⟨0, 1, E1, N1, 0, 0⟩, v] w (Gave (dlv ⟨0, 1, E1, N1, 0, 0⟩ [⟨5, 1, 0, N2 + 1, E2⟩]).1 (dlv ⟨0, 1, E1, N1, 0, 0⟩ [⟨5, 1, 0, N2 + 1, E2⟩]).2 w)) := Lib.hid fun w base v hv => deliver_any _ base v _ w hv (by simp) (by simp)
        have HV2 : Hid (∀ w base v, Row w base v (dlv ⟨0, 1, E1, N1, 0, 0⟩ [⟨5, 1, 0, N2 + 1, E2⟩]).2 → Calls Try.prog 15 #[S6 ⟨1, 0, E2, N2 + 1, 1, 105⟩, v] w (Gave (dlv ⟨1, 0, E2, N2 + 1, 1, 105⟩ (dlv ⟨0, 1, E1, N1, 0, 0⟩ [⟨5, 1, 0, N2 + 1, E2⟩]).2).1 (dlv ⟨1, 0, E2, N2 + 1, 1, 105⟩ (dlv ⟨0, 1, E1, N1, 0, 0⟩ [⟨5, 1, 0, N2 + 1, E2⟩]).2).2 w)) := Lib.hid fun w base v hv => deliver_any _ base v _ w hv (fun m hm => by rw [dlv_one] at hm; have := (recv_kept hok1 _).sent m hm; omega) (by have := dlv_short ⟨0, 1, E1, N1, 0, 0⟩ [⟨5, 1, 0, N2 + 1, E2⟩]; simp at this; omega)
        generalize dlv ⟨0, 1, E1, N1, 0, 0⟩ [⟨5, 1, 0, N2 + 1, E2⟩] = R1 at HMET HV1 HV2
        obtain ⟨⟨zl, zr, ze, zn, zp, zd⟩, ms2⟩ := R1
        dsimp only at HMET HV1 HV2
        generalize dlv ⟨1, 0, E2, N2 + 1, 1, 105⟩ ms2 = R2 at HMET HV2
        obtain ⟨⟨xl, xr, xe, xn, xp, xd⟩, ms3⟩ := R2
        dsimp only at HMET HV2
        have HW : wrap64 0 = 0 := by unfold wrap64; omega
        have HREADY := Lib.hid hready
        have H66 := Lib.hid h66
        clear hready h66 hok1 hok2 HN1 HN2 HB1
        have lL := hL.lt
        obtain ⟨y0, y1, y2, y3, y4, y5, y6, y7, y8, y9, y10, y11, z0, z1, z2, z3, z4, z5, z6, z7, z8, z9, z10, z11⟩ := hL.twelve
        go_wp2_with fail
        refine (HD.out _).mono ?_
        rintro e9 wd ⟨v1, rfl, r1, h1⟩
        have L1 := hL.below h1
        have hb7 := b_step hb h1
        have l1 := L1.lt
        clear h1 hL hb HD y0 y1 y2 y3 y4 y5 y6 y7 y8 y9 y10 y11 z0 z1 z2 z3 z4 z5 z6 z7 z8 z9 z10 z11
        obtain ⟨y0, y1, y2, y3, y4, y5, y6, y7, y8, y9, y10, y11, z0, z1, z2, z3, z4, z5, z6, z7, z8, z9, z10, z11⟩ := L1.twelve
        go_wp2_with fail
        refine (HV1.out _ _ _ (r1.below (b_alloc (Below.refl _ _) _))).mono ?_
        rintro e9 we ⟨v2, rfl, r2, h2⟩
        have L2 := (L1.alloc (.cells (c6 ⟨1, 0, E2, N2 + 1, 1, 105⟩) 28)).below h2
        have D2 := (Blk.new wd (c6 ⟨1, 0, E2, N2 + 1, 1, 105⟩) 28).below h2
        have hb8 := b_step (b_alloc hb7 (.cells (c6 ⟨1, 0, E2, N2 + 1, 1, 105⟩) 28)) h2
        have l3 := D2.lt
        clear h2 L1 hb7 HV1 r1 y0 y1 y2 y3 y4 y5 y6 y7 y8 y9 y10 y11 z0 z1 z2 z3 z4 z5 z6 z7 z8 z9 z10 z11
        obtain ⟨p0, p1, p2, p3, p4, p5, q0, q1, q2, q3, q4, q5⟩ := D2.six
        go_wp2_with fail
        refine (HV2.out _ _ _ (r2.below (b_alloc (Below.refl _ _) _))).mono ?_
        rintro e9 wf ⟨v3, rfl, r3, h3⟩
        have L3 := (L2.alloc (.cells (c6 ⟨zl, zr, ze, zn, zp, zd⟩) 28)).below h3
        have D3 := (D2.alloc (.cells (c6 ⟨zl, zr, ze, zn, zp, zd⟩) 28)).below h3
        have E3 := (Blk.new we (c6 ⟨zl, zr, ze, zn, zp, zd⟩) 28).below h3
        have hb9 := b_step (b_alloc hb8 (.cells (c6 ⟨zl, zr, ze, zn, zp, zd⟩) 28)) h3
        have l4 := E3.lt
        clear h3 L2 D2 hb8 HV2 r2 r3 p0 p1 p2 p3 p4 p5 q0 q1 q2 q3 q4 q5
        obtain ⟨p0, p1, p2, p3, p4, p5, q0, q1, q2, q3, q4, q5⟩ := D3.six
        have D4 := D3.store6 (a' := .int .i64 xl) (b' := .int .i64 xr) (c' := .int .i64 xe) (d' := .int .i64 xn) (e' := .int .i64 xp) (f' := .int .i64 xd)
        have E4 := E3.far6 (g' := wd.heap.size) (a := .int .i64 xl) (b := .int .i64 xr) (c := .int .i64 xe) (d := .int .i64 xn) (e := .int .i64 xp) (f := .int .i64 xd) (by omega)
        have L4 := L3.far6 (g' := wd.heap.size) (a := .int .i64 xl) (b := .int .i64 xr) (c := .int .i64 xe) (d := .int .i64 xn) (e := .int .i64 xp) (f := .int .i64 xd) (by omega)
        have hb10 := b_store6 (g := wd.heap.size) (a := .int .i64 xl) (b := .int .i64 xr) (c := .int .i64 xe) (d := .int .i64 xn) (e := .int .i64 xp) (f := .int .i64 xd) hb9 (by omega)
        clear L3 D3 E3 hb9
        go_upto_region 24 with fail
        generalize ((((((wf.setCell ⟨wd.heap.size, 0, none⟩ (.int .i64 xl)).setCell ⟨wd.heap.size, 1, none⟩ (.int .i64 xr)).setCell ⟨wd.heap.size, 2, none⟩ (.int .i64 xe)).setCell ⟨wd.heap.size, 3, none⟩ (.int .i64 xn)).setCell ⟨wd.heap.size, 4, none⟩ (.int .i64 xp)).setCell ⟨wd.heap.size, 5, none⟩ (.int .i64 xd)) = wq at *
        clear p0 p1 p2 p3 p4 p5 q0 q1 q2 q3 q4 q5
        obtain ⟨y0, y1, y2, y3, y4, y5, y6, y7, y8, y9, y10, y11, z0, z1, z2, z3, z4, z5, z6, z7, z8, z9, z10, z11⟩ := L4.twelve
        have HD4 := Lib.hid D4
        have HE4 := Lib.hid E4
        have HL4 := Lib.hid L4
        have HB10 := Lib.hid hb10
        clear D4 E4 L4 hb10
        refine start_ (n := 9) (S := fun w' => w'.cell? ⟨wd.heap.size, 0, none⟩ = some (.int .i64 xl) ∧ w'.cell? ⟨wd.heap.size, 1, none⟩ = some (.int .i64 xr) ∧ w'.cell? ⟨wd.heap.size, 2, none⟩ = some (.int .i64 xe) ∧ w'.cell? ⟨wd.heap.size, 3, none⟩ = some (.int .i64 xn) ∧ w'.cell? ⟨wd.heap.size, 4, none⟩ = some (.int .i64 xp) ∧ w'.cell? ⟨wd.heap.size, 5, none⟩ = some (.int .i64 xd) ∧ w'.cell? ⟨we.heap.size, 0, none⟩ = some (.int .i64 zl) ∧ w'.cell? ⟨we.heap.size, 1, none⟩ = some (.int .i64 zr) ∧ w'.cell? ⟨we.heap.size, 2, none⟩ = some (.int .i64 ze) ∧ w'.cell? ⟨we.heap.size, 3, none⟩ = some (.int .i64 zn) ∧ w'.cell? ⟨we.heap.size, 4, none⟩ = some (.int .i64 zp) ∧ w'.cell? ⟨we.heap.size, 5, none⟩ = some (.int .i64 zd)) (ds := [8]) #[false, false, false, false, false, false, false, false, false] (by kernel_rfl) rfl rfl ⟨(HD4.out.drew.cell 0), (HD4.out.drew.cell 1), (HD4.out.drew.cell 2), (HD4.out.drew.cell 3), (HD4.out.drew.cell 4), (HD4.out.drew.cell 5), (HE4.out.drew.cell 0), (HE4.out.drew.cell 1), (HE4.out.drew.cell 2), (HE4.out.drew.cell 3), (HE4.out.drew.cell 4), (HE4.out.drew.cell 5)⟩ (fun hHeld => ?_)
        refine pure_ (i := 0) (N := some 89) (v := ?_) (a' := ?_) #[true, false, false, false, false, false, false, false, false] rfl rfl (by kernel_rfl) (fun _ _ _ h => h) (Or.inl ⟨by rfl, ?_⟩) ?_ ?_
        rotate_left
        · intro w'
          go_simp
          with_reducible rfl
        rotate_left
        · simp only [Act.put, List.setIfInBounds_toArray, List.set_cons_zero, List.set_cons_succ, i64_w, i32_w]
          rfl
        refine pure_ (i := 1) (N := some 90) (v := ?_) (a' := ?_) #[true, true, false, false, false, false, false, false, false] rfl rfl (by kernel_rfl) (fun _ _ _ h => h) (Or.inl ⟨by rfl, ?_⟩) ?_ ?_
        rotate_left
        · intro w'
          go_simp
          with_reducible rfl
        rotate_left
        · simp only [Act.put, List.setIfInBounds_toArray, List.set_cons_zero, List.set_cons_succ, i64_w, i32_w]
          rfl
        refine pure_ (i := 2) (N := some 91) (v := ?_) (a' := ?_) #[true, true, true, false, false, false, false, false, false] rfl rfl (by kernel_rfl) (fun _ _ _ h => h) (Or.inl ⟨by rfl, ?_⟩) ?_ ?_
        rotate_left
        · intro w'
          go_simp
          with_reducible rfl
        rotate_left
        · simp only [Act.put, List.setIfInBounds_toArray, List.set_cons_zero, List.set_cons_succ, i64_w, i32_w]
          rfl
        refine take_ (i := 3) (N := some 92) (v := ?_) (a' := ?_) #[true, true, true, true, false, false, false, false, false] rfl rfl (by kernel_rfl) (fun _ _ _ h => h) (Or.inl ⟨by rfl, ?_⟩) hHeld ?_ ?_
        rotate_left
        · rintro w' ⟨s0, s1, s2, s3, s4, s5, s6, s7, s8, s9, s10, s11⟩
          go_simp
          with_reducible rfl
        rotate_left
        · simp only [Act.put, List.setIfInBounds_toArray, List.set_cons_zero, List.set_cons_succ, i64_w, i32_w]
          rfl
        refine pure_ (i := 5) (N := some 94) (v := ?_) (a' := ?_) #[true, true, true, true, false, true, false, false, false] rfl rfl (by kernel_rfl) (fun _ _ _ h => h) (Or.inl ⟨by rfl, ?_⟩) ?_ ?_
        rotate_left
        · intro w'
          go_simp
          with_reducible rfl
        rotate_left
        · simp only [Act.put, List.setIfInBounds_toArray, List.set_cons_zero, List.set_cons_succ, i64_w, i32_w]
          rfl
        refine take_ (i := 4) (N := some 93) (v := ?_) (a' := ?_) #[true, true, true, true, true, true, false, false, false] rfl rfl (by kernel_rfl) (fun _ _ _ h => h) (Or.inl ⟨by rfl, ?_⟩) hHeld ?_ ?_
        rotate_left
        · rintro w' ⟨s0, s1, s2, s3, s4, s5, s6, s7, s8, s9, s10, s11⟩
          go_simp
          with_reducible rfl
        rotate_left
        · simp only [Act.put, List.setIfInBounds_toArray, List.set_cons_zero, List.set_cons_succ, i64_w, i32_w]
          rfl
        refine one_ (i := 6) (N := none) #[true, true, true, true, true, true, true, false, false] rfl rfl (by kernel_rfl) (by decide) (fun K hK => ?_)
        have D5 := HD4.out.drew
        have E5 := HE4.out.drew
        have L5 := HL4.out.drew
        have hb5 := b_drew HB10.out
        clear HD4 HE4 HL4 HB10 hHeld y0 y1 y2 y3 y4 y5 y6 y7 y8 y9 y10 y11 z0 z1 z2 z3 z4 z5 z6 z7 z8 z9 z10 z11
        generalize wq.drew = wv at *
        obtain ⟨y0, y1, y2, y3, y4, y5, y6, y7, y8, y9, y10, y11, z0, z1, z2, z3, z4, z5, z6, z7, z8, z9, z10, z11⟩ := L5.twelve
        have lL5 := L5.lt
        have D5 := Lib.hid (D5.farHi6 (g2 := w1.heap.size) (a := .int .i64 xl) (b := .int .i64 xr) (c := .int .i64 xe) (d := .int .i64 xn) (e := .int .i64 xp) (f := .int .i64 xd) (by omega))
        have E5 := Lib.hid (E5.farHi6 (g2 := w1.heap.size) (a := .int .i64 xl) (b := .int .i64 xr) (c := .int .i64 xe) (d := .int .i64 xn) (e := .int .i64 xp) (f := .int .i64 xd) (by omega))
        have L5 := Lib.hid (L5.hi6 (m' := .int .i64 xl) (n' := .int .i64 xr) (o' := .int .i64 xe) (p' := .int .i64 xn) (q' := .int .i64 xp) (r' := .int .i64 xd))
        have hb5 := Lib.hid (b_hi6 (g := w1.heap.size) (a := .int .i64 xl) (b := .int .i64 xr) (c := .int .i64 xe) (d := .int .i64 xn) (e := .int .i64 xp) (f := .int .i64 xd) hb5 (by omega))
        refine skip_ (w1 := ?_) (by rfl) rfl ?_ ?_
        rotate_left
        · go_simp
          rfl
        refine hK.out _ _ ⟨(D5.out.cell 0), (D5.out.cell 1), (D5.out.cell 2), (D5.out.cell 3), (D5.out.cell 4), (D5.out.cell 5), (E5.out.cell 0), (E5.out.cell 1), (E5.out.cell 2), (E5.out.cell 3), (E5.out.cell 4), (E5.out.cell 5)⟩ (fun hHeld => ?_)
        clear hK K
        refine pure_ (i := 7) (N := some 95) (v := ?_) (a' := ?_) #[true, true, true, true, true, true, true, true, false] rfl rfl (by kernel_rfl) (fun _ _ _ h => h) (Or.inl ⟨by rfl, ?_⟩) ?_ ?_
        rotate_left
        · intro w'
          go_simp
          with_reducible rfl
        rotate_left
        · simp only [Act.put, List.setIfInBounds_toArray, List.set_cons_zero, List.set_cons_succ, i64_w, i32_w]
          rfl
        refine last_ (i := 8) (N := none) #[true, true, true, true, true, true, true, true, true] rfl rfl (by kernel_rfl) (by decide) (fun K hK => ?_)
        have D5 := D5.out
        have E5 := E5.out
        have L5 := L5.out
        have hb5 := hb5.out
        clear hHeld y0 y1 y2 y3 y4 y5 y6 y7 y8 y9 y10 y11 z0 z1 z2 z3 z4 z5 z6 z7 z8 z9 z10 z11
        generalize ((((((wv.setCell ⟨w1.heap.size, 6, none⟩ (.int .i64 xl)).setCell ⟨w1.heap.size, 7, none⟩ (.int .i64 xr)).setCell ⟨w1.heap.size, 8, none⟩ (.int .i64 xe)).setCell ⟨w1.heap.size, 9, none⟩ (.int .i64 xn)).setCell ⟨w1.heap.size, 10, none⟩ (.int .i64 xp)).setCell ⟨w1.heap.size, 11, none⟩ (.int .i64 xd)) = wu at *
        obtain ⟨y0, y1, y2, y3, y4, y5, y6, y7, y8, y9, y10, y11, z0, z1, z2, z3, z4, z5, z6, z7, z8, z9, z10, z11⟩ := L5.twelve
        have lL6 := L5.lt
        have D6 := Lib.hid (D5.far6 (g' := w1.heap.size) (a := .int .i64 zl) (b := .int .i64 zr) (c := .int .i64 ze) (d := .int .i64 zn) (e := .int .i64 zp) (f := .int .i64 zd) (by omega))
        have E6 := Lib.hid (E5.far6 (g' := w1.heap.size) (a := .int .i64 zl) (b := .int .i64 zr) (c := .int .i64 ze) (d := .int .i64 zn) (e := .int .i64 zp) (f := .int .i64 zd) (by omega))
        have L6 := Lib.hid (L5.lo6 (a' := .int .i64 zl) (b' := .int .i64 zr) (c' := .int .i64 ze) (d' := .int .i64 zn) (e' := .int .i64 zp) (f' := .int .i64 zd))
        have B6 := Lib.hid (b_store6 (g := w1.heap.size) (a := .int .i64 zl) (b := .int .i64 zr) (c := .int .i64 ze) (d := .int .i64 zn) (e := .int .i64 zp) (f := .int .i64 zd) hb5 (by omega))
        clear D5 E5 L5 hb5
        refine skip_ (w1 := ?_) (by rfl) rfl ?_ ?_
        rotate_left
        · go_simp
          rfl
        refine hK.out _ _ ?_
        clear hK K
        refine done_ (by kernel_rfl) ?_
        clear y0 y1 y2 y3 y4 y5 y6 y7 y8 y9 y10 y11 z0 z1 z2 z3 z4 z5 z6 z7 z8 z9 z10 z11
        have D7 := D6.out
        have E7 := E6.out
        have L7 := L6.out
        have B7 := B6.out
        clear D6 E6 L6 B6
        generalize ((((((wu.setCell ⟨w1.heap.size, 0, none⟩ (.int .i64 zl)).setCell ⟨w1.heap.size, 1, none⟩ (.int .i64 zr)).setCell ⟨w1.heap.size, 2, none⟩ (.int .i64 ze)).setCell ⟨w1.heap.size, 3, none⟩ (.int .i64 zn)).setCell ⟨w1.heap.size, 4, none⟩ (.int .i64 zp)).setCell ⟨w1.heap.size, 5, none⟩ (.int .i64 zd)) = wt at *
        have HOKA := Lib.hid HMET.out.oka
        have HOKB := Lib.hid HMET.out.okb
        have hae := HMET.out.ae
        dsimp only at hae
        subst hae
        rcases HMET.out.open' with hop | hcl
        · dsimp only at hop
          obtain ⟨rfl, rfl, rfl⟩ := hop
          have HACC := Lib.hid (fun W => acc_any ⟨xl, xr, xe, xn, 2, xd⟩ xn xe W)
          have hz := acc_same (b := ⟨zl, zr, xe, xn, 2, zd⟩) HOKA.out rfl rfl rfl
          dsimp only at hz
          rw [hz] at HACC
          clear HMET HOKA HOKB HREADY H66 hz L7
          have lD := D7.lt
          have lE := E7.lt
          obtain ⟨p0, p1, p2, p3, p4, p5, q0, q1, q2, q3, q4, q5⟩ := D7.six
          go_wp2_with fail
          refine (awake_any _).mono ?_
          rintro e9 wx ⟨rfl, hx⟩
          have D8 := D7.below hx
          have E8 := E7.below hx
          have B8 := b_step B7 hx
          clear D7 E7 B7 hx p0 p1 p2 p3 p4 p5 q0 q1 q2 q3 q4 q5
          obtain ⟨p0, p1, p2, p3, p4, p5, q0, q1, q2, q3, q4, q5⟩ := D8.six
          obtain ⟨y0, y1, y2, y3, y4, y5, z0, z1, z2, z3, z4, z5⟩ := E8.six
          go_wp2_with fail
          refine (HACC.out _).mono ?_
          rintro e9 wy2 ⟨rfl, hy⟩
          go_wp2_with fail
          go_ret
          exact ⟨rfl, b_step B8 hy⟩
        · dsimp only at hcl
          obtain ⟨rfl, rfl, h3, h4, h5, rfl, rfl, rfl, rfl, h10⟩ := hcl
          have hx0 := HOKA.out.pd
          have hz0 := HOKB.out.pd
          dsimp only at hx0 hz0
          obtain rfl : xd = 0 := by omega
          obtain rfl : zd = 0 := by omega
          have hj0 : j = 0 := by have := HREADY.out; omega
          have h66 := H66.out hj0
          clear HREADY H66 HMET hx0 hz0
          have HF := Lib.hid (And.intro h3 (And.intro h4 (And.intro h5 (And.intro h10 h66))))
          clear h3 h4 h5 h10 h66
          obtain ⟨p0, p1, p2, p3, p4, p5, q0, q1, q2, q3, q4, q5⟩ := D7.six
          go_wp2_with fail
          go_roundg (gk - 1)
          case measure => omega
          case rel => exact ⟨j + 1, xe, zn, xe, xn, by omega, by go_num, L7, HOKB.out, HOKA.out, by have := HF.out; omega, by have := HF.out; omega, .inr ⟨by omega, rfl, by have := HF.out; omega⟩, fun q => absurd q (by omega), B7⟩
theorem connects_any (e0 e1 n0 n1 : Int) (a0 : 0 ≤ e0) (a1 : e0 ≤ 255) (b0 : 0 ≤ e1) (b1 : e1 ≤ 255) (c0 : 0 ≤ n0) (c1 : n0 ≤ 255) (d0 : 0 ≤ n1) (d1 : n1 ≤ 255)
    (A : Option Addr) (len cap : Nat) (K : Nat → Int) (O : Nat → Bool) (Q : Nat → Int) (w : World) (hA : 0 < len → ∃ b off, A = some ⟨b, off, none⟩ ∧ StepAt w b off len K O Q) (o : Bool) :
    Calls Try.prog 3 #[.agg #[.int .u8 e0, .int .u8 e1, .int .u8 n0, .int .u8 n1], .slice A len cap, .bool o] w fun e w' => e = .returned (.bool true) ∧ Below w.heap.size w w' := by
  cases o with
  | false => exact connects_f e0 e1 n0 n1 a0 a1 b0 b1 c0 c1 d0 d1 A len cap K O Q w hA
  | true => exact connects_t e0 e1 n0 n1 a0 a1 b0 b1 c0 c1 d0 d1 A len cap K O Q w hA
end Go.Proofs.Ytemljffppdjmgaa
