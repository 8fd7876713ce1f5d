/- SessionAgrees returns true for all starts, steps and offsets. -/
import Derived.Test.YtemljffppdjmgaaJ
import Derived.ChangeKeysEq
namespace Go.Proofs.Ytemljffppdjmgaa
open Go.RowKit Go.Proofs.YtemljffppdjmgaaW.PrintLast
set_option linter.unusedVariables false
set_option linter.unusedSimpArgs false
theorem acc_law {s : Ses} (h : Ok s) (m0 m1 : Int) : accF s (s.n + m0) (s.e + m1) = 0 ↔ (s.p = 2 ∧ m0 = 0 ∧ m1 = 0) := by
  unfold accF
  rw [chk_zero.2 h]
  constructor
  · intro q
    split at q
    · rename_i hx; exact absurd rfl hx
    · split at q
      · exact absurd q (by decide)
      · split at q
        · exact absurd q (by decide)
        · split at q
          · exact absurd q (by decide)
          · omega
  · rintro ⟨q1, q2, q3⟩
    rw [if_neg (by simp), if_neg (by omega), if_neg (by omega), if_neg (by omega)]
theorem eq46 (a b c d : Int) (w : World) : (Op.equalIn 10000 46 (.agg #[.int .i8 a, .int .i8 b]) (.agg #[.int .i8 c, .int .i8 d])).run Try.prog w = .ok (a == c && b == d) w := by
  obtain ⟨i, hi, hs⟩ : ∃ i, Try.prog.info? 45 = some i ∧ i.size = 1 := by
    have h : (Try.prog.info? 45).map (fun i => i.size) = some 1 := by kernel_rfl
    cases h2 : Try.prog.info? 45 with
    | none => rw [h2] at h; cases h
    | some i => rw [h2] at h; exact ⟨i, rfl, Option.some.inj h⟩
  have hC : Try.prog.cellsOf 45 = 1 := by kernel_rfl
  have hr : List.range 2 = [0, 1] := rfl
  rw [run_equalIn_array w 9999 #[.int .i8 a, .int .i8 b] #[.int .i8 c, .int .i8 d] Try.underlying46 hi, hC, hr]
  simp [Op.eqItems, part, Sem.run_bind, run_underlying Try.underlying45, run_equalIn_int w 9998 45 _ _ a c Try.underlying45, run_equalIn_int w 9998 45 _ _ b d Try.underlying45]
  by_cases h1 : a = c <;> by_cases h2 : b = d <;> simp [h1, h2]
set_option maxHeartbeats 8000000 in
theorem agrees_any (e0 e1 n0 n1 : Int) (a0 : 0 ≤ e0) (a1 : e0 ≤ 255) (b0 : 0 ≤ e1) (b1 : e1 ≤ 255) (c0 : 0 ≤ n0) (c1 : n0 ≤ 255) (d0 : 0 ≤ n1) (d1 : n1 ≤ 255)
    (A : Option Addr) (len cap : Nat) (K : Nat → Int) (O : Nat → Bool) (Q : Nat → Int) (w : World) (hA : 0 < len → ∃ b off, A = some ⟨b, off, none⟩ ∧ StepAt w b off len K O Q)
    (m0 m1 : Int) (f0 : -128 ≤ m0) (f1 : m0 ≤ 127) (g0 : -128 ≤ m1) (g1 : m1 ≤ 127) :
    Calls Try.prog 4 #[.agg #[.int .u8 e0, .int .u8 e1, .int .u8 n0, .int .u8 n1], .slice A len cap, .agg #[.int .i8 m0, .int .i8 m1]] w fun e w' => e = .returned (.bool true) ∧ Below w.heap.size w w' := by
  by_cases h60 : (60 : Int) < len
  · clear hA
    go_enter Try.func4, Try.ntmps4
    go_wp2_with fail
    refine (awake_any _).mono ?_
    rintro e w1 ⟨rfl, h1⟩
    go_wp2_with fail
    go_ret
    exact ⟨rfl, b_step (b_alloc (b_alloc (Below.refl _ _) _) _) h1⟩
  have h60' : (len : Int) ≤ 60 := by omega
  have EQ46 := eq46 m0 m1 0 0
  have HE := Lib.hid (fun w => ends_any e0 e1 n0 n1 a0 a1 b0 b1 c0 c1 d0 d1 w)
  have HI := Lib.hid (fun i => run_inv (Inv.start e0 e1 n0 n1) K O Q i)
  have HA := Lib.hid hA
  clear hA h60 a0 a1 b0 b1 c0 c1 d0 d1
  generalize hea : endA e0 n0 = ea at HE HI
  generalize heb : endB e1 n1 = eb at HE HI
  clear hea heb
  go_enter Try.func4, Try.ntmps4
  go_wp2_with fail
  refine (HE.out _).mono ?_
  rintro e w1 ⟨rfl, h1⟩
  have M1 := (Blk.new (w.alloc (.cells #[.int .u8 e0, .int .u8 e1, .int .u8 n0, .int .u8 n1] 24)) #[.int .i8 m0, .int .i8 m1] 46).below h1
  rw [World.size_alloc] at M1
  have hb1 := b_step (b_alloc (b_alloc (Below.refl w.heap.size w) (.cells #[.int .u8 e0, .int .u8 e1, .int .u8 n0, .int .u8 n1] 24)) (.cells #[.int .i8 m0, .int .i8 m1] 46)) h1
  have lm1 := M1.lt
  clear h1 HE
  have LB : Hid (w.heap.size + 2 ≤ w1.heap.size) := Lib.hid (by omega)
  have B0 := Blk.new w1 (c12 ea eb) 29
  have hb2 := b_alloc hb1 (.cells (c12 ea eb) 29)
  go_wp2_with fail
  go_loopg [9, 10] len (fun n vv i wr => ∃ (k : Nat), k + n = len ∧ i = .int .i64 k ∧ Blk wr w1.heap.size (c12 (runF ea eb K O Q k).1 (runF ea eb K O Q k).2.1) 29 ∧ Row wr (w1.heap.size + 1) vv (runF ea eb K O Q k).2.2 ∧ Below w.heap.size w wr ∧ Blk wr (w.heap.size + 1) #[.int .i8 m0, .int .i8 m1] 46)
  case atStart => exact ⟨0, by omega, rfl, B0, row_nil _ _, hb2, (M1.alloc _)⟩
  case round =>
    obtain ⟨k, hk, rfl, hL, hrow, hb, hM⟩ := hrel
    generalize hrun : runF ea eb K O Q k = R at hL hrow
    obtain ⟨⟨l, r, e, n', p, d⟩, ⟨l2, r2, e2, n2, p2, d2⟩, sent⟩ := R
    have HRUN := Lib.hid hrun
    clear hrun B0 hb2 M1 hb1
    dsimp only at hL hrow
    by_cases hlt : k < len
    · obtain ⟨bs, off, rfl, hst⟩ := HA.out (by omega)
      have hinv := HI.out k
      rw [HRUN.out] at hinv
      dsimp only at hinv
      obtain ⟨x0, x1, x2, k0, k1, q0, q1⟩ := (hst.below hb) k hlt
      have hbs : bs < w.heap.size := hst.lt hlt
      clear hst
      have HC := Lib.hid (fun W (hw : Row W (w1.heap.size + 1) u9 sent) (hz : w1.heap.size + 1 ≤ W.heap.size) => step_any ⟨l, r, e, n', p, d⟩ ⟨l2, r2, e2, n2, p2, d2⟩ (w1.heap.size + 1) u9 sent (K k) (O k) (Q k) k k0 k1 q0 q1 W hw hz (by have := hinv.len; omega) hinv.kinds)
      have HST : Hid (runF ea eb K O Q (k + 1) = stepF ⟨l, r, e, n', p, d⟩ ⟨l2, r2, e2, n2, p2, d2⟩ sent (K k) (O k) (Q k) k) := by
        show stepF (runF ea eb K O Q k).1 _ _ _ _ _ _ = _
        rw [HRUN.out]
      clear hinv k0 k1 q0 q1
      generalize K k = kk at *
      generalize O k = oo at *
      generalize Q k = qq at *
      generalize stepF ⟨l, r, e, n', p, d⟩ ⟨l2, r2, e2, n2, p2, d2⟩ sent kk oo qq k = R2 at HC HST
      obtain ⟨⟨lx, rx, ex, nx, px, dx⟩, ⟨ly, ry, ey, ny, py, dy⟩, sent2⟩ := R2
      dsimp only at HC
      have HVB := Lib.hid (fun j hj => (hrow.block j hj).1)
      have lL := hL.lt
      have lL2 : w1.heap.size + 1 ≤ wr.drew.heap.size := by show _ ≤ wr.heap.size; omega
      have c0k : (0 : Int) ≤ (k : Int) := by omega
      have c1k : (k : Int) < (len : Int) := by omega
      have hwk : IntKind.i64.wrap (k : Int) = k := IntWalk.i64_in _ ⟨by omega, by omega⟩
      have HBB := Lib.hid hb
      have HLL := Lib.hid hL
      have HRR := Lib.hid hrow
      have HKK := Lib.hid hM
      clear hL hrow hb hM
      go_upto_region 10 with fail
      refine start_ (n := 13) (S := fun w' => w'.cell? ⟨w1.heap.size, 0, none⟩ = some (.int .i64 l) ∧ w'.cell? ⟨w1.heap.size, 1, none⟩ = some (.int .i64 r) ∧ w'.cell? ⟨w1.heap.size, 2, none⟩ = some (.int .i64 e) ∧ w'.cell? ⟨w1.heap.size, 3, none⟩ = some (.int .i64 n') ∧ w'.cell? ⟨w1.heap.size, 4, none⟩ = some (.int .i64 p) ∧ w'.cell? ⟨w1.heap.size, 5, none⟩ = some (.int .i64 d) ∧ w'.cell? ⟨w1.heap.size, 6, none⟩ = some (.int .i64 l2) ∧ w'.cell? ⟨w1.heap.size, 7, none⟩ = some (.int .i64 r2) ∧ w'.cell? ⟨w1.heap.size, 8, none⟩ = some (.int .i64 e2) ∧ w'.cell? ⟨w1.heap.size, 9, none⟩ = some (.int .i64 n2) ∧ w'.cell? ⟨w1.heap.size, 10, none⟩ = some (.int .i64 p2) ∧ w'.cell? ⟨w1.heap.size, 11, none⟩ = some (.int .i64 d2) ∧ w'.cell? ⟨bs, off + k * 3, none⟩ = some (.int .u8 kk) ∧ w'.cell? ⟨bs, off + k * 3 + 1, none⟩ = some (.bool oo) ∧ w'.cell? ⟨bs, off + k * 3 + 2, none⟩ = some (.int .u8 qq)) (ds := [11]) #[false, false, false, false, false, false, false, false, false, false, false, false, false] (by kernel_rfl) rfl rfl ⟨(HLL.out.drew.cell 0), (HLL.out.drew.cell 1), (HLL.out.drew.cell 2), (HLL.out.drew.cell 3), (HLL.out.drew.cell 4), (HLL.out.drew.cell 5), (HLL.out.drew.cell 6), (HLL.out.drew.cell 7), (HLL.out.drew.cell 8), (HLL.out.drew.cell 9), (HLL.out.drew.cell 10), (HLL.out.drew.cell 11), x0, x1, x2⟩ (fun hHeld => ?_)
      refine pure_ (i := 1) (N := some 32) (v := ?_) (a' := ?_) #[false, true, false, false, false, false, false, false, false, false, false, false, false] rfl rfl (by kernel_rfl) (fun _ _ _ h => h) (Or.inl ⟨by rfl, ?_⟩) ?_ ?_
      rotate_left
      · intro w'
        go_simp
        with_reducible rfl
      rotate_left
      · simp only [Act.put, List.setIfInBounds_toArray, List.set_cons_zero, List.set_cons_succ, i64_w, i32_w]
        rfl
      refine pure_ (i := 2) (N := some 33) (v := ?_) (a' := ?_) #[false, true, true, false, false, false, false, false, false, false, false, false, false] rfl rfl (by kernel_rfl) (fun _ _ _ h => h) (Or.inl ⟨by rfl, ?_⟩) ?_ ?_
      rotate_left
      · intro w'
        go_simp
        with_reducible rfl
      rotate_left
      · simp only [Act.put, List.setIfInBounds_toArray, List.set_cons_zero, List.set_cons_succ, i64_w, i32_w]
        rfl
      refine pure_ (i := 3) (N := some 34) (v := ?_) (a' := ?_) #[false, true, true, true, false, false, false, false, false, false, false, false, false] rfl rfl (by kernel_rfl) (fun _ _ _ h => h) (Or.inl ⟨by rfl, ?_⟩) ?_ ?_
      rotate_left
      · intro w'
        go_simp
        with_reducible rfl
      rotate_left
      · simp only [Act.put, List.setIfInBounds_toArray, List.set_cons_zero, List.set_cons_succ, i64_w, i32_w]
        rfl
      refine pure_ (i := 4) (N := some 35) (v := ?_) (a' := ?_) #[false, true, true, true, true, false, false, false, false, false, false, false, false] rfl rfl (by kernel_rfl) (fun _ _ _ h => h) (Or.inl ⟨by rfl, ?_⟩) ?_ ?_
      rotate_left
      · intro w'
        go_simp
        with_reducible rfl
      rotate_left
      · simp only [Act.put, List.setIfInBounds_toArray, List.set_cons_zero, List.set_cons_succ, i64_w, i32_w]
        rfl
      refine pure_ (i := 6) (N := some 37) (v := ?_) (a' := ?_) #[false, true, true, true, true, false, true, false, false, false, false, false, false] rfl rfl (by kernel_rfl) (fun _ _ _ h => h) (Or.inl ⟨by rfl, ?_⟩) ?_ ?_
      rotate_left
      · intro w'
        go_simp
        with_reducible rfl
      rotate_left
      · simp only [Act.put, List.setIfInBounds_toArray, List.set_cons_zero, List.set_cons_succ, i64_w, i32_w]
        rfl
      refine take_ (i := 0) (N := some 31) (v := ?_) (a' := ?_) #[true, true, true, true, true, false, true, false, false, false, false, false, false] rfl rfl (by kernel_rfl) (fun _ _ _ h => h) (Or.inl ⟨by rfl, ?_⟩) hHeld ?_ ?_
      rotate_left
      · rintro w' ⟨s0, s1, s2, s3, s4, s5, s6, s7, s8, s9, s10, s11, s12, s13, s14⟩
        go_simp
        with_reducible rfl
      rotate_left
      · simp only [Act.put, List.setIfInBounds_toArray, List.set_cons_zero, List.set_cons_succ, i64_w, i32_w]
        rfl
      refine take_ (i := 5) (N := some 36) (v := ?_) (a' := ?_) #[true, true, true, true, true, true, true, false, false, false, false, false, false] rfl rfl (by kernel_rfl) (fun _ _ _ h => h) (Or.inl ⟨by rfl, ?_⟩) hHeld ?_ ?_
      rotate_left
      · rintro w' ⟨s0, s1, s2, s3, s4, s5, s6, s7, s8, s9, s10, s11, s12, s13, s14⟩
        go_simp
        with_reducible rfl
      rotate_left
      · simp only [Act.put, List.setIfInBounds_toArray, List.set_cons_zero, List.set_cons_succ, i64_w, i32_w]
        rfl
      refine one_ (i := 7) (N := some 38) #[true, true, true, true, true, true, true, true, false, false, false, false, false] rfl rfl (by kernel_rfl) (by decide) (fun K hK => ?_)
      refine goes_ Try.func12 (by kernel_rfl) rfl #[A12 ⟨l, r, e, n', p, d⟩ ⟨l2, r2, e2, n2, p2, d2⟩, u9, .agg #[.int .u8 kk, .bool oo, .int .u8 qq], .int .i64 (k : Int)] (by rfl) rfl rfl (by simp only [List.map_toArray, List.map_cons, List.map_nil]; rfl) ?_
      with_reducible refine (HC.out _ HRR.out.drew lL2).mono ?_
      rintro e wz ⟨v2, he, hr, hg⟩
      subst he
      refine ⟨_, rfl, ?_⟩
      have hL2 := (HLL.out.drew).grown hg (fun e => by have := HVB.out _ e.symm; omega)
      obtain ⟨y0, y1, y2, y3, y4, y5, y6, y7, y8, y9, y10, y11, z0, z1, z2, z3, z4, z5, z6, z7, z8, z9, z10, z11⟩ := hL2.twelve
      refine hK.out _ _ ⟨(hL2.cell 0), (hL2.cell 1), (hL2.cell 2), (hL2.cell 3), (hL2.cell 4), (hL2.cell 5), (hL2.cell 6), (hL2.cell 7), (hL2.cell 8), (hL2.cell 9), (hL2.cell 10), (hL2.cell 11), (hg.cell x0 (fun e => by have := HVB.out _ e.symm; simp at this; omega)), (hg.cell x1 (fun e => by have := HVB.out _ e.symm; simp at this; omega)), (hg.cell x2 (fun e => by have := HVB.out _ e.symm; simp at this; omega))⟩ (fun hHeld => ?_)
      clear hK K
      refine norm_ (a' := ?_) ?_ ?_
      rotate_left
      · show Act.put _ (some 38) _ = _
        simp only [Act.put, List.setIfInBounds_toArray, List.set_cons_zero, List.set_cons_succ, i64_w, i32_w]
        rfl
      refine pure_ (i := 8) (N := some 30) (v := ?_) (a' := ?_) #[true, true, true, true, true, true, true, true, true, false, false, false, false] rfl rfl (by kernel_rfl) (fun _ _ _ h => h) (Or.inl ⟨by rfl, ?_⟩) ?_ ?_
      rotate_left
      · intro w'
        go_simp
        with_reducible rfl
      rotate_left
      · simp only [Act.put, List.setIfInBounds_toArray, List.set_cons_zero, List.set_cons_succ, i64_w, i32_w]
        rfl
      refine pure_ (i := 9) (N := some 39) (v := ?_) (a' := ?_) #[true, true, true, true, true, true, true, true, true, true, false, false, false] rfl rfl (by kernel_rfl) (fun _ _ _ h => h) (Or.inl ⟨by rfl, ?_⟩) ?_ ?_
      rotate_left
      · intro w'
        go_simp
        with_reducible rfl
      rotate_left
      · simp only [Act.put, List.setIfInBounds_toArray, List.set_cons_zero, List.set_cons_succ, i64_w, i32_w]
        rfl
      refine pure_ (i := 10) (N := some 40) (v := ?_) (a' := ?_) #[true, true, true, true, true, true, true, true, true, true, true, false, false] rfl rfl (by kernel_rfl) (fun _ _ _ h => h) (Or.inl ⟨by rfl, ?_⟩) ?_ ?_
      rotate_left
      · intro w'
        go_simp
        with_reducible rfl
      rotate_left
      · simp only [Act.put, List.setIfInBounds_toArray, List.set_cons_zero, List.set_cons_succ, i64_w, i32_w]
        rfl
      refine last_ (i := 11) (N := none) #[true, true, true, true, true, true, true, true, true, true, true, true, false] rfl rfl (by kernel_rfl) (by decide) (fun K hK => ?_)
      refine skip_ (w1 := ?_) (by rfl) rfl ?_ ?_
      rotate_left
      · go_simp
        rfl
      refine hK.out _ _ ?_
      clear hK K
      refine pure_ (i := 12) (N := some 9) (v := ?_) (a' := ?_) #[true, true, true, true, true, true, true, true, true, true, true, true, true] rfl rfl (by kernel_rfl) (fun _ _ _ h => h) (Or.inl ⟨by rfl, ?_⟩) ?_ ?_
      rotate_left
      · intro w'
        go_simp
        with_reducible rfl
      rotate_left
      · simp only [Act.put, List.setIfInBounds_toArray, List.set_cons_zero, List.set_cons_succ, i64_w, i32_w]
        rfl
      refine done_ (by kernel_rfl) ?_
      have hN := hL2.store12 (a' := (.int .i64 lx)) (b' := (.int .i64 rx)) (c' := (.int .i64 ex)) (d' := (.int .i64 nx)) (e' := (.int .i64 px)) (f' := (.int .i64 dx)) (m' := (.int .i64 ly)) (n' := (.int .i64 ry)) (o' := (.int .i64 ey)) (p' := (.int .i64 ny)) (q' := (.int .i64 py)) (r' := (.int .i64 dy))
      have hR := hr.apart12 (g := w1.heap.size) (a' := (.int .i64 lx)) (b' := (.int .i64 rx)) (c' := (.int .i64 ex)) (d' := (.int .i64 nx)) (e' := (.int .i64 px)) (f' := (.int .i64 dx)) (m' := (.int .i64 ly)) (n' := (.int .i64 ry)) (o' := (.int .i64 ey)) (p' := (.int .i64 ny)) (q' := (.int .i64 py)) (r' := (.int .i64 dy)) (fun j hj => by have := (hr.block j hj).1; omega)
      have hB3 := b_12 (g := w1.heap.size) (a' := (.int .i64 lx)) (b' := (.int .i64 rx)) (c' := (.int .i64 ex)) (d' := (.int .i64 nx)) (e' := (.int .i64 px)) (f' := (.int .i64 dx)) (m' := (.int .i64 ly)) (n' := (.int .i64 ry)) (o' := (.int .i64 ey)) (p' := (.int .i64 ny)) (q' := (.int .i64 py)) (r' := (.int .i64 dy)) (b_grown (b_drew HBB.out) hg (fun j hj => by have := HVB.out j hj; have := LB.out; omega)) (by have := LB.out; omega)
      have hM := HKK.out.drew
      have hlb := LB.out
      have hK3 := (hM.grown hg (fun e => by have := HVB.out _ e.symm; omega)).far12 (g2 := w1.heap.size) (a' := (.int .i64 lx)) (b' := (.int .i64 rx)) (c' := (.int .i64 ex)) (d' := (.int .i64 nx)) (e' := (.int .i64 px)) (f' := (.int .i64 dx)) (m' := (.int .i64 ly)) (n' := (.int .i64 ry)) (o' := (.int .i64 ey)) (p' := (.int .i64 ny)) (q' := (.int .i64 py)) (r' := (.int .i64 dy)) (by omega)
      clear hM hlb
      go_wp2_with fail
      go_roundg (gk - 1)
      case measure => omega
      case rel => exact ⟨k + 1, by omega, by go_num, by rw [HST.out]; exact hN, by rw [HST.out]; exact hR, hB3, hK3⟩
    · obtain rfl : k = len := by omega
      have hinv := HI.out k
      rw [HRUN.out] at hinv
      dsimp only at hinv
      have HV := Lib.hid hinv
      clear hinv HA HI
      have lL := hL.lt
      have HBB := Lib.hid hb
      have HLL := Lib.hid hL
      have HMM := Lib.hid hM
      clear hL hrow hb hM
      go_wp2_with fail
      go_loopg [11, 12] 2 (fun n i c ws => ∃ j : Nat, j + n = 2 ∧ i = .int .i64 j ∧ Blk ws w1.heap.size (c12 ⟨l, r, e, n', p, d⟩ ⟨l2, r2, e2, n2, p2, d2⟩) 29 ∧ Blk ws (w.heap.size + 1) #[.int .i8 m0, .int .i8 m1] 46 ∧ Below w.heap.size w ws)
      case atStart => exact ⟨0, by omega, rfl, HLL.out, HMM.out, HBB.out⟩
      case round =>
        obtain ⟨j, hj, rfl, hL, hM, hb⟩ := hrel
        by_cases hj0 : j = 0
        · obtain rfl : j = 0 := by omega
          have HW1 : IntKind.i64.wrap (n' + m0) = n' + m0 := IntWalk.i64_in _ (by have h1 := HV.out.oka.n0; have h2 := HV.out.oka.n1; dsimp only at h1 h2; omega)
          have HW2 : IntKind.i64.wrap (e + m1) = e + m1 := IntWalk.i64_in _ (by have h1 := HV.out.oka.e0; have h2 := HV.out.oka.e1; dsimp only at h1 h2; omega)
          have HW3 : IntKind.i64.wrap m0 = m0 := IntWalk.i64_in _ (by omega)
          have HW4 : IntKind.i64.wrap m1 = m1 := IntWalk.i64_in _ (by omega)
          have HW5 : wrap64 (n' + m0) = n' + m0 := by rw [← i64_w]; exact HW1
          have HW6 : wrap64 (e + m1) = e + m1 := by rw [← i64_w]; exact HW2
          have HW7 : wrap64 m0 = m0 := by rw [← i64_w]; exact HW3
          have HW8 : wrap64 m1 = m1 := by rw [← i64_w]; exact HW4
          have HAC := Lib.hid (fun W => acc_any ⟨l, r, e, n', p, d⟩ (n' + m0) (e + m1) W)
          have HLAW := Lib.hid (acc_law HV.out.oka m0 m1)
          dsimp only at HLAW
          generalize accF ⟨l, r, e, n', p, d⟩ (n' + m0) (e + m1) = cc at HAC HLAW
          have HL2 := Lib.hid hL
          have HM2 := Lib.hid hM
          have HB2 := Lib.hid hb
          clear hL hM hb
          go_upto_region 14 with fail
          refine start_ (n := 21) (S := fun w' => w'.cell? ⟨w1.heap.size, 0, none⟩ = some (.int .i64 l) ∧ w'.cell? ⟨w1.heap.size, 1, none⟩ = some (.int .i64 r) ∧ w'.cell? ⟨w1.heap.size, 2, none⟩ = some (.int .i64 e) ∧ w'.cell? ⟨w1.heap.size, 3, none⟩ = some (.int .i64 n') ∧ w'.cell? ⟨w1.heap.size, 4, none⟩ = some (.int .i64 p) ∧ w'.cell? ⟨w1.heap.size, 5, none⟩ = some (.int .i64 d) ∧ w'.cell? ⟨w1.heap.size, 6, none⟩ = some (.int .i64 l2) ∧ w'.cell? ⟨w1.heap.size, 7, none⟩ = some (.int .i64 r2) ∧ w'.cell? ⟨w1.heap.size, 8, none⟩ = some (.int .i64 e2) ∧ w'.cell? ⟨w1.heap.size, 9, none⟩ = some (.int .i64 n2) ∧ w'.cell? ⟨w1.heap.size, 10, none⟩ = some (.int .i64 p2) ∧ w'.cell? ⟨w1.heap.size, 11, none⟩ = some (.int .i64 d2) ∧ w'.cell? ⟨w.heap.size + 1, 0, none⟩ = some (.int .i8 m0) ∧ w'.cell? ⟨w.heap.size + 1, 1, none⟩ = some (.int .i8 m1)) (ds := []) #[false, false, false, false, false, false, false, false, false, false, false, false, false, false, false, false, false, false, false, false, false] (by kernel_rfl) rfl rfl ⟨(HL2.out.drew.cell 0), (HL2.out.drew.cell 1), (HL2.out.drew.cell 2), (HL2.out.drew.cell 3), (HL2.out.drew.cell 4), (HL2.out.drew.cell 5), (HL2.out.drew.cell 6), (HL2.out.drew.cell 7), (HL2.out.drew.cell 8), (HL2.out.drew.cell 9), (HL2.out.drew.cell 10), (HL2.out.drew.cell 11), (HM2.out.drew.cell 0), (HM2.out.drew.cell 1)⟩ (fun hHeld => ?_)
          refine pure_ (i := 0) (N := some 45) (v := ?_) (a' := ?_) #[true, false, false, false, false, false, false, false, false, false, false, false, false, false, false, false, false, false, false, false, false] rfl rfl (by kernel_rfl) (fun _ _ _ h => h) (Or.inl ⟨by rfl, ?_⟩) ?_ ?_
          rotate_left
          · intro w'
            go_simp
            with_reducible rfl
          rotate_left
          · simp only [Act.put, List.setIfInBounds_toArray, List.set_cons_zero, List.set_cons_succ, i64_w, i32_w]
            rfl
          refine pure_ (i := 1) (N := some 46) (v := ?_) (a' := ?_) #[true, true, false, false, false, false, false, false, false, false, false, false, false, false, false, false, false, false, false, false, false] rfl rfl (by kernel_rfl) (fun _ _ _ h => h) (Or.inl ⟨by rfl, ?_⟩) ?_ ?_
          rotate_left
          · intro w'
            go_simp
            with_reducible rfl
          rotate_left
          · simp only [Act.put, List.setIfInBounds_toArray, List.set_cons_zero, List.set_cons_succ, i64_w, i32_w]
            rfl
          refine pure_ (i := 3) (N := some 48) (v := ?_) (a' := ?_) #[true, true, false, true, false, false, false, false, false, false, false, false, false, false, false, false, false, false, false, false, false] rfl rfl (by kernel_rfl) (fun _ _ _ h => h) (Or.inl ⟨by rfl, ?_⟩) ?_ ?_
          rotate_left
          · intro w'
            go_simp
            with_reducible rfl
          rotate_left
          · simp only [Act.put, List.setIfInBounds_toArray, List.set_cons_zero, List.set_cons_succ, i64_w, i32_w]
            rfl
          refine pure_ (i := 4) (N := some 49) (v := ?_) (a' := ?_) #[true, true, false, true, true, false, false, false, false, false, false, false, false, false, false, false, false, false, false, false, false] rfl rfl (by kernel_rfl) (fun _ _ _ h => h) (Or.inl ⟨by rfl, ?_⟩) ?_ ?_
          rotate_left
          · intro w'
            go_simp
            with_reducible rfl
          rotate_left
          · simp only [Act.put, List.setIfInBounds_toArray, List.set_cons_zero, List.set_cons_succ, i64_w, i32_w]
            rfl
          refine pure_ (i := 5) (N := some 50) (v := ?_) (a' := ?_) #[true, true, false, true, true, true, false, false, false, false, false, false, false, false, false, false, false, false, false, false, false] rfl rfl (by kernel_rfl) (fun _ _ _ h => h) (Or.inl ⟨by rfl, ?_⟩) ?_ ?_
          rotate_left
          · intro w'
            go_simp
            with_reducible rfl
          rotate_left
          · simp only [Act.put, List.setIfInBounds_toArray, List.set_cons_zero, List.set_cons_succ, i64_w, i32_w]
            rfl
          refine pure_ (i := 7) (N := some 52) (v := ?_) (a' := ?_) #[true, true, false, true, true, true, false, true, false, false, false, false, false, false, false, false, false, false, false, false, false] rfl rfl (by kernel_rfl) (fun _ _ _ h => h) (Or.inl ⟨by rfl, ?_⟩) ?_ ?_
          rotate_left
          · intro w'
            go_simp
            with_reducible rfl
          rotate_left
          · simp only [Act.put, List.setIfInBounds_toArray, List.set_cons_zero, List.set_cons_succ, i64_w, i32_w]
            rfl
          refine pure_ (i := 11) (N := some 56) (v := ?_) (a' := ?_) #[true, true, false, true, true, true, false, true, false, false, false, true, false, false, false, false, false, false, false, false, false] rfl rfl (by kernel_rfl) (fun _ _ _ h => h) (Or.inl ⟨by rfl, ?_⟩) ?_ ?_
          rotate_left
          · intro w'
            go_simp
            with_reducible rfl
          rotate_left
          · simp only [Act.put, List.setIfInBounds_toArray, List.set_cons_zero, List.set_cons_succ, i64_w, i32_w]
            rfl
          refine pure_ (i := 12) (N := some 57) (v := ?_) (a' := ?_) #[true, true, false, true, true, true, false, true, false, false, false, true, true, false, false, false, false, false, false, false, false] rfl rfl (by kernel_rfl) (fun _ _ _ h => h) (Or.inl ⟨by rfl, ?_⟩) ?_ ?_
          rotate_left
          · intro w'
            go_simp
            with_reducible rfl
          rotate_left
          · simp only [Act.put, List.setIfInBounds_toArray, List.set_cons_zero, List.set_cons_succ, i64_w, i32_w]
            rfl
          refine pure_ (i := 13) (N := some 58) (v := ?_) (a' := ?_) #[true, true, false, true, true, true, false, true, false, false, false, true, true, true, false, false, false, false, false, false, false] rfl rfl (by kernel_rfl) (fun _ _ _ h => h) (Or.inl ⟨by rfl, ?_⟩) ?_ ?_
          rotate_left
          · intro w'
            go_simp
            with_reducible rfl
          rotate_left
          · simp only [Act.put, List.setIfInBounds_toArray, List.set_cons_zero, List.set_cons_succ, i64_w, i32_w]
            rfl
          refine pure_ (i := 15) (N := some 60) (v := ?_) (a' := ?_) #[true, true, false, true, true, true, false, true, false, false, false, true, true, true, false, true, false, false, false, false, false] rfl rfl (by kernel_rfl) (fun _ _ _ h => h) (Or.inl ⟨by rfl, ?_⟩) ?_ ?_
          rotate_left
          · intro w'
            go_simp
            with_reducible rfl
          rotate_left
          · simp only [Act.put, List.setIfInBounds_toArray, List.set_cons_zero, List.set_cons_succ, i64_w, i32_w]
            rfl
          refine take_ (i := 2) (N := some 47) (v := ?_) (a' := ?_) #[true, true, true, true, true, true, false, true, false, false, false, true, true, true, false, true, false, false, false, false, false] rfl rfl (by kernel_rfl) (fun _ _ _ h => h) (Or.inl ⟨by rfl, ?_⟩) hHeld ?_ ?_
          rotate_left
          · rintro w' ⟨s0, s1, s2, s3, s4, s5, s6, s7, s8, s9, s10, s11, s12, s13⟩
            go_simp
            with_reducible rfl
          rotate_left
          · simp only [Act.put, List.setIfInBounds_toArray, List.set_cons_zero, List.set_cons_succ, i64_w, i32_w]
            rfl
          refine take_ (i := 6) (N := some 51) (v := ?_) (a' := ?_) #[true, true, true, true, true, true, true, true, false, false, false, true, true, true, false, true, false, false, false, false, false] rfl rfl (by kernel_rfl) (fun _ _ _ h => h) (Or.inl ⟨by rfl, ?_⟩) hHeld ?_ ?_
          rotate_left
          · rintro w' ⟨s0, s1, s2, s3, s4, s5, s6, s7, s8, s9, s10, s11, s12, s13⟩
            go_simp
            with_reducible rfl
          rotate_left
          · simp only [Act.put, List.setIfInBounds_toArray, List.set_cons_zero, List.set_cons_succ, i64_w, i32_w]
            rfl
          refine take_ (i := 8) (N := some 53) (v := ?_) (a' := ?_) #[true, true, true, true, true, true, true, true, true, false, false, true, true, true, false, true, false, false, false, false, false] rfl rfl (by kernel_rfl) (fun _ _ _ h => h) (Or.inl ⟨by rfl, ?_⟩) hHeld ?_ ?_
          rotate_left
          · rintro w' ⟨s0, s1, s2, s3, s4, s5, s6, s7, s8, s9, s10, s11, s12, s13⟩
            go_simp
            with_reducible rfl
          rotate_left
          · simp only [Act.put, List.setIfInBounds_toArray, List.set_cons_zero, List.set_cons_succ, i64_w, i32_w]
            rfl
          refine pure_ (i := 9) (N := some 54) (v := ?_) (a' := ?_) #[true, true, true, true, true, true, true, true, true, true, false, true, true, true, false, true, false, false, false, false, false] rfl rfl (by kernel_rfl) (fun _ _ _ h => h) (Or.inl ⟨by rfl, ?_⟩) ?_ ?_
          rotate_left
          · intro w'
            go_simp
            with_reducible rfl
          rotate_left
          · simp only [Act.put, List.setIfInBounds_toArray, List.set_cons_zero, List.set_cons_succ, i64_w, i32_w]
            rfl
          refine pure_ (i := 10) (N := some 55) (v := ?_) (a' := ?_) #[true, true, true, true, true, true, true, true, true, true, true, true, true, true, false, true, false, false, false, false, false] rfl rfl (by kernel_rfl) (fun _ _ _ h => h) (Or.inl ⟨by rfl, ?_⟩) ?_ ?_
          rotate_left
          · intro w'
            go_simp
            with_reducible rfl
          rotate_left
          · simp only [Act.put, List.setIfInBounds_toArray, List.set_cons_zero, List.set_cons_succ, i64_w, i32_w]
            rfl
          refine take_ (i := 14) (N := some 59) (v := ?_) (a' := ?_) #[true, true, true, true, true, true, true, true, true, true, true, true, true, true, true, true, false, false, false, false, false] rfl rfl (by kernel_rfl) (fun _ _ _ h => h) (Or.inl ⟨by rfl, ?_⟩) hHeld ?_ ?_
          rotate_left
          · rintro w' ⟨s0, s1, s2, s3, s4, s5, s6, s7, s8, s9, s10, s11, s12, s13⟩
            go_simp
            with_reducible rfl
          rotate_left
          · simp only [Act.put, List.setIfInBounds_toArray, List.set_cons_zero, List.set_cons_succ, i64_w, i32_w]
            rfl
          refine take_ (i := 16) (N := some 61) (v := ?_) (a' := ?_) #[true, true, true, true, true, true, true, true, true, true, true, true, true, true, true, true, true, false, false, false, false] rfl rfl (by kernel_rfl) (fun _ _ _ h => h) (Or.inl ⟨by rfl, ?_⟩) hHeld ?_ ?_
          rotate_left
          · rintro w' ⟨s0, s1, s2, s3, s4, s5, s6, s7, s8, s9, s10, s11, s12, s13⟩
            go_simp
            with_reducible rfl
          rotate_left
          · simp only [Act.put, List.setIfInBounds_toArray, List.set_cons_zero, List.set_cons_succ, i64_w, i32_w]
            rfl
          refine pure_ (i := 17) (N := some 62) (v := ?_) (a' := ?_) #[true, true, true, true, true, true, true, true, true, true, true, true, true, true, true, true, true, true, false, false, false] rfl rfl (by kernel_rfl) (fun _ _ _ h => h) (Or.inl ⟨by rfl, ?_⟩) ?_ ?_
          rotate_left
          · intro w'
            go_simp
            with_reducible rfl
          rotate_left
          · simp only [Act.put, List.setIfInBounds_toArray, List.set_cons_zero, List.set_cons_succ, i64_w, i32_w]
            rfl
          refine pure_ (i := 18) (N := some 63) (v := ?_) (a' := ?_) #[true, true, true, true, true, true, true, true, true, true, true, true, true, true, true, true, true, true, true, false, false] rfl rfl (by kernel_rfl) (fun _ _ _ h => h) (Or.inl ⟨by rfl, ?_⟩) ?_ ?_
          rotate_left
          · intro w'
            go_simp
            with_reducible rfl
          rotate_left
          · simp only [Act.put, List.setIfInBounds_toArray, List.set_cons_zero, List.set_cons_succ, i64_w, i32_w]
            rfl
          refine one_ (i := 19) (N := some 64) #[true, true, true, true, true, true, true, true, true, true, true, true, true, true, true, true, true, true, true, true, false] rfl rfl (by kernel_rfl) (by decide) (fun K hK => ?_)
          refine goes_ Try.func16 (by kernel_rfl) rfl #[S6 ⟨l, r, e, n', p, d⟩, .int .i64 (n' + m0), .int .i64 (e + m1)] (by rfl) rfl rfl (by simp only [List.map_toArray, List.map_cons, List.map_nil]; rfl) ?_
          with_reducible refine (HAC.out _).mono ?_
          rintro e wz ⟨rfl, hx⟩
          refine ⟨_, rfl, ?_⟩
          refine hK.out _ _ ⟨(cell_below hHeld.1 hx), (cell_below hHeld.2.1 hx), (cell_below hHeld.2.2.1 hx), (cell_below hHeld.2.2.2.1 hx), (cell_below hHeld.2.2.2.2.1 hx), (cell_below hHeld.2.2.2.2.2.1 hx), (cell_below hHeld.2.2.2.2.2.2.1 hx), (cell_below hHeld.2.2.2.2.2.2.2.1 hx), (cell_below hHeld.2.2.2.2.2.2.2.2.1 hx), (cell_below hHeld.2.2.2.2.2.2.2.2.2.1 hx), (cell_below hHeld.2.2.2.2.2.2.2.2.2.2.1 hx), (cell_below hHeld.2.2.2.2.2.2.2.2.2.2.2.1 hx), (cell_below hHeld.2.2.2.2.2.2.2.2.2.2.2.2.1 hx), (cell_below hHeld.2.2.2.2.2.2.2.2.2.2.2.2.2 hx)⟩ (fun hHeld => ?_)
          clear hK K
          refine norm_ (a' := ?_) ?_ ?_
          rotate_left
          · show Act.put _ (some 64) _ = _
            simp only [Act.put, List.setIfInBounds_toArray, List.set_cons_zero, List.set_cons_succ, i64_w, i32_w]
            rfl
          refine pure_ (i := 20) (N := some 12) (v := ?_) (a' := ?_) #[true, true, true, true, true, true, true, true, true, true, true, true, true, true, true, true, true, true, true, true, true] rfl rfl (by kernel_rfl) (fun _ _ _ h => h) (Or.inl ⟨by rfl, ?_⟩) ?_ ?_
          rotate_left
          · intro w'
            go_simp
            with_reducible rfl
          rotate_left
          · simp only [Act.put, List.setIfInBounds_toArray, List.set_cons_zero, List.set_cons_succ, i64_w, i32_w]
            rfl
          refine done_ (by kernel_rfl) ?_
          have hL3 := HL2.out.drew.below hx
          have hM3 := HM2.out.drew.below hx
          have hb3 := b_step (b_drew HB2.out) hx
          have t0 := hM3.cell 0
          have t1 := hM3.cell 1
          clear HL2 HM2 HB2 hx HAC HW1 HW2 HW3 HW4 HW5 HW6 HW7 HW8
          obtain ⟨y0, y1, y2, y3, y4, y5, y6, y7, y8, y9, y10, y11, -, -, -, -, -, -, -, -, -, -, -, -⟩ := hL3.twelve
          by_cases hp : p = 2
          · have hp' : (p == 2) = true := beq_iff_eq.2 hp
            by_cases hm0 : m0 = 0
            · by_cases hm1 : m1 = 0
              · have hc : (cc == 0) = true := beq_iff_eq.2 (HLAW.out.2 ⟨hp, hm0, hm1⟩)
                have hm0' : (m0 == 0) = true := beq_iff_eq.2 hm0
                have hm1' : (m1 == 0) = true := beq_iff_eq.2 hm1
                clear HLAW hp hm0 hm1
                go_wp2_with fail
                go_roundg (gk - 1)
                case measure => omega
                case rel => exact ⟨0 + 1, by omega, by go_num, hL3, hM3, hb3⟩
              · have hm0' : (m0 == 0) = true := beq_iff_eq.2 hm0
                have hm1' : (m1 == 0) = false := beq_eq_false_iff_ne.2 hm1
                have hc : (cc == 0) = false := beq_eq_false_iff_ne.2 (fun q => by have q2 := HLAW.out.1 q; exact hm1 q2.2.2)
                clear HLAW
                clear hp hm0 hm1
                go_wp2_with fail
                go_roundg (gk - 1)
                case measure => omega
                case rel => exact ⟨0 + 1, by omega, by go_num, hL3, hM3, hb3⟩
            · have hm0' : (m0 == 0) = false := beq_eq_false_iff_ne.2 hm0
              have hc : (cc == 0) = false := beq_eq_false_iff_ne.2 (fun q => by have q2 := HLAW.out.1 q; exact hm0 q2.2.1)
              clear HLAW
              clear hp hm0
              go_wp2_with fail
              go_roundg (gk - 1)
              case measure => omega
              case rel => exact ⟨0 + 1, by omega, by go_num, hL3, hM3, hb3⟩
          · have hp' : (p == 2) = false := beq_eq_false_iff_ne.2 hp
            have hc : (cc == 0) = false := beq_eq_false_iff_ne.2 (fun q => by have q2 := HLAW.out.1 q; exact hp q2.1)
            clear HLAW
            clear hp
            go_wp2_with fail
            go_roundg (gk - 1)
            case measure => omega
            case rel => exact ⟨0 + 1, by omega, by go_num, hL3, hM3, hb3⟩
        by_cases hj1 : j = 1
        · obtain rfl : j = 1 := by omega
          have HW1 : IntKind.i64.wrap (n2 + m0) = n2 + m0 := IntWalk.i64_in _ (by have h1 := HV.out.okb.n0; have h2 := HV.out.okb.n1; dsimp only at h1 h2; omega)
          have HW2 : IntKind.i64.wrap (e2 + m1) = e2 + m1 := IntWalk.i64_in _ (by have h1 := HV.out.okb.e0; have h2 := HV.out.okb.e1; dsimp only at h1 h2; omega)
          have HW3 : IntKind.i64.wrap m0 = m0 := IntWalk.i64_in _ (by omega)
          have HW4 : IntKind.i64.wrap m1 = m1 := IntWalk.i64_in _ (by omega)
          have HW5 : wrap64 (n2 + m0) = n2 + m0 := by rw [← i64_w]; exact HW1
          have HW6 : wrap64 (e2 + m1) = e2 + m1 := by rw [← i64_w]; exact HW2
          have HW7 : wrap64 m0 = m0 := by rw [← i64_w]; exact HW3
          have HW8 : wrap64 m1 = m1 := by rw [← i64_w]; exact HW4
          have HAC := Lib.hid (fun W => acc_any ⟨l2, r2, e2, n2, p2, d2⟩ (n2 + m0) (e2 + m1) W)
          have HLAW := Lib.hid (acc_law HV.out.okb m0 m1)
          dsimp only at HLAW
          generalize accF ⟨l2, r2, e2, n2, p2, d2⟩ (n2 + m0) (e2 + m1) = cc at HAC HLAW
          have HL2 := Lib.hid hL
          have HM2 := Lib.hid hM
          have HB2 := Lib.hid hb
          clear hL hM hb
          go_upto_region 14 with fail
          refine start_ (n := 21) (S := fun w' => w'.cell? ⟨w1.heap.size, 0, none⟩ = some (.int .i64 l) ∧ w'.cell? ⟨w1.heap.size, 1, none⟩ = some (.int .i64 r) ∧ w'.cell? ⟨w1.heap.size, 2, none⟩ = some (.int .i64 e) ∧ w'.cell? ⟨w1.heap.size, 3, none⟩ = some (.int .i64 n') ∧ w'.cell? ⟨w1.heap.size, 4, none⟩ = some (.int .i64 p) ∧ w'.cell? ⟨w1.heap.size, 5, none⟩ = some (.int .i64 d) ∧ w'.cell? ⟨w1.heap.size, 6, none⟩ = some (.int .i64 l2) ∧ w'.cell? ⟨w1.heap.size, 7, none⟩ = some (.int .i64 r2) ∧ w'.cell? ⟨w1.heap.size, 8, none⟩ = some (.int .i64 e2) ∧ w'.cell? ⟨w1.heap.size, 9, none⟩ = some (.int .i64 n2) ∧ w'.cell? ⟨w1.heap.size, 10, none⟩ = some (.int .i64 p2) ∧ w'.cell? ⟨w1.heap.size, 11, none⟩ = some (.int .i64 d2) ∧ w'.cell? ⟨w.heap.size + 1, 0, none⟩ = some (.int .i8 m0) ∧ w'.cell? ⟨w.heap.size + 1, 1, none⟩ = some (.int .i8 m1)) (ds := []) #[false, false, false, false, false, false, false, false, false, false, false, false, false, false, false, false, false, false, false, false, false] (by kernel_rfl) rfl rfl ⟨(HL2.out.drew.cell 0), (HL2.out.drew.cell 1), (HL2.out.drew.cell 2), (HL2.out.drew.cell 3), (HL2.out.drew.cell 4), (HL2.out.drew.cell 5), (HL2.out.drew.cell 6), (HL2.out.drew.cell 7), (HL2.out.drew.cell 8), (HL2.out.drew.cell 9), (HL2.out.drew.cell 10), (HL2.out.drew.cell 11), (HM2.out.drew.cell 0), (HM2.out.drew.cell 1)⟩ (fun hHeld => ?_)
          refine pure_ (i := 0) (N := some 45) (v := ?_) (a' := ?_) #[true, false, false, false, false, false, false, false, false, false, false, false, false, false, false, false, false, false, false, false, false] rfl rfl (by kernel_rfl) (fun _ _ _ h => h) (Or.inl ⟨by rfl, ?_⟩) ?_ ?_
          rotate_left
          · intro w'
            go_simp
            with_reducible rfl
          rotate_left
          · simp only [Act.put, List.setIfInBounds_toArray, List.set_cons_zero, List.set_cons_succ, i64_w, i32_w]
            rfl
          refine pure_ (i := 1) (N := some 46) (v := ?_) (a' := ?_) #[true, true, false, false, false, false, false, false, false, false, false, false, false, false, false, false, false, false, false, false, false] rfl rfl (by kernel_rfl) (fun _ _ _ h => h) (Or.inl ⟨by rfl, ?_⟩) ?_ ?_
          rotate_left
          · intro w'
            go_simp
            with_reducible rfl
          rotate_left
          · simp only [Act.put, List.setIfInBounds_toArray, List.set_cons_zero, List.set_cons_succ, i64_w, i32_w]
            rfl
          refine pure_ (i := 3) (N := some 48) (v := ?_) (a' := ?_) #[true, true, false, true, false, false, false, false, false, false, false, false, false, false, false, false, false, false, false, false, false] rfl rfl (by kernel_rfl) (fun _ _ _ h => h) (Or.inl ⟨by rfl, ?_⟩) ?_ ?_
          rotate_left
          · intro w'
            go_simp
            with_reducible rfl
          rotate_left
          · simp only [Act.put, List.setIfInBounds_toArray, List.set_cons_zero, List.set_cons_succ, i64_w, i32_w]
            rfl
          refine pure_ (i := 4) (N := some 49) (v := ?_) (a' := ?_) #[true, true, false, true, true, false, false, false, false, false, false, false, false, false, false, false, false, false, false, false, false] rfl rfl (by kernel_rfl) (fun _ _ _ h => h) (Or.inl ⟨by rfl, ?_⟩) ?_ ?_
          rotate_left
          · intro w'
            go_simp
            with_reducible rfl
          rotate_left
          · simp only [Act.put, List.setIfInBounds_toArray, List.set_cons_zero, List.set_cons_succ, i64_w, i32_w]
            rfl
          refine pure_ (i := 5) (N := some 50) (v := ?_) (a' := ?_) #[true, true, false, true, true, true, false, false, false, false, false, false, false, false, false, false, false, false, false, false, false] rfl rfl (by kernel_rfl) (fun _ _ _ h => h) (Or.inl ⟨by rfl, ?_⟩) ?_ ?_
          rotate_left
          · intro w'
            go_simp
            with_reducible rfl
          rotate_left
          · simp only [Act.put, List.setIfInBounds_toArray, List.set_cons_zero, List.set_cons_succ, i64_w, i32_w]
            rfl
          refine pure_ (i := 7) (N := some 52) (v := ?_) (a' := ?_) #[true, true, false, true, true, true, false, true, false, false, false, false, false, false, false, false, false, false, false, false, false] rfl rfl (by kernel_rfl) (fun _ _ _ h => h) (Or.inl ⟨by rfl, ?_⟩) ?_ ?_
          rotate_left
          · intro w'
            go_simp
            with_reducible rfl
          rotate_left
          · simp only [Act.put, List.setIfInBounds_toArray, List.set_cons_zero, List.set_cons_succ, i64_w, i32_w]
            rfl
          refine pure_ (i := 11) (N := some 56) (v := ?_) (a' := ?_) #[true, true, false, true, true, true, false, true, false, false, false, true, false, false, false, false, false, false, false, false, false] rfl rfl (by kernel_rfl) (fun _ _ _ h => h) (Or.inl ⟨by rfl, ?_⟩) ?_ ?_
          rotate_left
          · intro w'
            go_simp
            with_reducible rfl
          rotate_left
          · simp only [Act.put, List.setIfInBounds_toArray, List.set_cons_zero, List.set_cons_succ, i64_w, i32_w]
            rfl
          refine pure_ (i := 12) (N := some 57) (v := ?_) (a' := ?_) #[true, true, false, true, true, true, false, true, false, false, false, true, true, false, false, false, false, false, false, false, false] rfl rfl (by kernel_rfl) (fun _ _ _ h => h) (Or.inl ⟨by rfl, ?_⟩) ?_ ?_
          rotate_left
          · intro w'
            go_simp
            with_reducible rfl
          rotate_left
          · simp only [Act.put, List.setIfInBounds_toArray, List.set_cons_zero, List.set_cons_succ, i64_w, i32_w]
            rfl
          refine pure_ (i := 13) (N := some 58) (v := ?_) (a' := ?_) #[true, true, false, true, true, true, false, true, false, false, false, true, true, true, false, false, false, false, false, false, false] rfl rfl (by kernel_rfl) (fun _ _ _ h => h) (Or.inl ⟨by rfl, ?_⟩) ?_ ?_
          rotate_left
          · intro w'
            go_simp
            with_reducible rfl
          rotate_left
          · simp only [Act.put, List.setIfInBounds_toArray, List.set_cons_zero, List.set_cons_succ, i64_w, i32_w]
            rfl
          refine pure_ (i := 15) (N := some 60) (v := ?_) (a' := ?_) #[true, true, false, true, true, true, false, true, false, false, false, true, true, true, false, true, false, false, false, false, false] rfl rfl (by kernel_rfl) (fun _ _ _ h => h) (Or.inl ⟨by rfl, ?_⟩) ?_ ?_
          rotate_left
          · intro w'
            go_simp
            with_reducible rfl
          rotate_left
          · simp only [Act.put, List.setIfInBounds_toArray, List.set_cons_zero, List.set_cons_succ, i64_w, i32_w]
            rfl
          refine take_ (i := 2) (N := some 47) (v := ?_) (a' := ?_) #[true, true, true, true, true, true, false, true, false, false, false, true, true, true, false, true, false, false, false, false, false] rfl rfl (by kernel_rfl) (fun _ _ _ h => h) (Or.inl ⟨by rfl, ?_⟩) hHeld ?_ ?_
          rotate_left
          · rintro w' ⟨s0, s1, s2, s3, s4, s5, s6, s7, s8, s9, s10, s11, s12, s13⟩
            go_simp
            with_reducible rfl
          rotate_left
          · simp only [Act.put, List.setIfInBounds_toArray, List.set_cons_zero, List.set_cons_succ, i64_w, i32_w]
            rfl
          refine take_ (i := 6) (N := some 51) (v := ?_) (a' := ?_) #[true, true, true, true, true, true, true, true, false, false, false, true, true, true, false, true, false, false, false, false, false] rfl rfl (by kernel_rfl) (fun _ _ _ h => h) (Or.inl ⟨by rfl, ?_⟩) hHeld ?_ ?_
          rotate_left
          · rintro w' ⟨s0, s1, s2, s3, s4, s5, s6, s7, s8, s9, s10, s11, s12, s13⟩
            go_simp
            with_reducible rfl
          rotate_left
          · simp only [Act.put, List.setIfInBounds_toArray, List.set_cons_zero, List.set_cons_succ, i64_w, i32_w]
            rfl
          refine take_ (i := 8) (N := some 53) (v := ?_) (a' := ?_) #[true, true, true, true, true, true, true, true, true, false, false, true, true, true, false, true, false, false, false, false, false] rfl rfl (by kernel_rfl) (fun _ _ _ h => h) (Or.inl ⟨by rfl, ?_⟩) hHeld ?_ ?_
          rotate_left
          · rintro w' ⟨s0, s1, s2, s3, s4, s5, s6, s7, s8, s9, s10, s11, s12, s13⟩
            go_simp
            with_reducible rfl
          rotate_left
          · simp only [Act.put, List.setIfInBounds_toArray, List.set_cons_zero, List.set_cons_succ, i64_w, i32_w]
            rfl
          refine pure_ (i := 9) (N := some 54) (v := ?_) (a' := ?_) #[true, true, true, true, true, true, true, true, true, true, false, true, true, true, false, true, false, false, false, false, false] rfl rfl (by kernel_rfl) (fun _ _ _ h => h) (Or.inl ⟨by rfl, ?_⟩) ?_ ?_
          rotate_left
          · intro w'
            go_simp
            with_reducible rfl
          rotate_left
          · simp only [Act.put, List.setIfInBounds_toArray, List.set_cons_zero, List.set_cons_succ, i64_w, i32_w]
            rfl
          refine pure_ (i := 10) (N := some 55) (v := ?_) (a' := ?_) #[true, true, true, true, true, true, true, true, true, true, true, true, true, true, false, true, false, false, false, false, false] rfl rfl (by kernel_rfl) (fun _ _ _ h => h) (Or.inl ⟨by rfl, ?_⟩) ?_ ?_
          rotate_left
          · intro w'
            go_simp
            with_reducible rfl
          rotate_left
          · simp only [Act.put, List.setIfInBounds_toArray, List.set_cons_zero, List.set_cons_succ, i64_w, i32_w]
            rfl
          refine take_ (i := 14) (N := some 59) (v := ?_) (a' := ?_) #[true, true, true, true, true, true, true, true, true, true, true, true, true, true, true, true, false, false, false, false, false] rfl rfl (by kernel_rfl) (fun _ _ _ h => h) (Or.inl ⟨by rfl, ?_⟩) hHeld ?_ ?_
          rotate_left
          · rintro w' ⟨s0, s1, s2, s3, s4, s5, s6, s7, s8, s9, s10, s11, s12, s13⟩
            go_simp
            with_reducible rfl
          rotate_left
          · simp only [Act.put, List.setIfInBounds_toArray, List.set_cons_zero, List.set_cons_succ, i64_w, i32_w]
            rfl
          refine take_ (i := 16) (N := some 61) (v := ?_) (a' := ?_) #[true, true, true, true, true, true, true, true, true, true, true, true, true, true, true, true, true, false, false, false, false] rfl rfl (by kernel_rfl) (fun _ _ _ h => h) (Or.inl ⟨by rfl, ?_⟩) hHeld ?_ ?_
          rotate_left
          · rintro w' ⟨s0, s1, s2, s3, s4, s5, s6, s7, s8, s9, s10, s11, s12, s13⟩
            go_simp
            with_reducible rfl
          rotate_left
          · simp only [Act.put, List.setIfInBounds_toArray, List.set_cons_zero, List.set_cons_succ, i64_w, i32_w]
            rfl
          refine pure_ (i := 17) (N := some 62) (v := ?_) (a' := ?_) #[true, true, true, true, true, true, true, true, true, true, true, true, true, true, true, true, true, true, false, false, false] rfl rfl (by kernel_rfl) (fun _ _ _ h => h) (Or.inl ⟨by rfl, ?_⟩) ?_ ?_
          rotate_left
          · intro w'
            go_simp
            with_reducible rfl
          rotate_left
          · simp only [Act.put, List.setIfInBounds_toArray, List.set_cons_zero, List.set_cons_succ, i64_w, i32_w]
            rfl
          refine pure_ (i := 18) (N := some 63) (v := ?_) (a' := ?_) #[true, true, true, true, true, true, true, true, true, true, true, true, true, true, true, true, true, true, true, false, false] rfl rfl (by kernel_rfl) (fun _ _ _ h => h) (Or.inl ⟨by rfl, ?_⟩) ?_ ?_
          rotate_left
          · intro w'
            go_simp
            with_reducible rfl
          rotate_left
          · simp only [Act.put, List.setIfInBounds_toArray, List.set_cons_zero, List.set_cons_succ, i64_w, i32_w]
            rfl
          refine one_ (i := 19) (N := some 64) #[true, true, true, true, true, true, true, true, true, true, true, true, true, true, true, true, true, true, true, true, false] rfl rfl (by kernel_rfl) (by decide) (fun K hK => ?_)
          refine goes_ Try.func16 (by kernel_rfl) rfl #[S6 ⟨l2, r2, e2, n2, p2, d2⟩, .int .i64 (n2 + m0), .int .i64 (e2 + m1)] (by rfl) rfl rfl (by simp only [List.map_toArray, List.map_cons, List.map_nil]; rfl) ?_
          with_reducible refine (HAC.out _).mono ?_
          rintro e wz ⟨rfl, hx⟩
          refine ⟨_, rfl, ?_⟩
          refine hK.out _ _ ⟨(cell_below hHeld.1 hx), (cell_below hHeld.2.1 hx), (cell_below hHeld.2.2.1 hx), (cell_below hHeld.2.2.2.1 hx), (cell_below hHeld.2.2.2.2.1 hx), (cell_below hHeld.2.2.2.2.2.1 hx), (cell_below hHeld.2.2.2.2.2.2.1 hx), (cell_below hHeld.2.2.2.2.2.2.2.1 hx), (cell_below hHeld.2.2.2.2.2.2.2.2.1 hx), (cell_below hHeld.2.2.2.2.2.2.2.2.2.1 hx), (cell_below hHeld.2.2.2.2.2.2.2.2.2.2.1 hx), (cell_below hHeld.2.2.2.2.2.2.2.2.2.2.2.1 hx), (cell_below hHeld.2.2.2.2.2.2.2.2.2.2.2.2.1 hx), (cell_below hHeld.2.2.2.2.2.2.2.2.2.2.2.2.2 hx)⟩ (fun hHeld => ?_)
          clear hK K
          refine norm_ (a' := ?_) ?_ ?_
          rotate_left
          · show Act.put _ (some 64) _ = _
            simp only [Act.put, List.setIfInBounds_toArray, List.set_cons_zero, List.set_cons_succ, i64_w, i32_w]
            rfl
          refine pure_ (i := 20) (N := some 12) (v := ?_) (a' := ?_) #[true, true, true, true, true, true, true, true, true, true, true, true, true, true, true, true, true, true, true, true, true] rfl rfl (by kernel_rfl) (fun _ _ _ h => h) (Or.inl ⟨by rfl, ?_⟩) ?_ ?_
          rotate_left
          · intro w'
            go_simp
            with_reducible rfl
          rotate_left
          · simp only [Act.put, List.setIfInBounds_toArray, List.set_cons_zero, List.set_cons_succ, i64_w, i32_w]
            rfl
          refine done_ (by kernel_rfl) ?_
          have hL3 := HL2.out.drew.below hx
          have hM3 := HM2.out.drew.below hx
          have hb3 := b_step (b_drew HB2.out) hx
          have t0 := hM3.cell 0
          have t1 := hM3.cell 1
          clear HL2 HM2 HB2 hx HAC HW1 HW2 HW3 HW4 HW5 HW6 HW7 HW8
          obtain ⟨y0, y1, y2, y3, y4, y5, y6, y7, y8, y9, y10, y11, -, -, -, -, -, -, -, -, -, -, -, -⟩ := hL3.twelve
          by_cases hp : p2 = 2
          · have hp' : (p2 == 2) = true := beq_iff_eq.2 hp
            by_cases hm0 : m0 = 0
            · by_cases hm1 : m1 = 0
              · have hc : (cc == 0) = true := beq_iff_eq.2 (HLAW.out.2 ⟨hp, hm0, hm1⟩)
                have hm0' : (m0 == 0) = true := beq_iff_eq.2 hm0
                have hm1' : (m1 == 0) = true := beq_iff_eq.2 hm1
                clear HLAW hp hm0 hm1
                go_wp2_with fail
                go_roundg (gk - 1)
                case measure => omega
                case rel => exact ⟨1 + 1, by omega, by go_num, hL3, hM3, hb3⟩
              · have hm0' : (m0 == 0) = true := beq_iff_eq.2 hm0
                have hm1' : (m1 == 0) = false := beq_eq_false_iff_ne.2 hm1
                have hc : (cc == 0) = false := beq_eq_false_iff_ne.2 (fun q => by have q2 := HLAW.out.1 q; exact hm1 q2.2.2)
                clear HLAW
                clear hp hm0 hm1
                go_wp2_with fail
                go_roundg (gk - 1)
                case measure => omega
                case rel => exact ⟨1 + 1, by omega, by go_num, hL3, hM3, hb3⟩
            · have hm0' : (m0 == 0) = false := beq_eq_false_iff_ne.2 hm0
              have hc : (cc == 0) = false := beq_eq_false_iff_ne.2 (fun q => by have q2 := HLAW.out.1 q; exact hm0 q2.2.1)
              clear HLAW
              clear hp hm0
              go_wp2_with fail
              go_roundg (gk - 1)
              case measure => omega
              case rel => exact ⟨1 + 1, by omega, by go_num, hL3, hM3, hb3⟩
          · have hp' : (p2 == 2) = false := beq_eq_false_iff_ne.2 hp
            have hc : (cc == 0) = false := beq_eq_false_iff_ne.2 (fun q => by have q2 := HLAW.out.1 q; exact hp q2.1)
            clear HLAW
            clear hp
            go_wp2_with fail
            go_roundg (gk - 1)
            case measure => omega
            case rel => exact ⟨1 + 1, by omega, by go_num, hL3, hM3, hb3⟩
        · obtain rfl : j = 2 := by omega
          have HB2 := Lib.hid hb
          clear hL hM hb
          go_wp2_with fail
          refine (awake_any _).mono ?_
          rintro e wz ⟨rfl, hx⟩
          go_wp2_with fail
          go_ret
          exact ⟨rfl, b_step HB2.out hx⟩
end Go.Proofs.Ytemljffppdjmgaa
