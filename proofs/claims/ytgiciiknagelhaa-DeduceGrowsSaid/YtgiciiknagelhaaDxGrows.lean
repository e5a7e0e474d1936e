/- The law DeduceGrows on the machine: it answers true. Conditions: none. -/
import Derived.Test.YtgiciiknagelhaaVe
import Derived.Test.YtgiciiknagelhaaDv8
set_option linter.unusedSimpArgs false
set_option linter.unusedVariables false
set_option maxRecDepth 100000
set_option maxHeartbeats 8000000
namespace Go.Proofs.Ytgiciiknagelhaa
open Go.VM
theorem clo31 {ls : List Tm} (hs : Tm.smalls ls) (hn : ls.length ≤ 400) (hv : ∀ u ∈ ls, Vld u) :
    ∃ wF n m, closG n m (addL ⟨[], [], []⟩ ls) = some wF ∧ wF.k.length ≤ (subsL ls).length ∧ CV VPC 31 [.d (.sl (ls.map Tm.row))] [] = some ⟨.tup [.d (.sl (wF.k.map Tm.row)), .d (I 0)], [], [], 0⟩ := by
  obtain ⟨wF, n, m, hc, hk, h31⟩ := clo_eq hs hn (fun u hu => e91 u (sm_of hs hu) (hv u hu)) (by have := subsL_len hv; omega)
  obtain ⟨_, q2, q3⟩ := close_ok hc
  exact ⟨wF, n, m, hc, nodup_le q2 fun x hx => Kn_subs ((q3 x).1 hx), CV_nat (by
    show orN (cloNat VPV) VPV.nat 31 _ [] = _
    unfold orN; rw [h31])⟩
theorem drS_subs {q : List Int} (hB : Bytes q) {most : Int} (h1 : 0 ≤ most) (h2 : most < 256) (d k : Nat) : ((subsL (drS q most d k).1).length : Int) ≤ most * cB d := by
  have r := nxV_range hB (k := k) (n := most + 1) (by omega)
  have h := subsL_drL (f := drT q d) (c := cB d) (fun k => drT_cnt hB d k) (nxV q k (most + 1)).toNat (nxA q k)
  have h3 : ((nxV q k (most + 1)).toNat : Int) ≤ most := by omega
  have h4 : (((nxV q k (most + 1)).toNat * cB d : Nat) : Int) ≤ most * cB d := by
    rw [Int.natCast_mul]
    exact Int.mul_le_mul_of_nonneg_right h3 (Int.natCast_nonneg _)
  unfold drS
  omega
theorem e5 {l : List Int} (hB : ByteL l) : CV VPC 5 [.d (byteD l)] [] = some ⟨.d (B true), [], [], 0⟩ := by
  have h27 := e27
  have h11 : CV VPC 11 [.d (byteD l), .d (I 200)] [] = some ⟨.ptr 0 0, [[.sl 1 ((l.take 200).map byteRow) (.own 0 0), .d (I 0)]], [0], 1⟩ := upVC (e21 200 (by decide))
  have hB2 := bytes_take hB 200 (by decide)
  generalize l.take 200 = q at *
  have h28 : CV VPC 28 [.ptr 0 0, .d (I 6), .d (I 4)] [[.d (.sl (q.map byteRow)), .d (I 0)]] = some ⟨.d (.sl ((drS q 6 3 0).1.map Tm.row)), [cdK q (drS q 6 3 0).2], [], 0⟩ := upVC (e22b hB2 6 (by decide) (by decide) 3 (by decide) 0 0 [[]] CtxOk.base)
  obtain ⟨f1, f2, f3⟩ := drS_facts hB2 (most := 6) (by decide) (by decide) (d := 3) (by decide) 0
  have f4 := drS_subs hB2 (most := 6) (by decide) (by decide) 3 0
  have hcb : cB 3 = 40 := by decide
  rw [hcb] at f4
  generalize (drS q 6 3 0).1 = LS at *
  generalize (drS q 6 3 0).2 = k1 at *
  have h29 : ∀ k : Nat, CV VPC 29 [.ptr 0 0, .d (I 3)] [cdK q k] = some ⟨(drT q 2 k).1.ag, [cdK q (drT q 2 k).2], [], 0⟩ := fun k => upVC (e32b hB2 2 (by decide) 0 k [[]] CtxOk.base)
  have h29x := h29 k1
  have sx := drT_small hB2 2 k1
  have vx := drT_vld hB2 (d := 2) (by decide) k1
  generalize (drT q 2 k1).2 = k2 at *
  generalize (drT q 2 k1).1 = x at *
  have h29y := h29 k2
  have sy := drT_small hB2 2 k2
  have vy := drT_vld hB2 (d := 2) (by decide) k2
  generalize (drT q 2 k2).2 = k3 at *
  generalize (drT q 2 k2).1 = y at *
  clear h29
  have hl6 : LS.length ≤ 6 := by omega
  obtain ⟨q1, c1, h30a⟩ := can30 f1 sx (by omega) f3 vx
  obtain ⟨q3, c3, h30c⟩ := can30 (sm_snoc f1 sy) sx (by rw [List.length_append]; simp; omega) (vl_snoc f3 vy) vx
  have key : q1 = true → q3 = true := fun h => c3.2 (Kn_more (c1.1 h))
  have h30i : ∀ t ∈ LS, CV VPC 30 [.d (.sl (LS.map Tm.row)), t.ag] [] = some ⟨.d (B true), [], [], 0⟩ := fun t ht => can30T f1 (sm_of f1 ht) (by omega) f3 (f3 t ht) (CanM_of (Kn_base ht))
  obtain ⟨w1, n1, m1, hc1, hk1, h31a⟩ := clo31 f1 (by omega) f3
  obtain ⟨_, _, hkn⟩ := close_ok hc1
  obtain ⟨w2, n2, m2, hc2, hk2, h31b⟩ := clo31 (closG_sm f1 hc1) (by omega) (fun u hu => Kn_vld f3 ((hkn u).1 hu))
  have htw := close_twice hc1 hc2
  rw [htw] at h31b
  have h32 : CV VPC 32 [.d (.sl (w1.k.map Tm.row)), .d (.sl (w1.k.map Tm.row))] [] = some ⟨.d (B true), [], [], 0⟩ := by
    have := e26 w1.k w1.k (by omega) (closG_sm f1 hc1)
    rw [Tm.eqbs_refl] at this
    exact upVC this
  generalize w1.k.map Tm.row = K at *
  rw [List.map_append] at h30c
  simp only [List.map_cons, List.map_nil] at h30c
  obtain ⟨L, hL⟩ : ∃ L, LS.map Tm.row = L := ⟨_, rfl⟩
  have hll : L.length = LS.length := by rw [← hL, List.length_map]
  have hrl : ∀ r ∈ L, r.length = 3 := by
    rw [← hL]; intro r hr
    obtain ⟨t, _, rfl⟩ := List.mem_map.1 hr
    exact row_len t
  have hget : ∀ (i : Nat) (t : Tm), LS[i]? = some t → L[i]? = some t.row := fun i t ht => by rw [← hL, List.getElem?_map, ht]; rfl
  rw [hL] at h28 h30a h30c h30i h31a
  clear c1 c3 sx vx sy vy f1 f2 f3 f4 hL hB hB2 hc1 hc2 hkn htw hk1 hk2 hcb
  obtain ⟨xo, xv, xs⟩ := x
  obtain ⟨yo, yv, ys⟩ := y
  simp only [Tm.ag, Tm.op_mk, Tm.val_mk, Tm.args_mk, Tm.row_eq] at *
  refine CV_run (vf := vf5) rfl rfl ?_
  rw [vf5_start]
  (repeat (first
    | refine RX_seq ?_
    | refine RX_block ?_
    | ((first | refine RX_reg ?_ | refine RX_cond' ?_ | refine RX_draw0 ?_ | refine RX_draw rfl ?_ | refine RX_skip ?_ | refine RX_gfrz ?_ | refine RX_exit ?_ | refine RX_ret ?_); try (simp only [go_sem, Nat.max_zero, List.isEmpty_cons, Int.reduceToNat, Nat.reducePow, Int.reduceEq, Int.reduceNe, Int.reduceLT, Int.reduceLE, Nat.reduceAdd, Nat.reduceLeDiff, ↓reduceIte, Nat.reduceLT, Nat.reduceMul, Nat.reduceSub, reduceCtorEq, frzLoc, rowCells, vAppM, beq_iff_eq, bne_iff_ne, bne_self_eq_false, beq_self_eq_true, beq_true, beq_false, I, B, w, vf5_res, vf5_keep, h27, h11, h28, h29x, h29y]))))
  refine RX_loopN (n := 3) rfl ?_
  refine RL_ind (fun m st => ∃ i : Nat, i + m = L.length ∧ At vf5K0 3 st ((.any :: .any :: .any :: .any :: .d (.sl L) :: .ptr 1 0 :: .ptr 2 0 :: .d (I (i : Nat)) :: .any :: .any :: .any :: .any :: .any :: .any :: .any :: .any :: .any :: .any :: .any :: .any :: .any :: .any :: .any :: .any :: .any :: .any :: .any :: .any :: .any :: .any :: .any :: .any :: .any :: .any :: .any :: .any :: .any :: .any :: .any :: .any :: .any :: .any :: .any :: .any :: .any :: .any :: .any :: .any :: .any :: .any :: .any :: .any :: .any :: .any :: .any :: .any :: .any :: .any :: .any :: .any :: .any :: .any :: .any :: .any :: .any :: .any :: .any :: .any :: .any :: .any :: [])) [cdK q k3, [.d (I xo), .d (I xv), .d (.sl (xs.map Tm.row))], [.d (I yo), .d (I yv), .d (.sl (ys.map Tm.row))]] [0] 1 0) ?_ L.length _ ⟨0, Nat.zero_add _, ⟨rfl, rfl, rfl, rfl, rfl, rfl⟩⟩
  rintro m st ⟨i, hi, hat⟩ ih
  refine RL_at hat rfl rfl (vf5L0_go ?_)
  clear hat
  cases m with
  | succ m =>
    have h1 : i < L.length := by omega
    obtain ⟨t, ht⟩ : ∃ t, LS[i]? = some t := ⟨_, List.getElem?_eq_getElem (by omega)⟩
    have hrt := hget i t ht
    have hpt := h30i t (List.mem_of_getElem? ht)
    have hwi := w_nat (i := i) (by omega)
    (repeat (first
    | refine RX_seq ?_
    | refine RX_block ?_
    | ((first | refine RX_reg ?_ | refine RX_cond' ?_ | refine RX_draw0 ?_ | refine RX_draw rfl ?_ | refine RX_skip ?_ | refine RX_gfrz ?_ | refine RX_exit ?_ | refine RX_ret ?_); try (simp only [go_sem, Nat.max_zero, List.isEmpty_cons, Int.reduceToNat, Nat.reducePow, Int.reduceEq, Int.reduceNe, Int.reduceLT, Int.reduceLE, Nat.reduceAdd, Nat.reduceLeDiff, ↓reduceIte, Nat.reduceLT, Nat.reduceMul, Nat.reduceSub, reduceCtorEq, frzLoc, rowCells, vAppM, beq_iff_eq, bne_iff_ne, bne_self_eq_false, beq_self_eq_true, beq_true, beq_false, I, B, w, vf5_res, vf5_keep, h1, hrt, hpt, hwi]))))
    exact ih m _ (Nat.lt_succ_self m) ⟨i + 1, by omega, rfl, rfl, rfl, rfl, rfl, rfl⟩
  | zero =>
    have h1 : ¬ i < L.length := by omega
    clear ih h30i hget
    cases q1 with
    | false =>
      (repeat (first
    | refine RX_seq ?_
    | refine RX_block ?_
    | ((first | refine RX_reg ?_ | refine RX_cond' ?_ | refine RX_draw0 ?_ | refine RX_draw rfl ?_ | refine RX_skip ?_ | refine RX_gfrz ?_ | refine RX_exit ?_ | refine RX_ret ?_); try (simp only [go_sem, Nat.max_zero, List.isEmpty_cons, Int.reduceToNat, Nat.reducePow, Int.reduceEq, Int.reduceNe, Int.reduceLT, Int.reduceLE, Nat.reduceAdd, Nat.reduceLeDiff, ↓reduceIte, Nat.reduceLT, Nat.reduceMul, Nat.reduceSub, reduceCtorEq, frzLoc, rowCells, vAppM, beq_iff_eq, bne_iff_ne, bne_self_eq_false, beq_self_eq_true, beq_true, beq_false, I, B, w, vf5_res, vf5_keep, h1, h31a, h31b, h32, h30a]))))
    | true =>
      have key := key rfl
      subst key
      cases L with
      | nil =>
        simp only [List.nil_append] at h30c
        simp only [List.length_nil] at h1
        (repeat (first
    | refine RX_seq ?_
    | refine RX_block ?_
    | ((first | refine RX_reg ?_ | refine RX_cond' ?_ | refine RX_draw0 ?_ | refine RX_draw rfl ?_ | refine RX_skip ?_ | refine RX_gfrz ?_ | refine RX_exit ?_ | refine RX_ret ?_); try (simp only [go_sem, Nat.max_zero, List.isEmpty_cons, Int.reduceToNat, Nat.reducePow, Int.reduceEq, Int.reduceNe, Int.reduceLT, Int.reduceLE, Nat.reduceAdd, Nat.reduceLeDiff, ↓reduceIte, Nat.reduceLT, Nat.reduceMul, Nat.reduceSub, reduceCtorEq, frzLoc, rowCells, vAppM, beq_iff_eq, bne_iff_ne, bne_self_eq_false, beq_self_eq_true, beq_true, beq_false, I, B, w, vf5_res, vf5_keep, h1, h31a, h31b, h32, h30a, h30c]))))
      | cons r L =>
        simp only [List.cons_append] at h30c
        simp only [List.length_cons] at hll h1
        have hr1 : (r.length == 3) = true := by rw [hrl r List.mem_cons_self]; rfl
        have hr2 : (L.all fun r => r.length == 3) = true := List.all_eq_true.2 fun r hr => by rw [hrl r (List.mem_cons_of_mem _ hr)]; rfl
        have hr3 : L.length ≤ 4294967295 := by omega
        have hr4 : L.length + 1 ≤ 4294967295 := by omega
        have hr5 : L.length + 1 ≤ 4294967296 := by omega
        have hr6 : L.length + 1 + 1 ≤ 4294967296 := by omega
        (repeat (first
    | refine RX_seq ?_
    | refine RX_block ?_
    | ((first | refine RX_reg ?_ | refine RX_cond' ?_ | refine RX_draw0 ?_ | refine RX_draw rfl ?_ | refine RX_skip ?_ | refine RX_gfrz ?_ | refine RX_exit ?_ | refine RX_ret ?_); try (simp only [go_sem, Nat.max_zero, List.isEmpty_cons, Int.reduceToNat, Nat.reducePow, Int.reduceEq, Int.reduceNe, Int.reduceLT, Int.reduceLE, Nat.reduceAdd, Nat.reduceLeDiff, ↓reduceIte, Nat.reduceLT, Nat.reduceMul, Nat.reduceSub, reduceCtorEq, frzLoc, rowCells, vAppM, beq_iff_eq, bne_iff_ne, bne_self_eq_false, beq_self_eq_true, beq_true, beq_false, I, B, w, vf5_res, vf5_keep, h1, h31a, h31b, h32, h30a, h30c, hr1, hr2, hr3, hr4, hr5, hr6]))))
end Go.Proofs.Ytgiciiknagelhaa
