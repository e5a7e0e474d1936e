/- The law DeduceKeeps on the machine: it answers true. Conditions: none. -/
import Derived.Test.YtgiciiknagelhaaVe
import Derived.Test.YtgiciiknagelhaaDv8
set_option linter.unusedSimpArgs false
set_option linter.unusedVariables false
set_option maxRecDepth 100000
set_option maxHeartbeats 8000000
namespace Go.Proofs.Ytgiciiknagelhaa
open Go.VM
theorem e9 {l : List Int} (hB : ByteL l) (n1 : Int) (hn0 : 0 ≤ n1) (hn1 : n1 < 256) : CV VPC 9 [.d (byteD l), .d (.lit (.int .u8 n1))] [] = some ⟨.d (B true), [], [], 0⟩ := by
  have h27 := e27
  have h11 : CV VPC 11 [.d (byteD l), .d (I 60)] [] = some ⟨.ptr 0 0, [[.sl 1 ((l.take 60).map byteRow) (.own 0 0), .d (I 0)]], [0], 1⟩ := upVC (e21 60 (by decide))
  have hB2 := bytes_take hB 60 (by decide)
  generalize l.take 60 = q at *
  have h34a : CV VPC 34 [.d (I 0), .d (I 100)] [] = some ⟨.agg [.d (I 2), .d (I 100), .d (.sl [])], [], [], 0⟩ := upVC (CV_C 400 (by kernel_rfl))
  have h34b : CV VPC 34 [.d (I 1), .d (I 100)] [] = some ⟨.agg [.d (I 2), .d (I 1048676), .d (.sl [])], [], [], 0⟩ := upVC (CV_C 400 (by kernel_rfl))
  have h34n : CV VPC 34 [.d (I 1), .d (I 101)] [] = some ⟨.agg [.d (I 2), .d (I 1048677), .d (.sl [])], [], [], 0⟩ := upVC (CV_C 400 (by kernel_rfl))
  have h34o : CV VPC 34 [.d (I 2), .d (I 1)] [] = some ⟨.agg [.d (I 2), .d (I 2097153), .d (.sl [])], [], [], 0⟩ := upVC (CV_C 400 (by kernel_rfl))
  have h38a := upVC (c38 2 100 (.sl []))
  have h38b := upVC (c38 2 1048676 (.sl []))
  have h42 : CV VPC 42 [.agg [.d (I 4), .d (I 0), .d (.sl [[I 2, I 100, .sl []]])], .agg [.d (I 2), .d (I 1048676), .d (.sl [])]] [] = some ⟨.tup [.agg [.d (I 5), .d (I 0), .d (.sl [[I 2, I 100, .sl []], [I 2, I 1048676, .sl []]])], .d (B true)], [], [], 0⟩ := upVC (CV_C 400 (by kernel_rfl))
  have h42o : CV VPC 42 [.agg [.d (I 4), .d (I 0), .d (.sl [[I 2, I 100, .sl []]])], .agg [.d (I 2), .d (I 2097153), .d (.sl [])]] [] = some ⟨.tup [.agg [.d (I 5), .d (I 0), .d (.sl [[I 2, I 100, .sl []], [I 2, I 2097153, .sl []]])], .d (B true)], [], [], 0⟩ := upVC (CV_C 400 (by kernel_rfl))
  have h37 : CV VPC 37 [.ptr 0 0, .d (I 9)] [[.d (.sl (q.map byteRow)), .d (I 0)]] = some ⟨.d (I (nxV q 0 9)), [cdK q (nxA q 0)], [], 0⟩ := next37 hB2 0 (by decide) (by decide)
  generalize nxV q 0 9 = n9 at *
  generalize nxA q 0 = k1 at *
  have h36 := upVC (c36 n9)
  have h41 := upVC (c41 1 1 n9 5 0 (.sl []) (.sl [[I 2, I 100, .sl []], [I 2, I 1048676, .sl []]]))
  have h39 := upVC (c39 0 2 1048677 (.sl []))
  obtain ⟨j, hj⟩ : ∃ j : Nat, n1.tmod 4 = (j : Int) := ⟨_, (Int.toNat_of_nonneg (Int.tmod_nonneg 4 hn0)).symm⟩
  have hj4 : j < 4 := by have := Int.tmod_lt_of_pos n1 (b := 4) (by decide); omega
  have h40 : ¬ (4 : Int) = 0 := by decide
  have hcv : IntKind.i64.wrap n1 = n1 := by rw [IntKind.wrap_i64]; omega
  have hwj : IntKind.i64.wrap (j : Int) = (j : Int) := by rw [IntKind.wrap_i64]; omega
  have hwj1 : IntKind.i64.wrap (1 + (j : Int)) = 1 + (j : Int) := by rw [IntKind.wrap_i64]; omega
  refine CV_run (vf := vf9) rfl rfl ?_
  rw [vf9_start]
  (repeat (first
    | refine RX_seq ?_
    | refine RX_block ?_
    | ((first | refine RX_reg ?_ | refine RX_cond' ?_ | refine RX_draw0 ?_ | refine RX_draw rfl ?_ | refine RX_skip ?_ | refine RX_gfrz ?_ | refine RX_exit ?_ | refine RX_ret ?_); try (simp only [go_sem, Nat.max_zero, List.isEmpty_cons, Int.reduceToNat, Nat.reducePow, Int.reduceEq, Int.reduceNe, Int.reduceLT, Int.reduceLE, Nat.reduceAdd, Nat.reduceLeDiff, ↓reduceIte, Nat.reduceLT, Nat.reduceMul, Nat.reduceSub, reduceCtorEq, frzLoc, rowCells, vAppM, beq_iff_eq, bne_iff_ne, bne_self_eq_false, beq_self_eq_true, beq_true, beq_false, I, B, w, vf9_res, vf9_keep, h27, h11, h34a, h34b, h34n, h38a, h42, h37, h36, h41]))))
  refine RX_loopN (n := 7) rfl ?_
  refine RL_ind (fun m st => ∃ (i k : Nat) (us : List Tm) (tq tv : Int) (ts : List Tm), i + m = 1 + j ∧ us.length = i ∧ (∀ u ∈ us, PartOk u) ∧ layT 1 n9 us = .mk tq tv ts ∧ At vf9K0 7 st ((.any :: .d (.lit (.int .u8 n1)) :: .any :: .any :: .any :: .ptr 0 0 :: .ptr 1 0 :: .ptr 2 0 :: .ptr 3 0 :: .ptr 4 0 :: .d (B true) :: .ptr 5 0 :: .ptr 6 0 :: .d (I (i : Nat)) :: .any :: .any :: .any :: .any :: .any :: .any :: .any :: .any :: .any :: .any :: .any :: .any :: .any :: .any :: .any :: .any :: .any :: .any :: .any :: .any :: .any :: .any :: .any :: .any :: .any :: .any :: .any :: .any :: .any :: .any :: .any :: .any :: .any :: .any :: .any :: .any :: .any :: .any :: .any :: .any :: .any :: .any :: .any :: .any :: .any :: .any :: .any :: .any :: .any :: .any :: .any :: .any :: .any :: .any :: .any :: .any :: .any :: .any :: .any :: .any :: .any :: .any :: .any :: .any :: .any :: .any :: .any :: .any :: .any :: .any :: .any :: .any :: .any :: .any :: .any :: .any :: .any :: .any :: .any :: .any :: .any :: .any :: .any :: .any :: .any :: .any :: .any :: .any :: .any :: .any :: .any :: .any :: .any :: .any :: .any :: .any :: .any :: .any :: .any :: .any :: .any :: .any :: .any :: .any :: .any :: .any :: .any :: .any :: .any :: [])) [cdK q k, [.d (I 2), .d (I 100), .d (.sl [])], [.d (I 2), .d (I 1048676), .d (.sl [])], [.d (I 2), .d (I 1048677), .d (.sl [])],
    [.d (I 5), .d (I 0), .d (.sl [[I 2, I 100, .sl []], [I 2, I 1048676, .sl []]])], [.d (I 6), .d (I 1), .d (.sl [[I 1, I n9, .sl []], [I 5, I 0, .sl [[I 2, I 100, .sl []], [I 2, I 1048676, .sl []]]]])], [.d (I tq), .d (I tv), .d (.sl (ts.map Tm.row))]] [0] 1 0) ?_ (1 + j) _ ⟨0, k1, [], 2, 1048677, [], by omega, rfl, (fun _ h => by cases h), rfl, ⟨rfl, rfl, rfl, rfl, rfl, rfl⟩⟩
  rintro m st ⟨i, k, us, tq, tv, ts, hi, hus, hok, hly, hat⟩ ih
  refine RL_at hat rfl rfl (vf9L0_go ?_)
  clear hat
  cases m with
  | succ m =>
    have hlt : (i : Int) < 1 + (j : Int) := by omega
    have h29 : CV VPC 29 [.ptr 0 0, .d (I 2)] [cdK q k] = some ⟨(drT q 1 k).1.ag, [cdK q (drT q 1 k).2], [], 0⟩ := upVC (e32b hB2 1 (by decide) 0 k [[]] CtxOk.base)
    have hpu : PartOk (drT q 1 k).1 := ⟨drT_small hB2 1 k, drT_cnt hB2 1 k, drT_dep 1 k, drT_snd hB2 1 k⟩
    generalize (drT q 1 k).2 = k' at *
    generalize (drT q 1 k).1 = u at *
    have hok' : ∀ x ∈ u :: us, PartOk x := fun x hx => by
      rcases List.mem_cons.1 hx with rfl | hx
      · exact hpu
      · exact hok x hx
    have hly' : layT 1 n9 (u :: us) = .mk 7 0 [keyT 1 n9, .mk 3 0 [.mk tq tv ts, u]] := by rw [layT, hly]
    obtain ⟨uo, uv, uu⟩ := u
    have h35 := upVC (c35 tq tv uo uv (.sl (ts.map Tm.row)) (.sl (uu.map Tm.row)))
    have h33 := upVC (c33 6 1 3 0 (.sl [[I 1, I n9, .sl []], [I 5, I 0, .sl [[I 2, I 100, .sl []], [I 2, I 1048676, .sl []]]]]) (.sl [[I tq, I tv, .sl (ts.map Tm.row)], [I uo, I uv, .sl (uu.map Tm.row)]]))
    have hwi := w_nat (i := i) (by omega)
    simp only [Tm.ag, Tm.op_mk, Tm.val_mk, Tm.args_mk] at h29
    (repeat (first
    | refine RX_seq ?_
    | refine RX_block ?_
    | ((first | refine RX_reg ?_ | refine RX_cond' ?_ | refine RX_draw0 ?_ | refine RX_draw rfl ?_ | refine RX_skip ?_ | refine RX_gfrz ?_ | refine RX_exit ?_ | refine RX_ret ?_); try (simp only [go_sem, Nat.max_zero, List.isEmpty_cons, Int.reduceToNat, Nat.reducePow, Int.reduceEq, Int.reduceNe, Int.reduceLT, Int.reduceLE, Nat.reduceAdd, Nat.reduceLeDiff, ↓reduceIte, Nat.reduceLT, Nat.reduceMul, Nat.reduceSub, reduceCtorEq, frzLoc, rowCells, vAppM, beq_iff_eq, bne_iff_ne, bne_self_eq_false, beq_self_eq_true, beq_true, beq_false, I, B, w, vf9_res, vf9_keep, hcv, hj, h40, hwj, hwj1, hlt, h29, h35, h33, hwi]))))
    refine ih m _ (Nat.lt_succ_self m) ⟨i + 1, k', .mk uo uv uu :: us, 7, 0, _, by omega, by rw [List.length_cons, hus], hok', hly', ?_⟩
    have hmr : [keyT 1 n9, Tm.mk 3 0 [.mk tq tv ts, .mk uo uv uu]].map Tm.row = [[I 6, I 1, .sl [[I 1, I n9, .sl []], [I 5, I 0, .sl [[I 2, I 100, .sl []], [I 2, I 1048676, .sl []]]]]], [I 3, I 0, .sl [[I tq, I tv, .sl (ts.map Tm.row)], [I uo, I uv, .sl (uu.map Tm.row)]]]] := by
      simp [Tm.row_eq, Tm.op_mk, Tm.val_mk, Tm.args_mk, keyT, sT, aT, bT, nameT]
    rw [hmr]
    exact ⟨rfl, rfl, rfl, rfl, rfl, rfl⟩
  | zero =>
    have hlt : ¬ ((i : Int) < 1 + (j : Int)) := by omega
    clear ih
    have h28 : CV VPC 28 [.ptr 0 0, .d (I 4), .d (I 3)] [cdK q k] = some (keepT ((drS q 4 2 k).1.map Tm.row) [cdK q (drS q 4 2 k).2]) := upVC (e22k hB2 4 (by decide) (by decide) 2 (by decide) 0 k [[]] CtxOk.base)
    obtain ⟨f1, f2, f3⟩ := drS_facts hB2 (most := 4) (by decide) (by decide) (d := 2) (by decide) k
    have f4 : ∀ t ∈ (drS q 4 2 k).1, Clean t := drL_mem (P := Clean) (fun k => drT_clean hB2 2 k) _ _
    generalize (drS q 4 2 k).1 = LS at *
    generalize (drS q 4 2 k).2 = k2 at *
    obtain ⟨a1, a2, a3, a4⟩ := lay_ok n9 us hok
    have hlh : Hold 1 n9 (layT 1 n9 us) := by
      match us, hus with
      | [], h => simp at h; omega
      | u :: us, _ => exact lay_hold 1 n9 u us
    have hav : Vld aT := nm_vld (by decide)
    have hbv : Vld bT := nm_vld (by decide)
    have hpa : Vld (pubT aT) := ⟨by decide, by decide, AllS1 (by decide) aT_ok.2⟩
    have hpb : Vld (pubT bT) := ⟨by decide, by decide, AllS1 (by decide) bT_ok.2⟩
    have hlv : Vld (layT 1 n9 us) := ⟨by omega, by omega, a4⟩
    obtain ⟨KK, hKK⟩ : ∃ KK, LS ++ [pubT aT, pubT bT, layT 1 n9 us] = KK := ⟨_, rfl⟩
    have hKs : Tm.smalls KK := by rw [← hKK]; exact sm_app.2 ⟨f1, ⟨by decide, aT_ok.1, trivial⟩, ⟨by decide, bT_ok.1, trivial⟩, a1, trivial⟩
    have hKl : KK.length ≤ 7 := by rw [← hKK, List.length_append]; simp; omega
    have hKv : ∀ u ∈ KK, Vld u := by
      rw [← hKK]; intro u hu
      rcases List.mem_append.1 hu with hu | hu
      · exact f3 u hu
      · simp only [List.mem_cons, List.not_mem_nil, or_false] at hu
        rcases hu with rfl | rfl | rfl
        · exact hpa
        · exact hpb
        · exact hlv
    have hKh : ∀ u ∈ KK, Hold 1 n9 u := by
      rw [← hKK]; intro u hu
      rcases List.mem_append.1 hu with hu | hu
      · exact .inl (f4 u hu)
      · simp only [List.mem_cons, List.not_mem_nil, or_false] at hu
        rcases hu with rfl | rfl | rfl
        · exact .inr (.inl rfl)
        · exact .inr (.inr (.inl rfl))
        · exact hlh
    have hma : pubT aT ∈ KK := by rw [← hKK]; simp
    have hmb : pubT bT ∈ KK := by rw [← hKK]; simp
    have hml : layT 1 n9 us ∈ KK := by rw [← hKK]; simp
    obtain ⟨p1, p2, p3, p4⟩ := keeps hKh
    obtain ⟨k1', k2', k3', k4'⟩ := key_ok n9
    have hkv : Vld (keyT 1 n9) := ⟨by omega, by omega, k4'⟩
    have hnv : Vld nT0 := nm_vld (by decide)
    have g1 := can30F hKs nT_ok.1 (by omega) hKv hnv p1
    have g2 := can30F hKs sT_ok.1 (by omega) hKv ⟨by decide, by decide, sT_ok.2⟩ p2
    have g3 := can30F hKs k1' (by omega) hKv hkv p3
    have g4 := can30F (t := .mk 8 0 [nT0]) hKs ⟨by decide, nT_ok.1, trivial⟩ (by omega) hKv ⟨by decide, by decide, AllS1 (by decide) nT_ok.2⟩ (p4 0)
    have g5 := can30T (t := .mk 5 0 [aT, nameT 2 1]) hKs ⟨by decide, aT_ok.1, nm_sm _, trivial⟩ (by omega) hKv ⟨by decide, by decide, AllS2 (by decide) aT_ok.2 (nm_snd (by decide))⟩ (keeps_own hma)
    have g6 := can30T (sm_snoc hKs bT_ok.1) nT_ok.1 (by rw [List.length_append]; simp; omega) (vl_snoc hKv hbv) hnv (keeps_b hma hml)
    have g7 := can30T (sm_snoc hKs aT_ok.1) k1' (by rw [List.length_append]; simp; omega) (vl_snoc hKv hav) hkv (keeps_a hmb)
    obtain ⟨L, hL⟩ : ∃ L, LS.map Tm.row = L := ⟨_, rfl⟩
    have hll : L.length ≤ 4 := by rw [← hL, List.length_map]; omega
    have hrl : ∀ r ∈ L, r.length = 3 := by
      rw [← hL]; intro r hr
      obtain ⟨t, _, rfl⟩ := List.mem_map.1 hr
      exact row_len t
    rw [hL] at h28
    have hKr : KK.map Tm.row = L ++ [[I 4, I 0, .sl [[I 2, I 100, .sl []]]], [I 4, I 0, .sl [[I 2, I 1048676, .sl []]]], [I tq, I tv, .sl (ts.map Tm.row)]] := by
      rw [← hKK, List.map_append, hL, hly]
      simp [Tm.row_eq, Tm.op_mk, Tm.val_mk, Tm.args_mk, pubT, aT, bT, nameT]
    have e1 : nT0.ag = .agg [.d (I 2), .d (I 1048677), .d (.sl [])] := rfl
    have e2 : sT.ag = .agg [.d (I 5), .d (I 0), .d (.sl [[I 2, I 100, .sl []], [I 2, I 1048676, .sl []]])] := rfl
    have e3 : (keyT 1 n9).ag = .agg [.d (I 6), .d (I 1), .d (.sl [[I 1, I n9, .sl []], [I 5, I 0, .sl [[I 2, I 100, .sl []], [I 2, I 1048676, .sl []]]]])] := rfl
    have e4 : (Tm.mk 8 0 [nT0]).ag = .agg [.d (I 8), .d (I 0), .d (.sl [[I 2, I 1048677, .sl []]])] := rfl
    have e5 : (Tm.mk 5 0 [aT, nameT 2 1]).ag = .agg [.d (I 5), .d (I 0), .d (.sl [[I 2, I 100, .sl []], [I 2, I 2097153, .sl []]])] := rfl
    have e6 : bT.row = [I 2, I 1048676, .sl []] := rfl
    have e7 : aT.row = [I 2, I 100, .sl []] := rfl
    rw [List.map_append] at g6 g7
    simp only [List.map_cons, List.map_nil, e6, e7] at g6 g7
    rw [hKr] at g1 g2 g3 g4 g5 g6 g7
    rw [e1] at g1 g6
    rw [e2] at g2
    rw [e3] at g3 g7
    rw [e4] at g4
    rw [e5] at g5
    clear p1 p2 p3 p4 hKs hKl hKv hKh hKK hKr hma hmb hml hlv hlh a1 a2 a3 a4 f1 f2 f3 f4 hL k1' k2' k3' k4' hkv hnv hav hbv hpa hpb e1 e2 e3 e4 e5 e6 e7 hok hly hus
    cases L with
    | nil =>
      simp only [keepT, List.nil_append, List.cons_append] at h28 g1 g2 g3 g4 g5 g6 g7
      (repeat (first
    | refine RX_seq ?_
    | refine RX_block ?_
    | ((first | refine RX_reg ?_ | refine RX_cond' ?_ | refine RX_draw0 ?_ | refine RX_draw rfl ?_ | refine RX_skip ?_ | refine RX_gfrz ?_ | refine RX_exit ?_ | refine RX_ret ?_); try (simp only [go_sem, Nat.max_zero, List.isEmpty_cons, Int.reduceToNat, Nat.reducePow, Int.reduceEq, Int.reduceNe, Int.reduceLT, Int.reduceLE, Nat.reduceAdd, Nat.reduceLeDiff, ↓reduceIte, Nat.reduceLT, Nat.reduceMul, Nat.reduceSub, reduceCtorEq, frzLoc, rowCells, vAppM, beq_iff_eq, bne_iff_ne, bne_self_eq_false, beq_self_eq_true, beq_true, beq_false, I, B, w, vf9_res, vf9_keep, hcv, hj, h40, hwj, hwj1, hlt, h28, h38a, h38b, h34o, h42o, h39, g1, g2, g3, g4, g5, g6, g7]))))
    | cons r L =>
      simp only [keepT, List.nil_append, List.cons_append, List.append_assoc] at h28 g1 g2 g3 g4 g5 g6 g7
      simp only [List.length_cons] at hll
      have hr1 : (r.length == 3) = true := by rw [hrl r List.mem_cons_self]; rfl
      have hr2 : (L.all fun r => r.length == 3) = true := List.all_eq_true.2 fun r hr => by rw [hrl r (List.mem_cons_of_mem _ hr)]; rfl
      have hr3 : L.length ≤ 4294967292 := by omega
      have hr4 : L.length ≤ 4294967291 := by omega
      have hr5 : L.length ≤ 4294967293 := by omega
      have hr6 : L.length ≤ 4294967290 := by omega
      (repeat (first
    | refine RX_seq ?_
    | refine RX_block ?_
    | ((first | refine RX_reg ?_ | refine RX_cond' ?_ | refine RX_draw0 ?_ | refine RX_draw rfl ?_ | refine RX_skip ?_ | refine RX_gfrz ?_ | refine RX_exit ?_ | refine RX_ret ?_); try (simp only [go_sem, Nat.max_zero, List.isEmpty_cons, Int.reduceToNat, Nat.reducePow, Int.reduceEq, Int.reduceNe, Int.reduceLT, Int.reduceLE, Nat.reduceAdd, Nat.reduceLeDiff, ↓reduceIte, Nat.reduceLT, Nat.reduceMul, Nat.reduceSub, reduceCtorEq, frzLoc, rowCells, vAppM, beq_iff_eq, bne_iff_ne, bne_self_eq_false, beq_self_eq_true, beq_true, beq_false, I, B, w, vf9_res, vf9_keep, hcv, hj, h40, hwj, hwj1, hlt, h28, h38a, h38b, h34o, h42o, h39, g1, g2, g3, g4, g5, g6, g7, hr1, hr2, hr3, hr4, hr5, hr6, List.length_append, List.all_append, List.all_cons, List.all_nil, List.length_cons, List.length_nil, Bool.and_true, List.append_assoc, List.cons_append, List.nil_append]))))
end Go.Proofs.Ytgiciiknagelhaa
