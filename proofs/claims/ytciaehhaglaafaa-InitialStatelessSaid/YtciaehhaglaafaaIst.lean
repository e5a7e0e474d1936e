/- Drawn terms on the machine. Conditions: none. -/
import Derived.Test.YtciaehhaglaafaaVd
import Derived.Test.YtciaehhaglaafaaIsa
set_option linter.unusedSimpArgs false
namespace Go.Proofs.Ytciaehhaglaafaa
open Go.VM
theorem e29b {l : List Int} (hB : Bytes l) (id k : Nat) {n : Int} (hn : 0 < n) (hn2 : n ≤ 256) : ∀ bl, CtxOk bl id →
    CV VP 22 [.ptr id 0, .d (I n)] (cx bl id l (k : Nat) []) = some ⟨.d (I (nxV l k n)), cx bl id l (nxA l k : Nat) [], [], 0⟩ := by
  intro bl h
  refine CV_run (vf := vf22) rfl rfl ?_
  rw [vf22_start]
  by_cases hk : k < l.length
  · have hk2 : ¬ ((k : Int) ≥ (l.length : Int)) := by omega
    have hz := List.getElem?_eq_getElem hk
    have hzb := hB.mem _ (List.getElem_mem hk)
    have hv : nxV l k n = l[k] * n / 256 := by rw [nxV, dif_pos hk]
    have ha : nxA l k = k + 1 := by rw [nxA, if_pos hk]
    rw [hv, ha]
    generalize l[k] = z at hz hzb
    have hzn : 0 ≤ z * n ∧ z * n ≤ 65280 := ⟨Int.mul_nonneg hzb.1 (by omega), by
      calc z * n ≤ 255 * 256 := Int.mul_le_mul hzb.2 hn2 (by omega) (by decide)
        _ = 65280 := by decide⟩
    have w1 := w_nat (Nat.lt_trans hk hB.len)
    have w2 : IntKind.i64.wrap (((k + 1 : Nat) : Int) - 1) = (k : Int) := by rw [w_in (by omega) (by have := hB.len; omega)]; omega
    have w3 : IntKind.i64.wrap z = z := w_in (by omega) (by omega)
    have w4 : IntKind.i64.wrap (z * n) = z * n := w_in (by omega) (by omega)
    have w5 : IntKind.i64.wrap ((z * n).tdiv 256) = z * n / 256 := by
      rw [Int.tdiv_eq_ediv_of_nonneg hzn.1, w_in (by omega) (by omega)]
    (repeat (first
    | refine RX_seq ?_
    | refine RX_block ?_
    | ((first | refine RX_reg ?_ | refine RX_cond' ?_ | refine RX_draw0 ?_ | refine RX_draw rfl ?_ | refine RX_skip ?_ | refine RX_exit ?_ | refine RX_ret ?_); try (simp only [go_sem, Int.reduceToNat, Nat.reducePow, Int.reduceEq, Int.reduceNe, Int.reduceLT, Int.reduceLE, Nat.reduceAdd, Nat.reduceLeDiff, ↓reduceIte, Nat.reduceLT, Nat.reduceMul, Nat.reduceSub, reduceCtorEq, frzLoc, rowCells, vAppM, beq_iff_eq, bne_iff_ne, bne_self_eq_false, beq_self_eq_true, beq_true, beq_false, I, B, w, cx_len, cx_app, cx_own0, cx_own, cx_setOwn0, cx_setOwn, cx_take, cx_takeN, Nat.add_right_cancel_iff, Nat.lt_irrefl, cx_nlt, Nat.not_lt_zero, cx_get' h, cx_setId' h, cx_er h, cx_all0 h, cx_all h, CtxOk.lt h, CtxOk.ne0 h, hk2, hk, hz, w1, w2, w3, w4, w5, List.length_map, List.getElem?_map, byteRow, vf22_res, vf22_keep]))))
  · have hk2 : (k : Int) ≥ (l.length : Int) := by omega
    have hv : nxV l k n = 0 := by rw [nxV, dif_neg hk]
    have ha : nxA l k = k := by rw [nxA, if_neg hk]
    rw [hv, ha]
    (repeat (first
    | refine RX_seq ?_
    | refine RX_block ?_
    | ((first | refine RX_reg ?_ | refine RX_cond' ?_ | refine RX_draw0 ?_ | refine RX_draw rfl ?_ | refine RX_skip ?_ | refine RX_exit ?_ | refine RX_ret ?_); try (simp only [go_sem, Int.reduceToNat, Nat.reducePow, Int.reduceEq, Int.reduceNe, Int.reduceLT, Int.reduceLE, Nat.reduceAdd, Nat.reduceLeDiff, ↓reduceIte, Nat.reduceLT, Nat.reduceMul, Nat.reduceSub, reduceCtorEq, frzLoc, rowCells, vAppM, beq_iff_eq, bne_iff_ne, bne_self_eq_false, beq_self_eq_true, beq_true, beq_false, I, B, w, cx_len, cx_app, cx_own0, cx_own, cx_setOwn0, cx_setOwn, cx_take, cx_takeN, Nat.add_right_cancel_iff, Nat.lt_irrefl, cx_nlt, Nat.not_lt_zero, cx_get' h, cx_setId' h, cx_er h, cx_all0 h, cx_all h, CtxOk.lt h, CtxOk.ne0 h, hk2, hk, List.length_map, vf22_res, vf22_keep]))))
theorem e29 {l : List Int} (hB : Bytes l) {bl : List (List V)} {id k : Nat} {own : List (List V)} {n : Int} (h : CtxOk bl id) (hn : 0 < n) (hn2 : n ≤ 256) (he : own.map V.erL = own) (hl : own.all (V.ltbL (bl.length + own.length)) = true) :
    CV VP 22 [.ptr id 0, .d (I n)] (cx bl id l (k : Nat) own) = some ⟨.d (I (nxV l k n)), cx bl id l (nxA l k : Nat) own, [], 0⟩ :=
  cx_lift (e29b hB id k hn hn2) h he hl
end Go.Proofs.Ytciaehhaglaafaa

namespace Go.Proofs.Ytciaehhaglaafaa
open Go.VM
/-- rows of terms -/
def Rows3 (rows : List (List D)) : Prop := rows.length ≤ 4294967296 ∧ rows.all (fun r => r.length == 3) = true
theorem e76 (n : Int) : CV VP 78 [.d (I n)] [] = some ⟨.agg [.d (I 1), .d (I n), .d (.sl [])], [], [], 0⟩ := by
  refine CV_run (vf := vf78) rfl rfl ?_
  rw [vf78_start]
  (repeat (first
    | refine RX_seq ?_
    | refine RX_block ?_
    | ((first | refine RX_reg ?_ | refine RX_cond' ?_ | refine RX_draw0 ?_ | refine RX_draw rfl ?_ | refine RX_skip ?_ | refine RX_exit ?_ | refine RX_ret ?_); try (simp only [go_sem, Int.reduceToNat, Nat.reducePow, Int.reduceEq, Int.reduceNe, Int.reduceLT, Int.reduceLE, Nat.reduceAdd, Nat.reduceLeDiff, ↓reduceIte, Nat.reduceLT, Nat.reduceMul, Nat.reduceSub, reduceCtorEq, frzLoc, rowCells, vAppM, beq_iff_eq, bne_iff_ne, bne_self_eq_false, beq_self_eq_true, beq_true, beq_false, I, B, w, vf78_res, vf78_keep]))))
theorem e72 (n : Int) : CV VP 68 [.d (I n)] [] = some ⟨.agg [.d (I 1), .d (I n), .d (.sl [])], [], [], 0⟩ := by
  refine CV_run (vf := vf68) rfl rfl ?_
  rw [vf68_start]
  (repeat (first
    | refine RX_seq ?_
    | refine RX_block ?_
    | ((first | refine RX_reg ?_ | refine RX_cond' ?_ | refine RX_draw0 ?_ | refine RX_draw rfl ?_ | refine RX_skip ?_ | refine RX_exit ?_ | refine RX_ret ?_); try (simp only [go_sem, Int.reduceToNat, Nat.reducePow, Int.reduceEq, Int.reduceNe, Int.reduceLT, Int.reduceLE, Nat.reduceAdd, Nat.reduceLeDiff, ↓reduceIte, Nat.reduceLT, Nat.reduceMul, Nat.reduceSub, reduceCtorEq, frzLoc, rowCells, vAppM, beq_iff_eq, bne_iff_ne, bne_self_eq_false, beq_self_eq_true, beq_true, beq_false, I, B, w, vf68_res, vf68_keep]))))
theorem e70 (a b : Int) : CV VP 47 [.d (I a), .d (I b)] [] = some ⟨.agg [.d (I 2), .d (I (w (w (a * 1048576) + b))), .d (.sl [])], [], [], 0⟩ := by
  refine CV_run (vf := vf47) rfl rfl ?_
  rw [vf47_start]
  (repeat (first
    | refine RX_seq ?_
    | refine RX_block ?_
    | ((first | refine RX_reg ?_ | refine RX_cond' ?_ | refine RX_draw0 ?_ | refine RX_draw rfl ?_ | refine RX_skip ?_ | refine RX_exit ?_ | refine RX_ret ?_); try (simp only [go_sem, Int.reduceToNat, Nat.reducePow, Int.reduceEq, Int.reduceNe, Int.reduceLT, Int.reduceLE, Nat.reduceAdd, Nat.reduceLeDiff, ↓reduceIte, Nat.reduceLT, Nat.reduceMul, Nat.reduceSub, reduceCtorEq, frzLoc, rowCells, vAppM, beq_iff_eq, bne_iff_ne, bne_self_eq_false, beq_self_eq_true, beq_true, beq_false, I, B, w, vf47_res, vf47_keep]))))
theorem e33 {rows : List (List D)} (h : Rows3 rows) : CV VP 25 [.d (.sl rows)] [] = some ⟨.agg [.d (I 3), .d (I 0), .d (.sl rows)], [], [], 0⟩ := by
  refine CV_run (vf := vf25) rfl rfl ?_
  rw [vf25_start]
  (repeat (first
    | refine RX_seq ?_
    | refine RX_block ?_
    | ((first | refine RX_reg ?_ | refine RX_cond' ?_ | refine RX_draw0 ?_ | refine RX_draw rfl ?_ | refine RX_skip ?_ | refine RX_exit ?_ | refine RX_ret ?_); try (simp only [go_sem, Int.reduceToNat, Nat.reducePow, Int.reduceEq, Int.reduceNe, Int.reduceLT, Int.reduceLE, Nat.reduceAdd, Nat.reduceLeDiff, ↓reduceIte, Nat.reduceLT, Nat.reduceMul, Nat.reduceSub, reduceCtorEq, frzLoc, rowCells, vAppM, beq_iff_eq, bne_iff_ne, bne_self_eq_false, beq_self_eq_true, beq_true, beq_false, I, B, w, vf25_res, vf25_keep, h.1, h.2]))))
theorem e77 (a b c : D) : CV VP 48 [.agg [.d a, .d b, .d c]] [] = some ⟨.agg [.d (I 4), .d (I 0), .d (.sl [[a, b, c]])], [], [], 0⟩ := by
  refine CV_run (vf := vf48) rfl rfl ?_
  rw [vf48_start]
  (repeat (first
    | refine RX_seq ?_
    | refine RX_block ?_
    | ((first | refine RX_reg ?_ | refine RX_cond' ?_ | refine RX_draw0 ?_ | refine RX_draw rfl ?_ | refine RX_skip ?_ | refine RX_exit ?_ | refine RX_ret ?_); try (simp only [go_sem, Int.reduceToNat, Nat.reducePow, Int.reduceEq, Int.reduceNe, Int.reduceLT, Int.reduceLE, Nat.reduceAdd, Nat.reduceLeDiff, ↓reduceIte, Nat.reduceLT, Nat.reduceMul, Nat.reduceSub, reduceCtorEq, frzLoc, rowCells, vAppM, beq_iff_eq, bne_iff_ne, bne_self_eq_false, beq_self_eq_true, beq_true, beq_false, I, B, w, vf48_res, vf48_keep]))))
theorem e79 (n : Int) {rows : List (List D)} (h : Rows3 rows) : CV VP 80 [.d (I n), .d (.sl rows)] [] = some ⟨.agg [.d (I 6), .d (I n), .d (.sl rows)], [], [], 0⟩ := by
  refine CV_run (vf := vf80) rfl rfl ?_
  rw [vf80_start]
  (repeat (first
    | refine RX_seq ?_
    | refine RX_block ?_
    | ((first | refine RX_reg ?_ | refine RX_cond' ?_ | refine RX_draw0 ?_ | refine RX_draw rfl ?_ | refine RX_skip ?_ | refine RX_exit ?_ | refine RX_ret ?_); try (simp only [go_sem, Int.reduceToNat, Nat.reducePow, Int.reduceEq, Int.reduceNe, Int.reduceLT, Int.reduceLE, Nat.reduceAdd, Nat.reduceLeDiff, ↓reduceIte, Nat.reduceLT, Nat.reduceMul, Nat.reduceSub, reduceCtorEq, frzLoc, rowCells, vAppM, beq_iff_eq, bne_iff_ne, bne_self_eq_false, beq_self_eq_true, beq_true, beq_false, I, B, w, vf80_res, vf80_keep, h.1, h.2]))))
theorem e80 (n : Int) (a b c : D) : CV VP 81 [.d (I n), .agg [.d a, .d b, .d c]] [] = some ⟨.agg [.d (I 8), .d (I n), .d (.sl [[a, b, c]])], [], [], 0⟩ := by
  refine CV_run (vf := vf81) rfl rfl ?_
  rw [vf81_start]
  (repeat (first
    | refine RX_seq ?_
    | refine RX_block ?_
    | ((first | refine RX_reg ?_ | refine RX_cond' ?_ | refine RX_draw0 ?_ | refine RX_draw rfl ?_ | refine RX_skip ?_ | refine RX_exit ?_ | refine RX_ret ?_); try (simp only [go_sem, Int.reduceToNat, Nat.reducePow, Int.reduceEq, Int.reduceNe, Int.reduceLT, Int.reduceLE, Nat.reduceAdd, Nat.reduceLeDiff, ↓reduceIte, Nat.reduceLT, Nat.reduceMul, Nat.reduceSub, reduceCtorEq, frzLoc, rowCells, vAppM, beq_iff_eq, bne_iff_ne, bne_self_eq_false, beq_self_eq_true, beq_true, beq_false, I, B, w, vf81_res, vf81_keep]))))
theorem e57 (a b c x y z : D) : CV VP 24 [.agg [.d a, .d b, .d c], .agg [.d x, .d y, .d z]] [] = some ⟨.agg [.d (I 7), .d (I 0), .d (.sl [[a, b, c], [x, y, z]])], [], [], 0⟩ := by
  refine CV_run (vf := vf24) rfl rfl ?_
  rw [vf24_start]
  (repeat (first
    | refine RX_seq ?_
    | refine RX_block ?_
    | ((first | refine RX_reg ?_ | refine RX_cond' ?_ | refine RX_draw0 ?_ | refine RX_draw rfl ?_ | refine RX_skip ?_ | refine RX_exit ?_ | refine RX_ret ?_); try (simp only [go_sem, Int.reduceToNat, Nat.reducePow, Int.reduceEq, Int.reduceNe, Int.reduceLT, Int.reduceLE, Nat.reduceAdd, Nat.reduceLeDiff, ↓reduceIte, Nat.reduceLT, Nat.reduceMul, Nat.reduceSub, reduceCtorEq, frzLoc, rowCells, vAppM, beq_iff_eq, bne_iff_ne, bne_self_eq_false, beq_self_eq_true, beq_true, beq_false, I, B, w, vf24_res, vf24_keep]))))
end Go.Proofs.Ytciaehhaglaafaa

namespace Go.Proofs.Ytciaehhaglaafaa
open Go.VM
theorem e121n (a b : Int) : CV VP 193 [.agg [.d (I 2), .d (I a), .d (.sl [])], .agg [.d (I 2), .d (I b), .d (.sl [])]] [] = some ⟨.d (I (if a < b then -1 else if b < a then 1 else 0)), [], [], 0⟩ := by
  refine CV_run (vf := vf193) rfl rfl ?_
  rw [vf193_start]
  by_cases h1 : a < b
  · (repeat (first
    | refine RX_seq ?_
    | refine RX_block ?_
    | ((first | refine RX_reg ?_ | refine RX_cond' ?_ | refine RX_draw0 ?_ | refine RX_draw rfl ?_ | refine RX_skip ?_ | refine RX_exit ?_ | refine RX_ret ?_); try (simp only [go_sem, Int.reduceToNat, Nat.reducePow, Int.reduceEq, Int.reduceNe, Int.reduceLT, Int.reduceLE, Nat.reduceAdd, Nat.reduceLeDiff, ↓reduceIte, Nat.reduceLT, Nat.reduceMul, Nat.reduceSub, reduceCtorEq, frzLoc, rowCells, vAppM, beq_iff_eq, bne_iff_ne, bne_self_eq_false, beq_self_eq_true, beq_true, beq_false, I, B, w, vf193_res, vf193_keep, h1, gt_iff_lt]))))
  · by_cases h2 : b < a
    · (repeat (first
    | refine RX_seq ?_
    | refine RX_block ?_
    | ((first | refine RX_reg ?_ | refine RX_cond' ?_ | refine RX_draw0 ?_ | refine RX_draw rfl ?_ | refine RX_skip ?_ | refine RX_exit ?_ | refine RX_ret ?_); try (simp only [go_sem, Int.reduceToNat, Nat.reducePow, Int.reduceEq, Int.reduceNe, Int.reduceLT, Int.reduceLE, Nat.reduceAdd, Nat.reduceLeDiff, ↓reduceIte, Nat.reduceLT, Nat.reduceMul, Nat.reduceSub, reduceCtorEq, frzLoc, rowCells, vAppM, beq_iff_eq, bne_iff_ne, bne_self_eq_false, beq_self_eq_true, beq_true, beq_false, I, B, w, vf193_res, vf193_keep, h1, h2, gt_iff_lt]))))
    · (repeat (first
    | refine RX_seq ?_
    | refine RX_block ?_
    | ((first | refine RX_reg ?_ | refine RX_cond' ?_ | refine RX_draw0 ?_ | refine RX_draw rfl ?_ | refine RX_skip ?_ | refine RX_exit ?_ | refine RX_ret ?_); try (simp only [go_sem, Int.reduceToNat, Nat.reducePow, Int.reduceEq, Int.reduceNe, Int.reduceLT, Int.reduceLE, Nat.reduceAdd, Nat.reduceLeDiff, ↓reduceIte, Nat.reduceLT, Nat.reduceMul, Nat.reduceSub, reduceCtorEq, frzLoc, rowCells, vAppM, beq_iff_eq, bne_iff_ne, bne_self_eq_false, beq_self_eq_true, beq_true, beq_false, I, B, w, vf193_res, vf193_keep, h1, h2, gt_iff_lt]))))
      refine RX_loop ?_
      refine RL_head ?_
      (simp only [go_sem, Int.reduceToNat, Nat.reducePow, Int.reduceEq, Int.reduceNe, Int.reduceLT, Int.reduceLE, Nat.reduceAdd, Nat.reduceLeDiff, ↓reduceIte, Nat.reduceLT, Nat.reduceMul, Nat.reduceSub, reduceCtorEq, frzLoc, rowCells, vAppM, beq_iff_eq, bne_iff_ne, bne_self_eq_false, beq_self_eq_true, beq_true, beq_false, I, B, w, St.head, forget, vf193K0, RLK_some])
      unfold vf193L0
      (repeat (first
    | refine RX_seq ?_
    | refine RX_block ?_
    | ((first | refine RX_reg ?_ | refine RX_cond' ?_ | refine RX_draw0 ?_ | refine RX_draw rfl ?_ | refine RX_skip ?_ | refine RX_exit ?_ | refine RX_ret ?_); try (simp only [go_sem, Int.reduceToNat, Nat.reducePow, Int.reduceEq, Int.reduceNe, Int.reduceLT, Int.reduceLE, Nat.reduceAdd, Nat.reduceLeDiff, ↓reduceIte, Nat.reduceLT, Nat.reduceMul, Nat.reduceSub, reduceCtorEq, frzLoc, rowCells, vAppM, beq_iff_eq, bne_iff_ne, bne_self_eq_false, beq_self_eq_true, beq_true, beq_false, I, B, w, vf193_res, vf193_keep, h1, h2]))))
theorem e104n (a b : Int) : CV VP 145 [.agg [.d (I 2), .d (I a), .d (.sl [])], .agg [.d (I 2), .d (I b), .d (.sl [])]] [] = some ⟨.d (B (decide (a < b))), [], [], 0⟩ := by
  have h := e121n a b
  refine CV_run (vf := vf145) rfl rfl ?_
  rw [vf145_start]
  by_cases h1 : a < b
  · rw [if_pos h1] at h
    (repeat (first
    | refine RX_seq ?_
    | refine RX_block ?_
    | ((first | refine RX_reg ?_ | refine RX_cond' ?_ | refine RX_draw0 ?_ | refine RX_draw rfl ?_ | refine RX_skip ?_ | refine RX_exit ?_ | refine RX_ret ?_); try (simp only [go_sem, Int.reduceToNat, Nat.reducePow, Int.reduceEq, Int.reduceNe, Int.reduceLT, Int.reduceLE, Nat.reduceAdd, Nat.reduceLeDiff, ↓reduceIte, Nat.reduceLT, Nat.reduceMul, Nat.reduceSub, reduceCtorEq, frzLoc, rowCells, vAppM, beq_iff_eq, bne_iff_ne, bne_self_eq_false, beq_self_eq_true, beq_true, beq_false, I, B, w, vf145_res, vf145_keep, h, h1]))))
  · rw [if_neg h1] at h
    by_cases h2 : b < a
    · rw [if_pos h2] at h
      (repeat (first
    | refine RX_seq ?_
    | refine RX_block ?_
    | ((first | refine RX_reg ?_ | refine RX_cond' ?_ | refine RX_draw0 ?_ | refine RX_draw rfl ?_ | refine RX_skip ?_ | refine RX_exit ?_ | refine RX_ret ?_); try (simp only [go_sem, Int.reduceToNat, Nat.reducePow, Int.reduceEq, Int.reduceNe, Int.reduceLT, Int.reduceLE, Nat.reduceAdd, Nat.reduceLeDiff, ↓reduceIte, Nat.reduceLT, Nat.reduceMul, Nat.reduceSub, reduceCtorEq, frzLoc, rowCells, vAppM, beq_iff_eq, bne_iff_ne, bne_self_eq_false, beq_self_eq_true, beq_true, beq_false, I, B, w, vf145_res, vf145_keep, h, h1]))))
    · rw [if_neg h2] at h
      (repeat (first
    | refine RX_seq ?_
    | refine RX_block ?_
    | ((first | refine RX_reg ?_ | refine RX_cond' ?_ | refine RX_draw0 ?_ | refine RX_draw rfl ?_ | refine RX_skip ?_ | refine RX_exit ?_ | refine RX_ret ?_); try (simp only [go_sem, Int.reduceToNat, Nat.reducePow, Int.reduceEq, Int.reduceNe, Int.reduceLT, Int.reduceLE, Nat.reduceAdd, Nat.reduceLeDiff, ↓reduceIte, Nat.reduceLT, Nat.reduceMul, Nat.reduceSub, reduceCtorEq, frzLoc, rowCells, vAppM, beq_iff_eq, bne_iff_ne, bne_self_eq_false, beq_self_eq_true, beq_true, beq_false, I, B, w, vf145_res, vf145_keep, h, h1]))))
theorem e78n (a b : Int) : CV VP 79 [.agg [.d (I 4), .d (I 0), .d (.sl [[I 2, I a, .sl []]])], .agg [.d (I 2), .d (I b), .d (.sl [])]] [] =
    some ⟨.tup [.agg [.d (I 5), .d (I 0), .d (.sl [[I 2, I (min a b), .sl []], [I 2, I (max a b), .sl []]])], .d (B true)], [], [], 0⟩ := by
  have h := e104n b a
  refine CV_run (vf := vf79) rfl rfl ?_
  rw [vf79_start]
  by_cases h1 : b < a
  · have m1 : min a b = b := by omega
    have m2 : max a b = a := by omega
    rw [m1, m2]
    (repeat (first
    | refine RX_seq ?_
    | refine RX_block ?_
    | ((first | refine RX_reg ?_ | refine RX_cond' ?_ | refine RX_draw0 ?_ | refine RX_draw rfl ?_ | refine RX_skip ?_ | refine RX_exit ?_ | refine RX_ret ?_); try (simp only [go_sem, Int.reduceToNat, Nat.reducePow, Int.reduceEq, Int.reduceNe, Int.reduceLT, Int.reduceLE, Nat.reduceAdd, Nat.reduceLeDiff, ↓reduceIte, Nat.reduceLT, Nat.reduceMul, Nat.reduceSub, reduceCtorEq, frzLoc, rowCells, vAppM, beq_iff_eq, bne_iff_ne, bne_self_eq_false, beq_self_eq_true, beq_true, beq_false, I, B, w, vf79_res, vf79_keep, h, h1]))))
  · have m1 : min a b = a := by omega
    have m2 : max a b = b := by omega
    rw [m1, m2]
    (repeat (first
    | refine RX_seq ?_
    | refine RX_block ?_
    | ((first | refine RX_reg ?_ | refine RX_cond' ?_ | refine RX_draw0 ?_ | refine RX_draw rfl ?_ | refine RX_skip ?_ | refine RX_exit ?_ | refine RX_ret ?_); try (simp only [go_sem, Int.reduceToNat, Nat.reducePow, Int.reduceEq, Int.reduceNe, Int.reduceLT, Int.reduceLE, Nat.reduceAdd, Nat.reduceLeDiff, ↓reduceIte, Nat.reduceLT, Nat.reduceMul, Nat.reduceSub, reduceCtorEq, frzLoc, rowCells, vAppM, beq_iff_eq, bne_iff_ne, bne_self_eq_false, beq_self_eq_true, beq_true, beq_false, I, B, w, vf79_res, vf79_keep, h, h1]))))
end Go.Proofs.Ytciaehhaglaafaa

namespace Go.Proofs.Ytciaehhaglaafaa
open Go.VM
def nmV (l : List Int) (k : Nat) : Int := nxV l k 3 * 1048576 + (1 + nxV l (nxA l k) 5)
theorem e68b {l : List Int} (hB : Bytes l) (id k : Nat) : ∀ bl, CtxOk bl id →
    CV VP 41 [.ptr id 0] (cx bl id l (k : Nat) []) = some ⟨.agg [.d (I 2), .d (I (nmV l k)), .d (.sl [])], cx bl id l (nxA l (nxA l k) : Nat) [], [], 0⟩ := by
  intro bl h
  have c3 : ∀ (k : Nat) (own : List (List V)), own.map V.erL = own → own.all (V.ltbL (bl.length + own.length)) = true → CV VP 22 [.ptr id 0, .d (I 3)] (cx bl id l (k : Nat) own) = some ⟨.d (I (nxV l k 3)), cx bl id l (nxA l k : Nat) own, [], 0⟩ := fun k own => e29 hB h (by decide) (by decide)
  have c5 : ∀ (k : Nat) (own : List (List V)), own.map V.erL = own → own.all (V.ltbL (bl.length + own.length)) = true → CV VP 22 [.ptr id 0, .d (I 5)] (cx bl id l (k : Nat) own) = some ⟨.d (I (nxV l k 5)), cx bl id l (nxA l k : Nat) own, [], 0⟩ := fun k own => e29 hB h (by decide) (by decide)
  have r1 := nxV_range hB (k := k) (n := 3) (by decide)
  have r2 := nxV_range hB (k := nxA l k) (n := 5) (by decide)
  have w1 : IntKind.i64.wrap (1 + nxV l (nxA l k) 5) = 1 + nxV l (nxA l k) 5 := w_in (by omega) (by omega)
  have w2 : IntKind.i64.wrap (nxV l k 3 * 1048576) = nxV l k 3 * 1048576 := w_in (by omega) (by omega)
  have w3 : IntKind.i64.wrap (nxV l k 3 * 1048576 + (1 + nxV l (nxA l k) 5)) = nmV l k := w_in (by omega) (by omega)
  refine CV_run (vf := vf41) rfl rfl ?_
  rw [vf41_start]
  (repeat (first
    | refine RX_seq ?_
    | refine RX_block ?_
    | ((first | refine RX_reg ?_ | refine RX_cond' ?_ | refine RX_draw0 ?_ | refine RX_draw rfl ?_ | refine RX_skip ?_ | refine RX_exit ?_ | refine RX_ret ?_); try (simp only [go_sem, Int.reduceToNat, Nat.reducePow, Int.reduceEq, Int.reduceNe, Int.reduceLT, Int.reduceLE, Nat.reduceAdd, Nat.reduceLeDiff, ↓reduceIte, Nat.reduceLT, Nat.reduceMul, Nat.reduceSub, reduceCtorEq, frzLoc, rowCells, vAppM, beq_iff_eq, bne_iff_ne, bne_self_eq_false, beq_self_eq_true, beq_true, beq_false, I, B, w, vf41_res, vf41_keep, cx_len, cx_app, cx_own0, cx_own, cx_setOwn0, cx_setOwn, cx_take, cx_takeN, Nat.add_right_cancel_iff, Nat.lt_irrefl, cx_nlt, Nat.not_lt_zero, cx_get' h, cx_setId' h, cx_er h, cx_all0 h, cx_all h, CtxOk.lt h, CtxOk.ne0 h, c3, c5, e70, w1, w2, w3, Nat.not_lt_zero]))))
end Go.Proofs.Ytciaehhaglaafaa


namespace Go.Proofs.Ytciaehhaglaafaa
open Go.VM
def leafO (l : List Int) (k : Nat) : Int := if nxV l k 12 % 4 = 0 then 1 else if nxV l k 12 % 4 = 3 then 9 else 2
def leafV (l : List Int) (k : Nat) : Int := if nxV l k 12 % 4 = 0 then nxV l (nxA l k) 6 else if nxV l k 12 % 4 = 3 then nxV l (nxA l k) 3 else nmV l (nxA l k)
def leafA (l : List Int) (k : Nat) : Nat := if nxV l k 12 % 4 = 0 then nxA l (nxA l k) else if nxV l k 12 % 4 = 3 then nxA l (nxA l k) else nxA l (nxA l (nxA l k))
theorem e32_1b {l : List Int} (hB : Bytes l) (id k : Nat) : ∀ bl, CtxOk bl id →
    CV VP 20 [.ptr id 0, .d (I 1)] (cx bl id l (k : Nat) []) = some ⟨.agg [.d (I (leafO l k)), .d (I (leafV l k)), .d (.sl [])], cx bl id l (leafA l k : Nat) [], [], 0⟩ := by
  intro bl h
  have cN : ∀ (n : Int), 0 < n → n ≤ 256 → ∀ (k : Nat) (own : List (List V)), own.map V.erL = own → own.all (V.ltbL (bl.length + own.length)) = true → CV VP 22 [.ptr id 0, .d (I n)] (cx bl id l (k : Nat) own) = some ⟨.d (I (nxV l k n)), cx bl id l (nxA l k : Nat) own, [], 0⟩ := fun n h1 h2 k own => e29 hB h h1 h2
  have c12 := cN 12 (by decide) (by decide)
  have c6 := cN 6 (by decide) (by decide)
  have c3 := cN 3 (by decide) (by decide)
  have cM : ∀ (k : Nat) (own : List (List V)), own.map V.erL = own → own.all (V.ltbL (bl.length + own.length)) = true → CV VP 41 [.ptr id 0] (cx bl id l (k : Nat) own) = some ⟨.agg [.d (I 2), .d (I (nmV l k)), .d (.sl [])], cx bl id l (nxA l (nxA l k) : Nat) own, [], 0⟩ := fun k own => cx_lift (e68b hB id k) h
  have r := nxV_range hB (k := k) (n := 12) (by decide)
  have hv : nxV l k 12 = 0 ∨ nxV l k 12 = 1 ∨ nxV l k 12 = 2 ∨ nxV l k 12 = 3 ∨ nxV l k 12 = 4 ∨ nxV l k 12 = 5 ∨ nxV l k 12 = 6 ∨ nxV l k 12 = 7 ∨ nxV l k 12 = 8 ∨ nxV l k 12 = 9 ∨ nxV l k 12 = 10 ∨ nxV l k 12 = 11 := by omega
  clear r cN
  refine CV_run (vf := vf20) rfl rfl ?_
  rw [vf20_start]
  rcases hv with hv | hv | hv | hv | hv | hv | hv | hv | hv | hv | hv | hv <;>
  · simp only [leafO, leafV, leafA, hv, Int.reduceMod, Int.reduceEq, if_true, if_false]
    (repeat (first
    | refine RX_seq ?_
    | refine RX_block ?_
    | ((first | refine RX_reg ?_ | refine RX_cond' ?_ | refine RX_draw0 ?_ | refine RX_draw rfl ?_ | refine RX_skip ?_ | refine RX_exit ?_ | refine RX_ret ?_); try (simp only [go_sem, Int.reduceToNat, Nat.reducePow, Int.reduceEq, Int.reduceNe, Int.reduceLT, Int.reduceLE, Nat.reduceAdd, Nat.reduceLeDiff, ↓reduceIte, Nat.reduceLT, Nat.reduceMul, Nat.reduceSub, reduceCtorEq, frzLoc, rowCells, vAppM, beq_iff_eq, bne_iff_ne, bne_self_eq_false, beq_self_eq_true, beq_true, beq_false, I, B, w, vf20_res, vf20_keep, cx_len, cx_app, cx_own0, cx_own, cx_setOwn0, cx_setOwn, cx_take, cx_takeN, Nat.add_right_cancel_iff, Nat.lt_irrefl, cx_nlt, Nat.not_lt_zero, cx_get' h, cx_setId' h, cx_er h, cx_all0 h, cx_all h, CtxOk.lt h, CtxOk.ne0 h, c12, c6, c3, cM, hv, e76, gt_iff_lt, Int.reduceTMod]))))
end Go.Proofs.Ytciaehhaglaafaa

namespace Go.Proofs.Ytciaehhaglaafaa
open Go.VM
theorem e21 {l : List Int} (n : Nat) (hn : n < 1000) : CV VP 17 [.d (byteD l), .d (I n)] [] = some ⟨.ptr 0 0, [[.sl 1 ((l.take n).map byteRow) (.own 0 0), .d (I 0)]], [0], 1⟩ := by
  have hall : (l.map byteRow).all (fun r => r.length == 1) = true := by
    rw [List.all_eq_true]
    intro r hr
    obtain ⟨z, _, rfl⟩ := List.mem_map.1 hr
    rfl
  have hall2 : ((l.take n).map byteRow).all (fun r => r.length == 1) = true := by
    rw [List.all_eq_true]
    intro r hr
    obtain ⟨z, _, rfl⟩ := List.mem_map.1 hr
    rfl
  refine CV_run (vf := vf17) rfl rfl ?_
  rw [vf17_start]
  have hall3 : (List.take n (l.map byteRow)).all (fun r => r.length == 1) = true := by rw [← List.map_take]; exact hall2
  by_cases h : (n : Int) < l.length
  · have h1 : ((n : Int) ≤ (l.length : Int)) := by omega
    have h2 : min n l.length ≤ 4294967296 := by omega
    (repeat (first
    | refine RX_seq ?_
    | refine RX_block ?_
    | ((first | refine RX_reg ?_ | refine RX_cond' ?_ | refine RX_draw0 ?_ | refine RX_draw rfl ?_ | refine RX_skip ?_ | refine RX_exit ?_ | refine RX_ret ?_); try (simp only [go_sem, Int.reduceToNat, Nat.reducePow, Int.reduceEq, Int.reduceNe, Int.reduceLT, Int.reduceLE, Nat.reduceAdd, Nat.reduceLeDiff, ↓reduceIte, Nat.reduceLT, Nat.reduceMul, Nat.reduceSub, reduceCtorEq, frzLoc, rowCells, vAppM, beq_iff_eq, bne_iff_ne, bne_self_eq_false, beq_self_eq_true, beq_true, beq_false, I, B, w, vf17_res, vf17_keep, byteD, h, h1, h2, hall, hall3, vSlice, vBounds, List.length_map, List.map_take, List.length_take]))))
  · have h3 : l.take n = l := List.take_of_length_le (by omega)
    have h2 : l.length ≤ 4294967296 ∨ True := .inr trivial
    have h4 : l.length ≤ 4294967296 := by omega
    have h5 : List.take l.length (l.map byteRow) = l.map byteRow := List.take_of_length_le (by simp)
    rw [h3]
    (repeat (first
    | refine RX_seq ?_
    | refine RX_block ?_
    | ((first | refine RX_reg ?_ | refine RX_cond' ?_ | refine RX_draw0 ?_ | refine RX_draw rfl ?_ | refine RX_skip ?_ | refine RX_exit ?_ | refine RX_ret ?_); try (simp only [go_sem, Int.reduceToNat, Nat.reducePow, Int.reduceEq, Int.reduceNe, Int.reduceLT, Int.reduceLE, Nat.reduceAdd, Nat.reduceLeDiff, ↓reduceIte, Nat.reduceLT, Nat.reduceMul, Nat.reduceSub, reduceCtorEq, frzLoc, rowCells, vAppM, beq_iff_eq, bne_iff_ne, bne_self_eq_false, beq_self_eq_true, beq_true, beq_false, I, B, w, vf17_res, vf17_keep, byteD, h, h4, h5, hall, vSlice, vBounds, List.length_map, Int.le_refl]))))
end Go.Proofs.Ytciaehhaglaafaa

namespace Go.Proofs.Ytciaehhaglaafaa
open Go.VM
/-- a term of the program -/
inductive Tm where
  | mk (op v : Int) (args : List Tm)
mutual
def Tm.row : Tm → List D
  | .mk op v args => [I op, I v, .sl (Tm.rows args)]
def Tm.rows : List Tm → List (List D)
  | [] => []
  | t :: ts => t.row :: Tm.rows ts
end
mutual
def Tm.eqb : Tm → Tm → Bool
  | .mk a b c, .mk x y z => a == x && (b == y && Tm.eqbs c z)
def Tm.eqbs : List Tm → List Tm → Bool
  | [], [] => true
  | t :: ts, u :: us => t.eqb u && Tm.eqbs ts us
  | _, _ => false
end
mutual
def Tm.small : Tm → Prop
  | .mk _ _ args => args.length < 1099511627776 ∧ Tm.smalls args
def Tm.smalls : List Tm → Prop
  | [] => True
  | t :: ts => t.small ∧ Tm.smalls ts
end
theorem Tm.rows_eq : ∀ ts : List Tm, Tm.rows ts = ts.map Tm.row
  | [] => rfl
  | t :: ts => by rw [Tm.rows, Tm.rows_eq ts]; rfl
theorem Tm.eqbs_drop {ts us : List Tm} {i : Nat} {t u : Tm} (h1 : ts[i]? = some t) (h2 : us[i]? = some u) : Tm.eqbs (ts.drop i) (us.drop i) = (t.eqb u && Tm.eqbs (ts.drop (i + 1)) (us.drop (i + 1))) := by
  have a := (List.getElem?_eq_some_iff.1 h1)
  have b := (List.getElem?_eq_some_iff.1 h2)
  obtain ⟨a1, a2⟩ := a
  obtain ⟨b1, b2⟩ := b
  rw [List.drop_eq_getElem_cons a1, List.drop_eq_getElem_cons b1, a2, b2, Tm.eqbs]
theorem Tm.smalls_mem : ∀ {ts : List Tm} {t : Tm}, Tm.smalls ts → t ∈ ts → t.small
  | t :: ts, u, h, hu => by
    rcases List.mem_cons.1 hu with rfl | hu
    · exact h.1
    · exact Tm.smalls_mem h.2 hu
theorem Tm.eqbs_len : ∀ {ts us : List Tm}, ts.length ≠ us.length → Tm.eqbs ts us = false
  | [], [], h => by simp at h
  | [], _ :: _, _ => rfl
  | _ :: _, [], _ => rfl
  | t :: ts, u :: us, h => by rw [Tm.eqbs, Tm.eqbs_len (by simpa using h), Bool.and_false]
theorem e19 : ∀ (n : Nat) (t u : Tm), SizeOf.sizeOf t < n → t.small → CV VP 33 [.agg (t.row.map .d), .agg (u.row.map .d)] [] = some ⟨.d (B (t.eqb u)), [], [], 0⟩
  | 0, t, u, h, _ => absurd h (Nat.not_lt_zero _)
  | n + 1, .mk a b ts, .mk x y us, hn, hs => by
    refine CV_run (vf := vf33) rfl rfl ?_
    rw [vf33_start]
    simp only [Tm.row, List.map_cons, List.map_nil, Tm.rows_eq]
    cases hax : (a != x) with
    | true =>
      (repeat (first
    | refine RX_seq ?_
    | refine RX_block ?_
    | ((first | refine RX_reg ?_ | refine RX_cond' ?_ | refine RX_draw0 ?_ | refine RX_draw rfl ?_ | refine RX_skip ?_ | refine RX_exit ?_ | refine RX_ret ?_); try (simp only [go_sem, Int.reduceToNat, Nat.reducePow, Int.reduceEq, Int.reduceNe, Int.reduceLT, Int.reduceLE, Nat.reduceAdd, Nat.reduceLeDiff, ↓reduceIte, Nat.reduceLT, Nat.reduceMul, Nat.reduceSub, reduceCtorEq, frzLoc, rowCells, vAppM, beq_iff_eq, bne_iff_ne, bne_self_eq_false, beq_self_eq_true, beq_true, beq_false, I, B, w, hax]))))
      (simp only [go_sem, Int.reduceToNat, Nat.reducePow, Int.reduceEq, Int.reduceNe, Int.reduceLT, Int.reduceLE, Nat.reduceAdd, Nat.reduceLeDiff, ↓reduceIte, Nat.reduceLT, Nat.reduceMul, Nat.reduceSub, reduceCtorEq, frzLoc, rowCells, vAppM, beq_iff_eq, bne_iff_ne, bne_self_eq_false, beq_self_eq_true, beq_true, beq_false, I, B, w, vf33, I, B, Tm.eqb])
      have : (a == x) = false := by simpa using hax
      rw [this]; rfl
    | false =>
    have hax' : (a == x) = true := by simpa using hax
    cases hby : (b != y) with
    | true =>
      (repeat (first
    | refine RX_seq ?_
    | refine RX_block ?_
    | ((first | refine RX_reg ?_ | refine RX_cond' ?_ | refine RX_draw0 ?_ | refine RX_draw rfl ?_ | refine RX_skip ?_ | refine RX_exit ?_ | refine RX_ret ?_); try (simp only [go_sem, Int.reduceToNat, Nat.reducePow, Int.reduceEq, Int.reduceNe, Int.reduceLT, Int.reduceLE, Nat.reduceAdd, Nat.reduceLeDiff, ↓reduceIte, Nat.reduceLT, Nat.reduceMul, Nat.reduceSub, reduceCtorEq, frzLoc, rowCells, vAppM, beq_iff_eq, bne_iff_ne, bne_self_eq_false, beq_self_eq_true, beq_true, beq_false, I, B, w, hax, hby]))))
      (simp only [go_sem, Int.reduceToNat, Nat.reducePow, Int.reduceEq, Int.reduceNe, Int.reduceLT, Int.reduceLE, Nat.reduceAdd, Nat.reduceLeDiff, ↓reduceIte, Nat.reduceLT, Nat.reduceMul, Nat.reduceSub, reduceCtorEq, frzLoc, rowCells, vAppM, beq_iff_eq, bne_iff_ne, bne_self_eq_false, beq_self_eq_true, beq_true, beq_false, I, B, w, vf33, I, B, Tm.eqb])
      have : (b == y) = false := by simpa using hby
      rw [this, Bool.false_and, Bool.and_false]
    | false =>
    have hby' : (b == y) = true := by simpa using hby
    cases hl : ((ts.length : Int) != us.length) with
    | true =>
      (repeat (first
    | refine RX_seq ?_
    | refine RX_block ?_
    | ((first | refine RX_reg ?_ | refine RX_cond' ?_ | refine RX_draw0 ?_ | refine RX_draw rfl ?_ | refine RX_skip ?_ | refine RX_exit ?_ | refine RX_ret ?_); try (simp only [go_sem, Int.reduceToNat, Nat.reducePow, Int.reduceEq, Int.reduceNe, Int.reduceLT, Int.reduceLE, Nat.reduceAdd, Nat.reduceLeDiff, ↓reduceIte, Nat.reduceLT, Nat.reduceMul, Nat.reduceSub, reduceCtorEq, frzLoc, rowCells, vAppM, beq_iff_eq, bne_iff_ne, bne_self_eq_false, beq_self_eq_true, beq_true, beq_false, I, B, w, hax, hby, hl, List.length_map]))))
      (simp only [go_sem, Int.reduceToNat, Nat.reducePow, Int.reduceEq, Int.reduceNe, Int.reduceLT, Int.reduceLE, Nat.reduceAdd, Nat.reduceLeDiff, ↓reduceIte, Nat.reduceLT, Nat.reduceMul, Nat.reduceSub, reduceCtorEq, frzLoc, rowCells, vAppM, beq_iff_eq, bne_iff_ne, bne_self_eq_false, beq_self_eq_true, beq_true, beq_false, I, B, w, vf33, I, B, Tm.eqb])
      have : ts.length ≠ us.length := by
        have : (ts.length : Int) ≠ us.length := by simpa using hl
        omega
      rw [Tm.eqbs_len this, Bool.and_false, Bool.and_false]
    | false =>
    have hlen : ts.length = us.length := by
      have : (ts.length : Int) = us.length := by simpa using hl
      omega
    (repeat (first
    | refine RX_seq ?_
    | refine RX_block ?_
    | ((first | refine RX_reg ?_ | refine RX_cond' ?_ | refine RX_draw0 ?_ | refine RX_draw rfl ?_ | refine RX_skip ?_ | refine RX_exit ?_ | refine RX_ret ?_); try (simp only [go_sem, Int.reduceToNat, Nat.reducePow, Int.reduceEq, Int.reduceNe, Int.reduceLT, Int.reduceLE, Nat.reduceAdd, Nat.reduceLeDiff, ↓reduceIte, Nat.reduceLT, Nat.reduceMul, Nat.reduceSub, reduceCtorEq, frzLoc, rowCells, vAppM, beq_iff_eq, bne_iff_ne, bne_self_eq_false, beq_self_eq_true, beq_true, beq_false, I, B, w, hax, hby, hl, List.length_map]))))
    refine RX_loop ?_
    refine RL_head ?_
    (simp only [go_sem, Int.reduceToNat, Nat.reducePow, Int.reduceEq, Int.reduceNe, Int.reduceLT, Int.reduceLE, Nat.reduceAdd, Nat.reduceLeDiff, ↓reduceIte, Nat.reduceLT, Nat.reduceMul, Nat.reduceSub, reduceCtorEq, frzLoc, rowCells, vAppM, beq_iff_eq, bne_iff_ne, bne_self_eq_false, beq_self_eq_true, beq_true, beq_false, I, B, w, St.head, forget, List.length_map, vf33K0, RLK_some])
    have hret : (Tm.mk a b ts).eqb (.mk x y us) = Tm.eqbs (ts.drop 0) (us.drop 0) := by rw [Tm.eqb, hax', hby']; rfl
    rw [hret]
    obtain ⟨hs1, hs2⟩ := hs
    suffices H : ∀ (m i : Nat), i + m = ts.length → RX VP vf33L0 ⟨(.any :: .any :: .ptr 0 0 :: .ptr 1 0 :: .any :: .d (.lit (.int .i64 (i : Int))) :: .any :: .any :: .any :: .any :: .any :: .any :: .any :: .any :: .any :: .any :: .any :: .any :: .any :: .any :: .any :: .any :: .any :: .any :: .any :: .any :: .any :: .any :: .any :: .any :: .any :: .any :: .any :: .any :: .any :: .any :: .any :: .any :: .any :: .any :: .any :: .any :: .any :: .any :: .any :: .any :: []),
        [[V.d (I a), V.d (I b), V.d (D.sl (List.map Tm.row ts))], [V.d (I x), V.d (I y), V.d (D.sl (List.map Tm.row us))]], [], 0, 0, 0⟩
        (again VP vf33K0 vf33L0 2 (outQ 0 (thn VP ((VCode.reg [{ dst := some 4, op := VOp.mov (VArg.c (V.d (D.lit (Value.bool true)))), guard := none }]).seq VCode.ret)
          (retQ vf33 0 { r := V.d (B (Tm.eqbs (ts.drop i) (us.drop i))), blocks := [], live := [], gn := 0 })))) from H ts.length 0 (Nat.zero_add _)
    intro m
    induction m with
    | zero =>
      intro i hi
      have h1 : ¬ i < ts.length := by omega
      unfold vf33L0
      (repeat (first
    | refine RX_seq ?_
    | refine RX_block ?_
    | ((first | refine RX_reg ?_ | refine RX_cond' ?_ | refine RX_draw0 ?_ | refine RX_draw rfl ?_ | refine RX_skip ?_ | refine RX_exit ?_ | refine RX_ret ?_); try (simp only [go_sem, Int.reduceToNat, Nat.reducePow, Int.reduceEq, Int.reduceNe, Int.reduceLT, Int.reduceLE, Nat.reduceAdd, Nat.reduceLeDiff, ↓reduceIte, Nat.reduceLT, Nat.reduceMul, Nat.reduceSub, reduceCtorEq, frzLoc, rowCells, vAppM, beq_iff_eq, bne_iff_ne, bne_self_eq_false, beq_self_eq_true, beq_true, beq_false, I, B, w, List.length_map, Int.ofNat_lt, h1, vf33_res, vf33_keep]))))
      rw [List.drop_eq_nil_of_le (by omega), List.drop_eq_nil_of_le (by omega)]
      rfl
    | succ m ih =>
      intro i hi
      have h1 : i < ts.length := by omega
      have h2 : i < us.length := by omega
      obtain ⟨t, ht⟩ : ∃ t, ts[i]? = some t := ⟨_, List.getElem?_eq_getElem h1⟩
      obtain ⟨u, hu⟩ : ∃ u, us[i]? = some u := ⟨_, List.getElem?_eq_getElem h2⟩
      have hc := e19 n t u (by
        have := List.sizeOf_lt_of_mem (List.mem_of_getElem? ht)
        simp only [Tm.mk.sizeOf_spec] at hn
        omega) (Tm.smalls_mem hs2 (List.mem_of_getElem? ht))
      have hrow : ∀ t : Tm, t.row.length = 3 := fun t => by cases t; rfl
      rw [Tm.eqbs_drop ht hu]
      cases he : t.eqb u with
      | false =>
        rw [he] at hc
        unfold vf33L0
        (repeat (first
    | refine RX_seq ?_
    | refine RX_block ?_
    | ((first | refine RX_reg ?_ | refine RX_cond' ?_ | refine RX_draw0 ?_ | refine RX_draw rfl ?_ | refine RX_skip ?_ | refine RX_exit ?_ | refine RX_ret ?_); try (simp only [go_sem, Int.reduceToNat, Nat.reducePow, Int.reduceEq, Int.reduceNe, Int.reduceLT, Int.reduceLE, Nat.reduceAdd, Nat.reduceLeDiff, ↓reduceIte, Nat.reduceLT, Nat.reduceMul, Nat.reduceSub, reduceCtorEq, frzLoc, rowCells, vAppM, beq_iff_eq, bne_iff_ne, bne_self_eq_false, beq_self_eq_true, beq_true, beq_false, I, B, w, List.length_map, Int.ofNat_lt, h1, h2, List.getElem?_map, ht, hu, vf33_res, vf33_keep, hrow, List.take_of_length_le, erL_d, ltbL_d, hc]))))
        rw [Bool.false_and]
      | true =>
        rw [he] at hc
        unfold vf33L0
        (repeat (first
    | refine RX_seq ?_
    | refine RX_block ?_
    | ((first | refine RX_reg ?_ | refine RX_cond' ?_ | refine RX_draw0 ?_ | refine RX_draw rfl ?_ | refine RX_skip ?_ | refine RX_exit ?_ | refine RX_ret ?_); try (simp only [go_sem, Int.reduceToNat, Nat.reducePow, Int.reduceEq, Int.reduceNe, Int.reduceLT, Int.reduceLE, Nat.reduceAdd, Nat.reduceLeDiff, ↓reduceIte, Nat.reduceLT, Nat.reduceMul, Nat.reduceSub, reduceCtorEq, frzLoc, rowCells, vAppM, beq_iff_eq, bne_iff_ne, bne_self_eq_false, beq_self_eq_true, beq_true, beq_false, I, B, w, List.length_map, Int.ofNat_lt, h1, h2, List.getElem?_map, ht, hu, vf33_res, vf33_keep, hrow, List.take_of_length_le, erL_d, ltbL_d, hc, w_nat (Nat.lt_trans h1 hs1)]))))
        refine RL_head ?_
        (simp only [go_sem, Int.reduceToNat, Nat.reducePow, Int.reduceEq, Int.reduceNe, Int.reduceLT, Int.reduceLE, Nat.reduceAdd, Nat.reduceLeDiff, ↓reduceIte, Nat.reduceLT, Nat.reduceMul, Nat.reduceSub, reduceCtorEq, frzLoc, rowCells, vAppM, beq_iff_eq, bne_iff_ne, bne_self_eq_false, beq_self_eq_true, beq_true, beq_false, I, B, w, St.head, forget, List.length_map, vf33K0, RLK_some])
        exact ih (i + 1) (by omega)
end Go.Proofs.Ytciaehhaglaafaa

namespace Go.Proofs.Ytciaehhaglaafaa
open Go.VM
theorem e26 (ts us : List Tm) (hs1 : ts.length < 1099511627776) (hs2 : Tm.smalls ts) : CV VP 64 [.d (.sl (ts.map Tm.row)), .d (.sl (us.map Tm.row))] [] = some ⟨.d (B (Tm.eqbs ts us)), [], [], 0⟩ := by
  refine CV_run (vf := vf64) rfl rfl ?_
  rw [vf64_start]
  cases hl : ((ts.length : Int) != us.length) with
  | true =>
    have : ts.length ≠ us.length := by
      have : (ts.length : Int) ≠ us.length := by simpa using hl
      omega
    rw [Tm.eqbs_len this]
    (repeat (first
    | refine RX_seq ?_
    | refine RX_block ?_
    | ((first | refine RX_reg ?_ | refine RX_cond' ?_ | refine RX_draw0 ?_ | refine RX_draw rfl ?_ | refine RX_skip ?_ | refine RX_exit ?_ | refine RX_ret ?_); try (simp only [go_sem, Int.reduceToNat, Nat.reducePow, Int.reduceEq, Int.reduceNe, Int.reduceLT, Int.reduceLE, Nat.reduceAdd, Nat.reduceLeDiff, ↓reduceIte, Nat.reduceLT, Nat.reduceMul, Nat.reduceSub, reduceCtorEq, frzLoc, rowCells, vAppM, beq_iff_eq, bne_iff_ne, bne_self_eq_false, beq_self_eq_true, beq_true, beq_false, I, B, w, hl, List.length_map, vf64_res, vf64_keep]))))
  | false =>
  have hlen : ts.length = us.length := by
    have : (ts.length : Int) = us.length := by simpa using hl
    omega
  (repeat (first
    | refine RX_seq ?_
    | refine RX_block ?_
    | ((first | refine RX_reg ?_ | refine RX_cond' ?_ | refine RX_draw0 ?_ | refine RX_draw rfl ?_ | refine RX_skip ?_ | refine RX_exit ?_ | refine RX_ret ?_); try (simp only [go_sem, Int.reduceToNat, Nat.reducePow, Int.reduceEq, Int.reduceNe, Int.reduceLT, Int.reduceLE, Nat.reduceAdd, Nat.reduceLeDiff, ↓reduceIte, Nat.reduceLT, Nat.reduceMul, Nat.reduceSub, reduceCtorEq, frzLoc, rowCells, vAppM, beq_iff_eq, bne_iff_ne, bne_self_eq_false, beq_self_eq_true, beq_true, beq_false, I, B, w, hl, List.length_map]))))
  refine RX_loop ?_
  refine RL_head ?_
  (simp only [go_sem, Int.reduceToNat, Nat.reducePow, Int.reduceEq, Int.reduceNe, Int.reduceLT, Int.reduceLE, Nat.reduceAdd, Nat.reduceLeDiff, ↓reduceIte, Nat.reduceLT, Nat.reduceMul, Nat.reduceSub, reduceCtorEq, frzLoc, rowCells, vAppM, beq_iff_eq, bne_iff_ne, bne_self_eq_false, beq_self_eq_true, beq_true, beq_false, I, B, w, St.head, forget, List.length_map, vf64K0, RLK_some])
  have hret : Tm.eqbs ts us = Tm.eqbs (ts.drop 0) (us.drop 0) := rfl
  rw [hret]
  suffices H : ∀ (m i : Nat), i + m = ts.length → RX VP vf64L0 ⟨(.d (.sl (ts.map Tm.row)) :: .d (.sl (us.map Tm.row)) :: .any :: .any :: .any :: .d (.lit (.int .i64 (i : Int))) :: .any :: .any :: .any :: .any :: .any :: .any :: .any :: .any :: .any :: .any :: .any :: .any :: .any :: .any :: .any :: .any :: .any :: .any :: .any :: .any :: .any :: []), [], [], 0, 0, 0⟩
      (again VP vf64K0 vf64L0 0 (outQ 0 (thn VP ((VCode.reg [{ dst := some 4, op := VOp.mov (VArg.c (V.d (D.lit (Value.bool true)))), guard := none }]).seq VCode.ret)
        (retQ vf64 0 { r := V.d (B (Tm.eqbs (ts.drop i) (us.drop i))), blocks := [], live := [], gn := 0 })))) from H ts.length 0 (Nat.zero_add _)
  intro m
  induction m with
  | zero =>
    intro i hi
    have h1 : ¬ i < ts.length := by omega
    unfold vf64L0
    (repeat (first
    | refine RX_seq ?_
    | refine RX_block ?_
    | ((first | refine RX_reg ?_ | refine RX_cond' ?_ | refine RX_draw0 ?_ | refine RX_draw rfl ?_ | refine RX_skip ?_ | refine RX_exit ?_ | refine RX_ret ?_); try (simp only [go_sem, Int.reduceToNat, Nat.reducePow, Int.reduceEq, Int.reduceNe, Int.reduceLT, Int.reduceLE, Nat.reduceAdd, Nat.reduceLeDiff, ↓reduceIte, Nat.reduceLT, Nat.reduceMul, Nat.reduceSub, reduceCtorEq, frzLoc, rowCells, vAppM, beq_iff_eq, bne_iff_ne, bne_self_eq_false, beq_self_eq_true, beq_true, beq_false, I, B, w, List.length_map, h1, vf64_res, vf64_keep]))))
    rw [List.drop_eq_nil_of_le (by omega), List.drop_eq_nil_of_le (by omega)]
    rfl
  | succ m ih =>
    intro i hi
    have h1 : i < ts.length := by omega
    have h2 : i < us.length := by omega
    obtain ⟨t, ht⟩ : ∃ t, ts[i]? = some t := ⟨_, List.getElem?_eq_getElem h1⟩
    obtain ⟨u, hu⟩ : ∃ u, us[i]? = some u := ⟨_, List.getElem?_eq_getElem h2⟩
    have hc := e19 _ t u (Nat.lt_succ_self _) (Tm.smalls_mem hs2 (List.mem_of_getElem? ht))
    have hrow : ∀ t : Tm, t.row.length = 3 := fun t => by cases t; rfl
    rw [Tm.eqbs_drop ht hu]
    cases he : t.eqb u with
    | false =>
      rw [he] at hc
      unfold vf64L0
      (repeat (first
    | refine RX_seq ?_
    | refine RX_block ?_
    | ((first | refine RX_reg ?_ | refine RX_cond' ?_ | refine RX_draw0 ?_ | refine RX_draw rfl ?_ | refine RX_skip ?_ | refine RX_exit ?_ | refine RX_ret ?_); try (simp only [go_sem, Int.reduceToNat, Nat.reducePow, Int.reduceEq, Int.reduceNe, Int.reduceLT, Int.reduceLE, Nat.reduceAdd, Nat.reduceLeDiff, ↓reduceIte, Nat.reduceLT, Nat.reduceMul, Nat.reduceSub, reduceCtorEq, frzLoc, rowCells, vAppM, beq_iff_eq, bne_iff_ne, bne_self_eq_false, beq_self_eq_true, beq_true, beq_false, I, B, w, List.length_map, h1, h2, List.getElem?_map, ht, hu, vf64_res, vf64_keep, hrow, List.take_of_length_le, erL_d, ltbL_d, hc]))))
      rw [Bool.false_and]
    | true =>
      rw [he] at hc
      unfold vf64L0
      (repeat (first
    | refine RX_seq ?_
    | refine RX_block ?_
    | ((first | refine RX_reg ?_ | refine RX_cond' ?_ | refine RX_draw0 ?_ | refine RX_draw rfl ?_ | refine RX_skip ?_ | refine RX_exit ?_ | refine RX_ret ?_); try (simp only [go_sem, Int.reduceToNat, Nat.reducePow, Int.reduceEq, Int.reduceNe, Int.reduceLT, Int.reduceLE, Nat.reduceAdd, Nat.reduceLeDiff, ↓reduceIte, Nat.reduceLT, Nat.reduceMul, Nat.reduceSub, reduceCtorEq, frzLoc, rowCells, vAppM, beq_iff_eq, bne_iff_ne, bne_self_eq_false, beq_self_eq_true, beq_true, beq_false, I, B, w, List.length_map, h1, h2, List.getElem?_map, ht, hu, vf64_res, vf64_keep, hrow, List.take_of_length_le, erL_d, ltbL_d, hc, w_nat (Nat.lt_trans h1 hs1)]))))
      refine RL_head ?_
      (simp only [go_sem, Int.reduceToNat, Nat.reducePow, Int.reduceEq, Int.reduceNe, Int.reduceLT, Int.reduceLE, Nat.reduceAdd, Nat.reduceLeDiff, ↓reduceIte, Nat.reduceLT, Nat.reduceMul, Nat.reduceSub, reduceCtorEq, frzLoc, rowCells, vAppM, beq_iff_eq, bne_iff_ne, bne_self_eq_false, beq_self_eq_true, beq_true, beq_false, I, B, w, St.head, forget, List.length_map, vf64K0, RLK_some])
      exact ih (i + 1) (by omega)
end Go.Proofs.Ytciaehhaglaafaa

namespace Go.Proofs.Ytciaehhaglaafaa
open Go.VM
def Tm.op : Tm → Int | .mk a _ _ => a
def Tm.val : Tm → Int | .mk _ b _ => b
def Tm.args : Tm → List Tm | .mk _ _ c => c
theorem Tm.op_mk (a b : Int) (c : List Tm) : (Tm.mk a b c).op = a := rfl
theorem Tm.val_mk (a b : Int) (c : List Tm) : (Tm.mk a b c).val = b := rfl
theorem Tm.args_mk (a b : Int) (c : List Tm) : (Tm.mk a b c).args = c := rfl
theorem Tm.row_eq (t : Tm) : t.row = [I t.op, I t.val, .sl (t.args.map Tm.row)] := by cases t; rw [Tm.row, Tm.rows_eq]; rfl
theorem Tm.row_mk (a b : Int) (c : List Tm) : (Tm.mk a b c).row = [I a, I b, .sl (c.map Tm.row)] := by rw [Tm.row, Tm.rows_eq]
abbrev Tm.ag (t : Tm) : V := .agg [.d (I t.op), .d (I t.val), .d (.sl (t.args.map Tm.row))]
theorem Tm.rows3 (ts : List Tm) (h : ts.length ≤ 4294967296) : Rows3 (ts.map Tm.row) :=
  ⟨by simpa using h, by rw [List.all_eq_true]; intro r hr; obtain ⟨t, _, rfl⟩ := List.mem_map.1 hr; rw [Tm.row_eq]; rfl⟩
def nmT (l : List Int) (k : Nat) : Tm := .mk 2 (nmV l k) []
def nmA (l : List Int) (k : Nat) : Nat := nxA l (nxA l k)
/-- a term that is drawn -/
def drT (l : List Int) : Nat → Nat → Tm × Nat
  | 0, k => (.mk (leafO l k) (leafV l k) [], leafA l k)
  | d + 1, k =>
    if nxV l k 12 ≤ 3 then (.mk (leafO l k) (leafV l k) [], leafA l k)
    else if nxV l k 12 ≤ 5 then (.mk 3 0 (drL (drT l d) (nxV l (nxA l k) 4).toNat (nxA l (nxA l k))).1, (drL (drT l d) (nxV l (nxA l k) 4).toNat (nxA l (nxA l k))).2)
    else if nxV l k 12 = 6 then (.mk 4 0 [nmT l (nxA l k)], nmA l (nxA l k))
    else if nxV l k 12 = 7 then (.mk 5 0 [.mk 2 (min (nmV l (nxA l k)) (nmV l (nmA l (nxA l k)))) [], .mk 2 (max (nmV l (nxA l k)) (nmV l (nmA l (nxA l k)))) []], nmA l (nmA l (nxA l k)))
    else if nxV l k 12 = 8 then (.mk 6 (1 + nxV l (nxA l k) 9) [(drT l d (nxA l (nxA l k))).1], (drT l d (nxA l (nxA l k))).2)
    else if nxV l k 12 ≤ 10 then (.mk 7 0 [(drT l d (nxA l k)).1, (drT l d (drT l d (nxA l k)).2).1], (drT l d (drT l d (nxA l k)).2).2)
    else (.mk 8 (nxV l (nxA l k) 3) [(drT l d (nxA l (nxA l k))).1], (drT l d (nxA l (nxA l k))).2)
theorem drL_small {f : Nat → Tm × Nat} (hf : ∀ k, (f k).1.small) : ∀ n k, Tm.smalls (drL f n k).1
  | 0, _ => trivial
  | n + 1, k => ⟨hf k, drL_small hf n _⟩
theorem drT_small {l : List Int} (hB : Bytes l) : ∀ d k, (drT l d k).1.small
  | 0, k => ⟨by simp [List.length_cons], trivial⟩
  | d + 1, k => by
    have ih := drT_small hB d
    rw [drT]
    split
    · exact ⟨by simp [List.length_cons], trivial⟩
    split
    · refine ⟨?_, drL_small ih _ _⟩
      rw [drL_len]
      have := nxV_range hB (k := nxA l k) (n := 4) (by decide)
      omega
    split
    · exact ⟨by simp [List.length_cons], ⟨by simp [List.length_cons], trivial⟩, trivial⟩
    split
    · exact ⟨by simp [List.length_cons], ⟨by simp [List.length_cons], trivial⟩, ⟨by simp [List.length_cons], trivial⟩, trivial⟩
    split
    · exact ⟨by simp [List.length_cons], ih _, trivial⟩
    split
    · exact ⟨by simp [List.length_cons], ih _, ih _, trivial⟩
    · exact ⟨by simp [List.length_cons], ih _, trivial⟩
end Go.Proofs.Ytciaehhaglaafaa

namespace Go.Proofs.Ytciaehhaglaafaa
open Go.VM
theorem L32 {l : List Int} {d id n bs : Nat} {bl : List (List V)} {dv : Int} {own : List (List V)} {Q : VExit → St → Prop} (h : CtxOk bl id) (hbs : (bs = 0) = False) (ho : own = [[.d (I 0), .d (I 0), .d (.sl [])]]) (hn : n = bl.length + 1) (hdv : IntKind.i64.wrap (dv - 1) = ((d + 1 : Nat) : Int))
    (cT : ∀ (k : Nat) (own : List (List V)), own.map V.erL = own → own.all (V.ltbL (bl.length + own.length)) = true → CV VP 20 [.ptr id 0, .d (I ((d + 1 : Nat) : Int))] (cx bl id l (k : Nat) own) = some ⟨(drT l d k).1.ag, cx bl id l ((drT l d k).2 : Nat) own, [], 0⟩) :
    ∀ (m k : Nat) (rows : List (List D)) (v : V) (live : List Nat) (gn : Nat), Acc 3 v live rows → rows.length + m < 1000 →
      (∀ v live gn, Acc 3 v live (rows ++ (drL (drT l d) m k).1.map Tm.row) → Q (.exit 1) ⟨(.ptr id 0 :: .d (I dv) :: .any :: .any :: .ptr bl.length 0 :: .any :: v :: .d (I 0) :: .any :: .any :: .any :: .any :: .any :: .any :: .any :: .any :: .any :: .any :: .any :: .any :: .any :: .any :: .any :: .any :: .any :: .any :: .any :: .any :: .any :: .any :: .any :: .any :: .any :: .any :: .any :: .any :: .any :: .any :: .any :: .any :: .any :: .d (I 0) :: .d (B false) :: .any :: .any :: .any :: .any :: .any :: .any :: .any :: .any :: .any :: .any :: .any :: .any :: .any :: .any :: .any :: .any :: .any :: .any :: .any :: .any :: .any :: .any :: .any :: .any :: .any :: .any :: .any :: .any :: .any :: .any :: .any :: .any :: .any :: .any :: .any :: .any :: .any :: .any :: .any :: .any :: .any :: .any :: .any :: .any :: .any :: .any :: .any :: .any :: .any :: .any :: .any :: .any :: .any :: .any :: .any :: .any :: .any :: .any :: []), cx bl id l ((drL (drT l d) m k).2 : Nat) own, live, gn, bs, 0⟩) →
      RX VP vf20L0 ⟨(.ptr id 0 :: .d (I dv) :: .any :: .any :: .ptr bl.length 0 :: .any :: v :: .d (I (m : Nat)) :: .any :: .any :: .any :: .any :: .any :: .any :: .any :: .any :: .any :: .any :: .any :: .any :: .any :: .any :: .any :: .any :: .any :: .any :: .any :: .any :: .any :: .any :: .any :: .any :: .any :: .any :: .any :: .any :: .any :: .any :: .any :: .any :: .any :: .any :: .any :: .any :: .any :: .any :: .any :: .any :: .any :: .any :: .any :: .any :: .any :: .any :: .any :: .any :: .any :: .any :: .any :: .any :: .any :: .any :: .any :: .any :: .any :: .any :: .any :: .any :: .any :: .any :: .any :: .any :: .any :: .any :: .any :: .any :: .any :: .any :: .any :: .any :: .any :: .any :: .any :: .any :: .any :: .any :: .any :: .any :: .any :: .any :: .any :: .any :: .any :: .any :: .any :: .any :: .any :: .any :: .any :: .any :: .any :: []), cx bl id l (k : Nat) own, live, gn, bs, 0⟩ (again VP vf20K0 vf20L0 n Q) := by
  subst ho
  subst hn
  have hid : id < bl.length + 1 := Nat.lt_succ_of_lt h.lt
  have hb1 : bl.length < bl.length + 1 := Nat.lt_succ_self _
  intro m
  induction m with
  | zero =>
    intro k rows v live gn hv hl hQ
    refine vf20L0_go ?_
    simp only [drL, List.map_nil, List.append_nil] at hQ
    (repeat (first
    | refine RX_seq ?_
    | refine RX_block ?_
    | ((first | refine RX_reg ?_ | refine RX_cond' ?_ | refine RX_draw0 ?_ | refine RX_draw rfl ?_ | refine RX_skip ?_ | refine RX_exit ?_ | refine RX_ret ?_); try (simp only [go_sem, Int.reduceToNat, Nat.reducePow, Int.reduceEq, Int.reduceNe, Int.reduceLT, Int.reduceLE, Nat.reduceAdd, Nat.reduceLeDiff, ↓reduceIte, Nat.reduceLT, Nat.reduceMul, Nat.reduceSub, reduceCtorEq, frzLoc, rowCells, vAppM, beq_iff_eq, bne_iff_ne, bne_self_eq_false, beq_self_eq_true, beq_true, beq_false, I, B, w, vf20_res, vf20_keep, gt_iff_lt]))))
    exact hQ _ _ _ hv
  | succ m ih =>
    intro k rows v live gn hv hl hQ
    have hm : (0 : Int) < ((m + 1 : Nat) : Int) := by omega
    have hwm : IntKind.i64.wrap (((m + 1 : Nat) : Int) - 1) = (m : Int) := by rw [w_in (by omega) (by omega)]; omega
    have hrl : rows.length + 1 ≤ 4294967296 := by omega
    have hrl2 : rows.length + 1 ≤ appBound := by unfold appBound; omega
    have hrow : Tm.row (drT l d k).1 = [I (drT l d k).1.op, I (drT l d k).1.val, .sl ((drT l d k).1.args.map Tm.row)] := Tm.row_eq _
    rcases hv with ⟨rfl, rfl, rfl⟩ | ⟨g, rfl, rfl⟩
    · refine vf20L0_go ?_
      (repeat (first
    | refine RX_seq ?_
    | refine RX_block ?_
    | ((first | refine RX_reg ?_ | refine RX_cond' ?_ | refine RX_draw0 ?_ | refine RX_draw rfl ?_ | refine RX_skip ?_ | refine RX_exit ?_ | refine RX_ret ?_); try (simp only [go_sem, Int.reduceToNat, Nat.reducePow, Int.reduceEq, Int.reduceNe, Int.reduceLT, Int.reduceLE, Nat.reduceAdd, Nat.reduceLeDiff, ↓reduceIte, Nat.reduceLT, Nat.reduceMul, Nat.reduceSub, reduceCtorEq, frzLoc, rowCells, vAppM, beq_iff_eq, bne_iff_ne, bne_self_eq_false, beq_self_eq_true, beq_true, beq_false, I, B, w, cx_len, cx_app, cx_own0, cx_own, cx_setOwn0, cx_setOwn, cx_take, cx_takeN, Nat.add_right_cancel_iff, Nat.lt_irrefl, cx_nlt, Nat.not_lt_zero, cx_get' h, cx_setId' h, cx_er h, cx_all0 h, cx_all h, CtxOk.lt h, CtxOk.ne0 h, vf20_res, vf20_keep, gt_iff_lt, hm, hwm, hdv, cT, hid, hb1, hbs]))))
      refine RL_head ?_
      (simp only [go_sem, Int.reduceToNat, Nat.reducePow, Int.reduceEq, Int.reduceNe, Int.reduceLT, Int.reduceLE, Nat.reduceAdd, Nat.reduceLeDiff, ↓reduceIte, Nat.reduceLT, Nat.reduceMul, Nat.reduceSub, reduceCtorEq, frzLoc, rowCells, vAppM, beq_iff_eq, bne_iff_ne, bne_self_eq_false, beq_self_eq_true, beq_true, beq_false, I, B, w, St.head, forget, vf20K0, RLK_some, cx_len, cx_app, cx_own0, cx_own, cx_setOwn0, cx_setOwn, cx_take, cx_takeN, Nat.add_right_cancel_iff, Nat.lt_irrefl, cx_nlt, Nat.not_lt_zero, cx_get' h, cx_setId' h, cx_er h, cx_all0 h, cx_all h, CtxOk.lt h, CtxOk.ne0 h, hid, hb1])
      refine ih (drT l d k).2 [[I (drT l d k).1.op, I (drT l d k).1.val, .sl ((drT l d k).1.args.map Tm.row)]] (.sl 3 [[I (drT l d k).1.op, I (drT l d k).1.val, .sl ((drT l d k).1.args.map Tm.row)]] (.own 0 gn)) [gn] (gn + 1) (.inr ⟨_, rfl, rfl⟩) (by simp; omega) fun v live gn hv => ?_
      refine hQ v live gn ?_
      simp only [drL, List.map_cons, hrow]
      exact hv
    · refine vf20L0_go ?_
      (repeat (first
    | refine RX_seq ?_
    | refine RX_block ?_
    | ((first | refine RX_reg ?_ | refine RX_cond' ?_ | refine RX_draw0 ?_ | refine RX_draw rfl ?_ | refine RX_skip ?_ | refine RX_exit ?_ | refine RX_ret ?_); try (simp only [go_sem, Int.reduceToNat, Nat.reducePow, Int.reduceEq, Int.reduceNe, Int.reduceLT, Int.reduceLE, Nat.reduceAdd, Nat.reduceLeDiff, ↓reduceIte, Nat.reduceLT, Nat.reduceMul, Nat.reduceSub, reduceCtorEq, frzLoc, rowCells, vAppM, beq_iff_eq, bne_iff_ne, bne_self_eq_false, beq_self_eq_true, beq_true, beq_false, I, B, w, cx_len, cx_app, cx_own0, cx_own, cx_setOwn0, cx_setOwn, cx_take, cx_takeN, Nat.add_right_cancel_iff, Nat.lt_irrefl, cx_nlt, Nat.not_lt_zero, cx_get' h, cx_setId' h, cx_er h, cx_all0 h, cx_all h, CtxOk.lt h, CtxOk.ne0 h, vf20_res, vf20_keep, gt_iff_lt, hm, hwm, hdv, cT, hid, hb1, hbs, hrl]))))
      refine RL_head ?_
      (simp only [go_sem, Int.reduceToNat, Nat.reducePow, Int.reduceEq, Int.reduceNe, Int.reduceLT, Int.reduceLE, Nat.reduceAdd, Nat.reduceLeDiff, ↓reduceIte, Nat.reduceLT, Nat.reduceMul, Nat.reduceSub, reduceCtorEq, frzLoc, rowCells, vAppM, beq_iff_eq, bne_iff_ne, bne_self_eq_false, beq_self_eq_true, beq_true, beq_false, I, B, w, St.head, forget, vf20K0, RLK_some, cx_len, cx_app, cx_own0, cx_own, cx_setOwn0, cx_setOwn, cx_take, cx_takeN, Nat.add_right_cancel_iff, Nat.lt_irrefl, cx_nlt, Nat.not_lt_zero, cx_get' h, cx_setId' h, cx_er h, cx_all0 h, cx_all h, CtxOk.lt h, CtxOk.ne0 h, hid, hb1])
      refine ih (drT l d k).2 (rows ++ [[I (drT l d k).1.op, I (drT l d k).1.val, .sl ((drT l d k).1.args.map Tm.row)]]) (.sl 3 (rows ++ [[I (drT l d k).1.op, I (drT l d k).1.val, .sl ((drT l d k).1.args.map Tm.row)]]) (.own 0 gn)) [gn] (gn + 1) (.inr ⟨_, rfl, rfl⟩) (by simp; omega) fun v live gn hv => ?_
      refine hQ v live gn ?_
      simp only [drL, List.map_cons, hrow]
      simpa using hv
end Go.Proofs.Ytciaehhaglaafaa

namespace Go.Proofs.Ytciaehhaglaafaa
open Go.VM
set_option maxHeartbeats 2000000 in
theorem e32b {l : List Int} (hB : Bytes l) : ∀ (d : Nat), d < 100 → ∀ (id k : Nat) bl, CtxOk bl id →
    CV VP 20 [.ptr id 0, .d (I ((d + 1 : Nat) : Int))] (cx bl id l (k : Nat) []) = some ⟨(drT l d k).1.ag, cx bl id l ((drT l d k).2 : Nat) [], [], 0⟩
  | 0, _, id, k, bl, h => e32_1b hB id k bl h
  | d + 1, hd, id, k, bl, h => by
    have ih := e32b hB d (by omega)
    have cN : ∀ (n : Int), 0 < n → n ≤ 256 → ∀ (k : Nat) (own : List (List V)), own.map V.erL = own → own.all (V.ltbL (bl.length + own.length)) = true → CV VP 22 [.ptr id 0, .d (I n)] (cx bl id l (k : Nat) own) = some ⟨.d (I (nxV l k n)), cx bl id l (nxA l k : Nat) own, [], 0⟩ := fun n h1 h2 k own => e29 hB h h1 h2
    have c12 := cN 12 (by decide) (by decide)
    have c9 := cN 9 (by decide) (by decide)
    have c6 := cN 6 (by decide) (by decide)
    have c4 := cN 4 (by decide) (by decide)
    have c3 := cN 3 (by decide) (by decide)
    have cM : ∀ (k : Nat) (own : List (List V)), own.map V.erL = own → own.all (V.ltbL (bl.length + own.length)) = true → CV VP 41 [.ptr id 0] (cx bl id l (k : Nat) own) = some ⟨.agg [.d (I 2), .d (I (nmV l k)), .d (.sl [])], cx bl id l (nmA l k : Nat) own, [], 0⟩ := fun k own => cx_lift (e68b hB id k) h
    have cT : ∀ (k : Nat) (own : List (List V)), own.map V.erL = own → own.all (V.ltbL (bl.length + own.length)) = true → CV VP 20 [.ptr id 0, .d (I ((d + 1 : Nat) : Int))] (cx bl id l (k : Nat) own) = some ⟨(drT l d k).1.ag, cx bl id l ((drT l d k).2 : Nat) own, [], 0⟩ := fun k own => cx_lift (ih id k) h
    have r := nxV_range hB (k := k) (n := 12) (by decide)
    have r9 := nxV_range hB (k := nxA l k) (n := 9) (by decide)
    have r4 := nxV_range hB (k := nxA l k) (n := 4) (by decide)
    have hv : nxV l k 12 = 0 ∨ nxV l k 12 = 1 ∨ nxV l k 12 = 2 ∨ nxV l k 12 = 3 ∨ (nxV l k 12 = 4 ∨ nxV l k 12 = 5) ∨ nxV l k 12 = 6 ∨ nxV l k 12 = 7 ∨ nxV l k 12 = 8 ∨ nxV l k 12 = 9 ∨ nxV l k 12 = 10 ∨ nxV l k 12 = 11 := by omega
    have hwd : IntKind.i64.wrap (((d + 1 + 1 : Nat) : Int) - 1) = ((d + 1 : Nat) : Int) := by rw [w_in (by omega) (by omega)]; omega
    have hd1 : ¬ (((d + 1 + 1 : Nat) : Int) ≤ 1) := by omega
    have w9 : IntKind.i64.wrap (1 + nxV l (nxA l k) 9) = 1 + nxV l (nxA l k) 9 := w_in (by omega) (by omega)
    have hid : id < bl.length + 1 := Nat.lt_succ_of_lt h.lt
    have hb1 : bl.length < bl.length + 1 := Nat.lt_succ_self _
    have hr1 : ∀ a b c, Rows3 [[a, b, c]] := fun a b c => ⟨by simp, rfl⟩
    clear r cN ih
    refine CV_run (vf := vf20) rfl rfl ?_
    rw [vf20_start]
    rcases hv with hv | hv | hv | hv | hv | hv | hv | hv | hv | hv | hv
    case inr.inr.inr.inr.inl =>
      obtain ⟨m, hm⟩ : ∃ m : Nat, nxV l (nxA l k) 4 = (m : Int) := ⟨_, (Int.toNat_of_nonneg r4.1).symm⟩
      have hm4 : m < 4 := by omega
      have hT : drT l (d + 1) k = (.mk 3 0 (drL (drT l d) m (nxA l (nxA l k))).1, (drL (drT l d) m (nxA l (nxA l k))).2) := by
        rw [drT, hm, Int.toNat_natCast, if_neg (by rcases hv with hv | hv <;> rw [hv] <;> decide), if_pos (by rcases hv with hv | hv <;> rw [hv] <;> decide)]
      rw [hT]
      have hrows := Tm.rows3 (drL (drT l d) m (nxA l (nxA l k))).1 (by rw [drL_len]; omega)
      rcases hv with hv | hv <;>
      · simp only [Tm.ag, Tm.op, Tm.val, Tm.args]
        (repeat (first
    | refine RX_seq ?_
    | refine RX_block ?_
    | ((first | refine RX_reg ?_ | refine RX_cond' ?_ | refine RX_draw0 ?_ | refine RX_draw rfl ?_ | refine RX_skip ?_ | refine RX_exit ?_ | refine RX_ret ?_); try (simp only [go_sem, Int.reduceToNat, Nat.reducePow, Int.reduceEq, Int.reduceNe, Int.reduceLT, Int.reduceLE, Nat.reduceAdd, Nat.reduceLeDiff, ↓reduceIte, Nat.reduceLT, Nat.reduceMul, Nat.reduceSub, reduceCtorEq, frzLoc, rowCells, vAppM, beq_iff_eq, bne_iff_ne, bne_self_eq_false, beq_self_eq_true, beq_true, beq_false, I, B, w, vf20_res, vf20_keep, cx_len, cx_app, cx_own0, cx_own, cx_setOwn0, cx_setOwn, cx_take, cx_takeN, Nat.add_right_cancel_iff, Nat.lt_irrefl, cx_nlt, Nat.not_lt_zero, cx_get' h, cx_setId' h, cx_er h, cx_all0 h, cx_all h, CtxOk.lt h, CtxOk.ne0 h, c12, hv, gt_iff_lt, hd1, c4, hm]))))
        refine RX_loop ?_
        refine RL_head ?_
        (simp only [go_sem, Int.reduceToNat, Nat.reducePow, Int.reduceEq, Int.reduceNe, Int.reduceLT, Int.reduceLE, Nat.reduceAdd, Nat.reduceLeDiff, ↓reduceIte, Nat.reduceLT, Nat.reduceMul, Nat.reduceSub, reduceCtorEq, frzLoc, rowCells, vAppM, beq_iff_eq, bne_iff_ne, bne_self_eq_false, beq_self_eq_true, beq_true, beq_false, I, B, w, St.head, forget, vf20K0, RLK_some, cx_len, cx_app, cx_own0, cx_own, cx_setOwn0, cx_setOwn, cx_take, cx_takeN, Nat.add_right_cancel_iff, Nat.lt_irrefl, cx_nlt, Nat.not_lt_zero, cx_get' h, cx_setId' h, cx_er h, cx_all0 h, cx_all h, CtxOk.lt h, CtxOk.ne0 h, hid, hb1])
        refine L32 h (CtxOk.ne0 h) rfl rfl hwd cT m _ [] .nil [] _ (.inl ⟨rfl, rfl, rfl⟩) (by simp; omega) fun v live gn hacc => ?_
        rcases hacc with ⟨rfl, rfl, hn⟩ | ⟨g, rfl, rfl⟩
        · rw [List.nil_append] at hn
          rw [hn] at hrows ⊢
          (repeat (first
    | refine RX_seq ?_
    | refine RX_block ?_
    | ((first | refine RX_reg ?_ | refine RX_cond' ?_ | refine RX_draw0 ?_ | refine RX_draw rfl ?_ | refine RX_skip ?_ | refine RX_exit ?_ | refine RX_ret ?_); try (simp only [go_sem, Int.reduceToNat, Nat.reducePow, Int.reduceEq, Int.reduceNe, Int.reduceLT, Int.reduceLE, Nat.reduceAdd, Nat.reduceLeDiff, ↓reduceIte, Nat.reduceLT, Nat.reduceMul, Nat.reduceSub, reduceCtorEq, frzLoc, rowCells, vAppM, beq_iff_eq, bne_iff_ne, bne_self_eq_false, beq_self_eq_true, beq_true, beq_false, I, B, w, vf20_res, vf20_keep, cx_len, cx_app, cx_own0, cx_own, cx_setOwn0, cx_setOwn, cx_take, cx_takeN, Nat.add_right_cancel_iff, Nat.lt_irrefl, cx_nlt, Nat.not_lt_zero, cx_get' h, cx_setId' h, cx_er h, cx_all0 h, cx_all h, CtxOk.lt h, CtxOk.ne0 h, e33 hrows]))))
        · (repeat (first
    | refine RX_seq ?_
    | refine RX_block ?_
    | ((first | refine RX_reg ?_ | refine RX_cond' ?_ | refine RX_draw0 ?_ | refine RX_draw rfl ?_ | refine RX_skip ?_ | refine RX_exit ?_ | refine RX_ret ?_); try (simp only [go_sem, Int.reduceToNat, Nat.reducePow, Int.reduceEq, Int.reduceNe, Int.reduceLT, Int.reduceLE, Nat.reduceAdd, Nat.reduceLeDiff, ↓reduceIte, Nat.reduceLT, Nat.reduceMul, Nat.reduceSub, reduceCtorEq, frzLoc, rowCells, vAppM, beq_iff_eq, bne_iff_ne, bne_self_eq_false, beq_self_eq_true, beq_true, beq_false, I, B, w, vf20_res, vf20_keep, cx_len, cx_app, cx_own0, cx_own, cx_setOwn0, cx_setOwn, cx_take, cx_takeN, Nat.add_right_cancel_iff, Nat.lt_irrefl, cx_nlt, Nat.not_lt_zero, cx_get' h, cx_setId' h, cx_er h, cx_all0 h, cx_all h, CtxOk.lt h, CtxOk.ne0 h, e33 hrows]))))
    all_goals
      simp only [drT, leafO, leafV, leafA, nmT, nmA, hv, Int.reduceMod, Int.reduceEq, Int.reduceLE, if_true, if_false, Tm.ag, Tm.op_mk, Tm.val_mk, Tm.args_mk, List.map_cons, List.map_nil, Tm.row_mk, Tm.row_eq (drT l d _).1]
      (repeat (first
    | refine RX_seq ?_
    | refine RX_block ?_
    | ((first | refine RX_reg ?_ | refine RX_cond' ?_ | refine RX_draw0 ?_ | refine RX_draw rfl ?_ | refine RX_skip ?_ | refine RX_exit ?_ | refine RX_ret ?_); try (simp only [go_sem, Int.reduceToNat, Nat.reducePow, Int.reduceEq, Int.reduceNe, Int.reduceLT, Int.reduceLE, Nat.reduceAdd, Nat.reduceLeDiff, ↓reduceIte, Nat.reduceLT, Nat.reduceMul, Nat.reduceSub, reduceCtorEq, frzLoc, rowCells, vAppM, beq_iff_eq, bne_iff_ne, bne_self_eq_false, beq_self_eq_true, beq_true, beq_false, I, B, w, vf20_res, vf20_keep, cx_len, cx_app, cx_own0, cx_own, cx_setOwn0, cx_setOwn, cx_take, cx_takeN, Nat.add_right_cancel_iff, Nat.lt_irrefl, cx_nlt, Nat.not_lt_zero, cx_get' h, cx_setId' h, cx_er h, cx_all0 h, cx_all h, CtxOk.lt h, CtxOk.ne0 h, c12, c9, c6, c4, c3, cM, cT, hv, e76, e77, e78n, e79 _ (hr1 _ _ _), e80, e57, gt_iff_lt, Int.reduceTMod, hd1, hwd, w9, hid, hb1, nmA]))))
end Go.Proofs.Ytciaehhaglaafaa

namespace Go.Proofs.Ytciaehhaglaafaa
open Go.VM
theorem e103 {rows : List (List D)} (h : Rows3 rows) : CV VP 141 [.d (.sl rows)] [] = some ⟨.d (.sl rows), [], [], 0⟩ := by
  cases rows with
  | nil => exact vf141_cnil
  | cons r rs =>
    refine CV_run (vf := vf141) rfl rfl ?_
    rw [vf141_start]
    have h1 := h.1
    have h2 := h.2
    simp only [List.length_cons, List.all_cons] at h1 h2
    (repeat (first
    | refine RX_seq ?_
    | refine RX_block ?_
    | ((first | refine RX_reg ?_ | refine RX_cond' ?_ | refine RX_draw0 ?_ | refine RX_draw rfl ?_ | refine RX_skip ?_ | refine RX_exit ?_ | refine RX_ret ?_); try (simp only [go_sem, Int.reduceToNat, Nat.reducePow, Int.reduceEq, Int.reduceNe, Int.reduceLT, Int.reduceLE, Nat.reduceAdd, Nat.reduceLeDiff, ↓reduceIte, Nat.reduceLT, Nat.reduceMul, Nat.reduceSub, reduceCtorEq, frzLoc, rowCells, vAppM, beq_iff_eq, bne_iff_ne, bne_self_eq_false, beq_self_eq_true, beq_true, beq_false, I, B, w, vf141_res, vf141_keep, h1, h2]))))
theorem e71 {rows : List (List D)} (h : Rows3 rows) : CV VP 67 [.d (.sl rows)] [] = some ⟨.agg [.d (I 3), .d (I 0), .d (.sl rows)], [], [], 0⟩ := by
  refine CV_run (vf := vf67) rfl rfl ?_
  rw [vf67_start]
  (repeat (first
    | refine RX_seq ?_
    | refine RX_block ?_
    | ((first | refine RX_reg ?_ | refine RX_cond' ?_ | refine RX_draw0 ?_ | refine RX_draw rfl ?_ | refine RX_skip ?_ | refine RX_exit ?_ | refine RX_ret ?_); try (simp only [go_sem, Int.reduceToNat, Nat.reducePow, Int.reduceEq, Int.reduceNe, Int.reduceLT, Int.reduceLE, Nat.reduceAdd, Nat.reduceLeDiff, ↓reduceIte, Nat.reduceLT, Nat.reduceMul, Nat.reduceSub, reduceCtorEq, frzLoc, rowCells, vAppM, beq_iff_eq, bne_iff_ne, bne_self_eq_false, beq_self_eq_true, beq_true, beq_false, I, B, w, vf67_res, vf67_keep, e103 h]))))
theorem e24 (n : Int) (ts : List Tm) (h : ts.length < 1000000) : CV VP 91 [.d (I n), .d (.sl (ts.map Tm.row))] [] = some ⟨(Tm.mk 3 0 (.mk 1 n [] :: ts)).ag, [], [], 0⟩ := by
  refine CV_run (vf := vf91) rfl rfl ?_
  rw [vf91_start]
  have h1 := Tm.rows3 (.mk 1 n [] :: ts) (by simp only [List.length_cons]; omega)
  have h2 := Tm.rows3 ts (by omega)
  have h3 := h2.2
  have h4 : ts.length + 1 ≤ 4294967296 := by omega
  simp only [List.map_cons, Tm.row_mk, List.map_nil] at h1
  have hr : (Tm.mk 3 0 (.mk 1 n [] :: ts)).ag = .agg [.d (I 3), .d (I 0), .d (.sl ([I 1, I n, .sl []] :: ts.map Tm.row))] := by
    simp only [Tm.ag, Tm.op_mk, Tm.val_mk, Tm.args_mk, List.map_cons, Tm.row_mk, List.map_nil]
  rw [hr]
  have h5 : 1 + ts.length ≤ 4294967296 := by omega
  (repeat (first
    | refine RX_seq ?_
    | refine RX_block ?_
    | ((first | refine RX_reg ?_ | refine RX_cond' ?_ | refine RX_draw0 ?_ | refine RX_draw rfl ?_ | refine RX_skip ?_ | refine RX_exit ?_ | refine RX_ret ?_); try (simp only [go_sem, Int.reduceToNat, Nat.reducePow, Int.reduceEq, Int.reduceNe, Int.reduceLT, Int.reduceLE, Nat.reduceAdd, Nat.reduceLeDiff, ↓reduceIte, Nat.reduceLT, Nat.reduceMul, Nat.reduceSub, reduceCtorEq, frzLoc, rowCells, vAppM, beq_iff_eq, bne_iff_ne, bne_self_eq_false, beq_self_eq_true, beq_true, beq_false, I, B, w, vf91_res, vf91_keep, e72, h3, h4, h5, List.length_map, e71 h1]))))
end Go.Proofs.Ytciaehhaglaafaa

namespace Go.Proofs.Ytciaehhaglaafaa
open Go.VM
/-- a list of terms that is drawn -/
def drS (l : List Int) (most : Int) (d k : Nat) : List Tm × Nat := drL (drT l d) (nxV l k (most + 1)).toNat (nxA l k)
theorem e22b {l : List Int} (hB : Bytes l) (most : Int) (h1 : 0 ≤ most) (h2 : most < 256) (d : Nat) (hd : d < 100) (id k : Nat) : ∀ bl, CtxOk bl id →
    CV VP 61 [.ptr id 0, .d (I most), .d (I ((d + 1 : Nat) : Int))] (cx bl id l (k : Nat) []) = some ⟨.d (.sl ((drS l most d k).1.map Tm.row)), cx bl id l ((drS l most d k).2 : Nat) [], [], 0⟩ := by
  intro bl h
  have cN : ∀ (k : Nat) (own : List (List V)), own.map V.erL = own → own.all (V.ltbL (bl.length + own.length)) = true → CV VP 22 [.ptr id 0, .d (I (most + 1))] (cx bl id l (k : Nat) own) = some ⟨.d (I (nxV l k (most + 1))), cx bl id l (nxA l k : Nat) own, [], 0⟩ := fun k own => e29 hB h (by omega) (by omega)
  have cT : ∀ (k : Nat) (own : List (List V)), own.map V.erL = own → own.all (V.ltbL (bl.length + own.length)) = true → CV VP 20 [.ptr id 0, .d (I ((d + 1 : Nat) : Int))] (cx bl id l (k : Nat) own) = some ⟨(drT l d k).1.ag, cx bl id l ((drT l d k).2 : Nat) own, [], 0⟩ := fun k own => cx_lift (e32b hB d hd id k) h
  have cN0 := cN k [] rfl rfl
  have cT0 := fun k => cT k [] rfl rfl
  clear cN cT
  have r := nxV_range hB (k := k) (n := most + 1) (by omega)
  have wm : IntKind.i64.wrap (most + 1) = most + 1 := w_in (by omega) (by omega)
  obtain ⟨M, hM⟩ : ∃ M : Nat, nxV l k (most + 1) = (M : Int) := ⟨_, (Int.toNat_of_nonneg r.1).symm⟩
  have hM2 : M < 256 := by omega
  have hdr : drS l most d k = drL (drT l d) M (nxA l k) := by rw [drS, hM, Int.toNat_natCast]
  rw [hdr]
  generalize hT : drL (drT l d) M (nxA l k) = T
  refine CV_run (vf := vf61) rfl rfl ?_
  rw [vf61_start]
  (repeat (first
    | refine RX_seq ?_
    | refine RX_block ?_
    | ((first | refine RX_reg ?_ | refine RX_cond' ?_ | refine RX_draw0 ?_ | refine RX_draw rfl ?_ | refine RX_skip ?_ | refine RX_exit ?_ | refine RX_ret ?_); try (simp only [go_sem, Int.reduceToNat, Nat.reducePow, Int.reduceEq, Int.reduceNe, Int.reduceLT, Int.reduceLE, Nat.reduceAdd, Nat.reduceLeDiff, ↓reduceIte, Nat.reduceLT, Nat.reduceMul, Nat.reduceSub, reduceCtorEq, frzLoc, rowCells, vAppM, beq_iff_eq, bne_iff_ne, bne_self_eq_false, beq_self_eq_true, beq_true, beq_false, I, B, w, vf61_res, vf61_keep, cx_len, cx_app, cx_own0, cx_own, cx_setOwn0, cx_setOwn, cx_take, cx_takeN, Nat.add_right_cancel_iff, Nat.lt_irrefl, cx_nlt, Nat.not_lt_zero, cx_get' h, cx_setId' h, cx_er h, cx_all0 h, cx_all h, CtxOk.lt h, CtxOk.ne0 h, wm, cN0, hM]))))
  refine RX_loopN (n := bl.length) (by simp [cx_len]) ?_
  refine RL_ind (fun m st => ∃ (k : Nat) (rows : List (List D)) (v : V) (live : List Nat) (gn : Nat), Acc 3 v live rows ∧ rows.length + m < 1000 ∧ rows ++ (drL (drT l d) m k).1.map Tm.row = T.1.map Tm.row ∧ (drL (drT l d) m k).2 = T.2 ∧
    At vf61K0 bl.length st ((.ptr id 0 :: .any :: .d (I ((d + 1 : Nat) : Int)) :: .any :: .any :: .any :: .any :: v :: .d (I (m : Nat)) :: .any :: .any :: .any :: .any :: .any :: .any :: .any :: .any :: .any :: .any :: .any :: .any :: .any :: .any :: .any :: [])) (cx bl id l (k : Nat) []) live gn bl.length) ?_ M _ ⟨nxA l k, [], .nil, [], 0, .inl ⟨rfl, rfl, rfl⟩, by simp; omega, by rw [hT]; rfl, by rw [hT], rfl, by simp only [cx_take], rfl, rfl, by simp [cx_len], rfl⟩
  rintro m st ⟨k, rows, v, live, gn, hv, hl, hrows, hend, hat⟩ ih
  cases m with
  | zero =>
    simp only [drL, List.map_nil, List.append_nil] at hrows hend
    rw [← hrows, ← hend]
    rcases hv with ⟨rfl, rfl, rfl⟩ | ⟨g, rfl, rfl⟩ <;>
    · refine RL_at hat (by (simp only [go_sem, Int.reduceToNat, Nat.reducePow, Int.reduceEq, Int.reduceNe, Int.reduceLT, Int.reduceLE, Nat.reduceAdd, Nat.reduceLeDiff, ↓reduceIte, Nat.reduceLT, Nat.reduceMul, Nat.reduceSub, reduceCtorEq, frzLoc, rowCells, vAppM, beq_iff_eq, bne_iff_ne, bne_self_eq_false, beq_self_eq_true, beq_true, beq_false, I, B, w, cx_len, cx_app, cx_own0, cx_own, cx_setOwn0, cx_setOwn, cx_take, cx_takeN, Nat.add_right_cancel_iff, Nat.lt_irrefl, cx_nlt, Nat.not_lt_zero, cx_get' h, cx_setId' h, cx_er h, cx_all0 h, cx_all h, CtxOk.lt h, CtxOk.ne0 h])) (by (simp only [go_sem, Int.reduceToNat, Nat.reducePow, Int.reduceEq, Int.reduceNe, Int.reduceLT, Int.reduceLE, Nat.reduceAdd, Nat.reduceLeDiff, ↓reduceIte, Nat.reduceLT, Nat.reduceMul, Nat.reduceSub, reduceCtorEq, frzLoc, rowCells, vAppM, beq_iff_eq, bne_iff_ne, bne_self_eq_false, beq_self_eq_true, beq_true, beq_false, I, B, w, cx_len, cx_app, cx_own0, cx_own, cx_setOwn0, cx_setOwn, cx_take, cx_takeN, Nat.add_right_cancel_iff, Nat.lt_irrefl, cx_nlt, Nat.not_lt_zero, cx_get' h, cx_setId' h, cx_er h, cx_all0 h, cx_all h, CtxOk.lt h, CtxOk.ne0 h])) (vf61L0_go ?_)
      (repeat (first
    | refine RX_seq ?_
    | refine RX_block ?_
    | ((first | refine RX_reg ?_ | refine RX_cond' ?_ | refine RX_draw0 ?_ | refine RX_draw rfl ?_ | refine RX_skip ?_ | refine RX_exit ?_ | refine RX_ret ?_); try (simp only [go_sem, Int.reduceToNat, Nat.reducePow, Int.reduceEq, Int.reduceNe, Int.reduceLT, Int.reduceLE, Nat.reduceAdd, Nat.reduceLeDiff, ↓reduceIte, Nat.reduceLT, Nat.reduceMul, Nat.reduceSub, reduceCtorEq, frzLoc, rowCells, vAppM, beq_iff_eq, bne_iff_ne, bne_self_eq_false, beq_self_eq_true, beq_true, beq_false, I, B, w, vf61_res, vf61_keep, cx_len, cx_app, cx_own0, cx_own, cx_setOwn0, cx_setOwn, cx_take, cx_takeN, Nat.add_right_cancel_iff, Nat.lt_irrefl, cx_nlt, Nat.not_lt_zero, cx_get' h, cx_setId' h, cx_er h, cx_all0 h, cx_all h, CtxOk.lt h, CtxOk.ne0 h, gt_iff_lt]))))
  | succ m =>
    have hm : (0 : Int) < ((m + 1 : Nat) : Int) := by omega
    have hwm : IntKind.i64.wrap (((m + 1 : Nat) : Int) - 1) = (m : Int) := by rw [w_in (by omega) (by omega)]; omega
    have hrl : rows.length + 1 ≤ 4294967296 := by omega
    simp only [drL, List.map_cons, Tm.row_eq (drT l d k).1] at hrows hend
    rcases hv with ⟨rfl, rfl, rfl⟩ | ⟨g, rfl, rfl⟩ <;>
    · refine RL_at hat (by (simp only [go_sem, Int.reduceToNat, Nat.reducePow, Int.reduceEq, Int.reduceNe, Int.reduceLT, Int.reduceLE, Nat.reduceAdd, Nat.reduceLeDiff, ↓reduceIte, Nat.reduceLT, Nat.reduceMul, Nat.reduceSub, reduceCtorEq, frzLoc, rowCells, vAppM, beq_iff_eq, bne_iff_ne, bne_self_eq_false, beq_self_eq_true, beq_true, beq_false, I, B, w, cx_len, cx_app, cx_own0, cx_own, cx_setOwn0, cx_setOwn, cx_take, cx_takeN, Nat.add_right_cancel_iff, Nat.lt_irrefl, cx_nlt, Nat.not_lt_zero, cx_get' h, cx_setId' h, cx_er h, cx_all0 h, cx_all h, CtxOk.lt h, CtxOk.ne0 h])) (by (simp only [go_sem, Int.reduceToNat, Nat.reducePow, Int.reduceEq, Int.reduceNe, Int.reduceLT, Int.reduceLE, Nat.reduceAdd, Nat.reduceLeDiff, ↓reduceIte, Nat.reduceLT, Nat.reduceMul, Nat.reduceSub, reduceCtorEq, frzLoc, rowCells, vAppM, beq_iff_eq, bne_iff_ne, bne_self_eq_false, beq_self_eq_true, beq_true, beq_false, I, B, w, cx_len, cx_app, cx_own0, cx_own, cx_setOwn0, cx_setOwn, cx_take, cx_takeN, Nat.add_right_cancel_iff, Nat.lt_irrefl, cx_nlt, Nat.not_lt_zero, cx_get' h, cx_setId' h, cx_er h, cx_all0 h, cx_all h, CtxOk.lt h, CtxOk.ne0 h])) (vf61L0_go ?_)
      (repeat (first
    | refine RX_seq ?_
    | refine RX_block ?_
    | ((first | refine RX_reg ?_ | refine RX_cond' ?_ | refine RX_draw0 ?_ | refine RX_draw rfl ?_ | refine RX_skip ?_ | refine RX_exit ?_ | refine RX_ret ?_); try (simp only [go_sem, Int.reduceToNat, Nat.reducePow, Int.reduceEq, Int.reduceNe, Int.reduceLT, Int.reduceLE, Nat.reduceAdd, Nat.reduceLeDiff, ↓reduceIte, Nat.reduceLT, Nat.reduceMul, Nat.reduceSub, reduceCtorEq, frzLoc, rowCells, vAppM, beq_iff_eq, bne_iff_ne, bne_self_eq_false, beq_self_eq_true, beq_true, beq_false, I, B, w, vf61_res, vf61_keep, cx_len, cx_app, cx_own0, cx_own, cx_setOwn0, cx_setOwn, cx_take, cx_takeN, Nat.add_right_cancel_iff, Nat.lt_irrefl, cx_nlt, Nat.not_lt_zero, cx_get' h, cx_setId' h, cx_er h, cx_all0 h, cx_all h, CtxOk.lt h, CtxOk.ne0 h, gt_iff_lt, hm, hwm, cT0, hrl]))))
      refine ih m _ (Nat.lt_succ_self m) ⟨(drT l d k).2, _, _, _, _, .inr ⟨_, rfl, rfl⟩, ?_, ?_, hend, rfl, by simp only [cx_take], rfl, rfl, rfl, rfl⟩
      · simp only [List.length_append, List.length_cons, List.length_nil] at hl ⊢; omega
      · first | exact hrows | simpa using hrows
end Go.Proofs.Ytciaehhaglaafaa

namespace Go.Proofs.Ytciaehhaglaafaa
open Go.VM
/-- a part with a number -/
def Tm.isHd (n : Int) : List Tm → Bool
  | [] => false
  | u :: _ => u.op == 1 && u.val == n
def Tm.isPart (n : Int) (t : Tm) : Bool := t.op == 3 && Tm.isHd n t.args
/-- what belongs to the first part with a number -/
def Tm.find (n : Int) : List Tm → Option (List Tm)
  | [] => none
  | t :: ts => if t.isPart n then some t.args.tail else Tm.find n ts
theorem Tm.find_drop {n : Int} {ts : List Tm} {i : Nat} {t : Tm} (h : ts[i]? = some t) : Tm.find n (ts.drop i) = if t.isPart n then some t.args.tail else Tm.find n (ts.drop (i + 1)) := by
  obtain ⟨h1, h2⟩ := List.getElem?_eq_some_iff.1 h
  rw [List.drop_eq_getElem_cons h1, h2, Tm.find]
theorem pos_succ (n : Nat) : (0 : Int) < ((n + 1 : Nat) : Int) := by omega
theorem one_le_succ (n : Nat) : (1 : Int) ≤ ((n + 1 : Nat) : Int) := by omega
def Tm.findV (n : Int) (ts : List Tm) : V := .tup [.d (.sl (((Tm.find n ts).getD []).map Tm.row)), .d (B (Tm.find n ts).isSome)]
theorem e23 (n : Int) (ts : List Tm) (hl : ts.length < 1000000) (hs : ∀ t ∈ ts, t.args.length < 1000000) :
    CV VP 156 [.d (.sl (ts.map Tm.row)), .d (I n)] [] = some ⟨Tm.findV n ts, [], [], 0⟩ := by
  refine CV_run (vf := vf156) rfl rfl ?_
  rw [vf156_start]
  (repeat (first
    | refine RX_seq ?_
    | refine RX_block ?_
    | ((first | refine RX_reg ?_ | refine RX_cond' ?_ | refine RX_draw0 ?_ | refine RX_draw rfl ?_ | refine RX_skip ?_ | refine RX_exit ?_ | refine RX_ret ?_); try (simp only [go_sem, Int.reduceToNat, Nat.reducePow, Int.reduceEq, Int.reduceNe, Int.reduceLT, Int.reduceLE, Nat.reduceAdd, Nat.reduceLeDiff, ↓reduceIte, Nat.reduceLT, Nat.reduceMul, Nat.reduceSub, reduceCtorEq, frzLoc, rowCells, vAppM, beq_iff_eq, bne_iff_ne, bne_self_eq_false, beq_self_eq_true, beq_true, beq_false, I, B, w, vf156_res, vf156_keep, List.length_map]))))
  refine RX_loop ?_
  refine RL_ind (fun m st => ∃ (i : Nat), i + m = ts.length ∧ Tm.find n (ts.drop i) = Tm.find n ts ∧
    At vf156K0 0 st ((.any :: .d (I n) :: .any :: .any :: .any :: .any :: .any :: .any :: .d (.sl (ts.map Tm.row)) :: .d (I (ts.length : Nat)) :: .d (I (i : Nat)) :: .any :: .any :: .any :: .any :: .any :: .any :: .any :: .any :: .any :: .any :: .any :: .any :: .any :: .any :: .any :: .any :: .any :: .any :: .any :: .any :: .any :: .any :: .any :: .any :: .any :: .any :: .any :: .any :: .any :: .any :: .any :: .any :: .any :: .any :: .any :: [])) [] [] 0 0) ?_ ts.length _ ⟨0, Nat.zero_add _, rfl, rfl, rfl, rfl, rfl, rfl, rfl⟩
  rintro m st ⟨i, hi, hf, hat⟩ ih
  refine RL_at hat rfl rfl (vf156L0_go ?_)
  cases m with
  | zero =>
    have h1 : ¬ i < ts.length := by omega
    rw [List.drop_eq_nil_of_le (by omega)] at hf
    simp only [Tm.findV, ← hf]
    (repeat (first
    | refine RX_seq ?_
    | refine RX_block ?_
    | ((first | refine RX_reg ?_ | refine RX_cond' ?_ | refine RX_draw0 ?_ | refine RX_draw rfl ?_ | refine RX_skip ?_ | refine RX_exit ?_ | refine RX_ret ?_); try (simp only [go_sem, Int.reduceToNat, Nat.reducePow, Int.reduceEq, Int.reduceNe, Int.reduceLT, Int.reduceLE, Nat.reduceAdd, Nat.reduceLeDiff, ↓reduceIte, Nat.reduceLT, Nat.reduceMul, Nat.reduceSub, reduceCtorEq, frzLoc, rowCells, vAppM, beq_iff_eq, bne_iff_ne, bne_self_eq_false, beq_self_eq_true, beq_true, beq_false, I, B, w, vf156_res, vf156_keep, h1, Tm.find, Option.getD_none, Option.isSome_none]))))
  | succ m =>
    have h1 : i < ts.length := by omega
    obtain ⟨t, ht⟩ : ∃ t, ts[i]? = some t := ⟨_, List.getElem?_eq_getElem h1⟩
    rw [Tm.find_drop ht] at hf
    have hr : (ts.map Tm.row)[i]? = some [I t.op, I t.val, .sl (t.args.map Tm.row)] := by rw [List.getElem?_map, ht, Option.map_some, Tm.row_eq]
    have hm := List.mem_of_getElem? ht
    have hts := hs t hm
    have hwi := w_nat (i := i) (by omega)
    have next := fun (hp : t.isPart n = false) st hat => ih m st (Nat.lt_succ_self m) ⟨i + 1, by omega, by rw [← hf, hp]; rfl, hat⟩
    clear ih
    generalize hcell : t.args = args at *
    have hip : t.isPart n = (t.op == 3 && Tm.isHd n args) := by rw [Tm.isPart, hcell]
    by_cases c1 : t.op = 3
    · cases args with
      | nil =>
        have hp : t.isPart n = false := by rw [hip, c1]; rfl
        (repeat (first
    | refine RX_seq ?_
    | refine RX_block ?_
    | ((first | refine RX_reg ?_ | refine RX_cond' ?_ | refine RX_draw0 ?_ | refine RX_draw rfl ?_ | refine RX_skip ?_ | refine RX_exit ?_ | refine RX_ret ?_); try (simp only [go_sem, Int.reduceToNat, Nat.reducePow, Int.reduceEq, Int.reduceNe, Int.reduceLT, Int.reduceLE, Nat.reduceAdd, Nat.reduceLeDiff, ↓reduceIte, Nat.reduceLT, Nat.reduceMul, Nat.reduceSub, reduceCtorEq, frzLoc, rowCells, vAppM, beq_iff_eq, bne_iff_ne, bne_self_eq_false, beq_self_eq_true, beq_true, beq_false, I, B, w, vf156_res, vf156_keep, h1, hr, c1, List.length_map, hwi, gt_iff_lt]))))
        exact next hp _ ⟨rfl, rfl, rfl, rfl, rfl, rfl⟩
      | cons u us =>
        by_cases c2 : u.op = 1
        · by_cases c3 : u.val = n
          · have hp : t.isPart n = true := by rw [hip, c1, Tm.isHd, c2, c3]; simp
            rw [hp] at hf
            simp only [if_true, List.tail_cons] at hf
            have hres : Tm.findV n ts = .tup [.d (.sl (us.map Tm.row)), .d (B true)] := by rw [Tm.findV, ← hf]; rfl
            rw [hres]
            have h3 := Tm.rows3 us (by simp only [List.length_cons] at hts; omega)
            have h4 := h3.2
            have h5 : List.take us.length (us.map Tm.row) = us.map Tm.row := List.take_of_length_le (by simp)
            (repeat (first
    | refine RX_seq ?_
    | refine RX_block ?_
    | ((first | refine RX_reg ?_ | refine RX_cond' ?_ | refine RX_draw0 ?_ | refine RX_draw rfl ?_ | refine RX_skip ?_ | refine RX_exit ?_ | refine RX_ret ?_); try (simp only [go_sem, Int.reduceToNat, Nat.reducePow, Int.reduceEq, Int.reduceNe, Int.reduceLT, Int.reduceLE, Nat.reduceAdd, Nat.reduceLeDiff, ↓reduceIte, Nat.reduceLT, Nat.reduceMul, Nat.reduceSub, reduceCtorEq, frzLoc, rowCells, vAppM, beq_iff_eq, bne_iff_ne, bne_self_eq_false, beq_self_eq_true, beq_true, beq_false, I, B, w, vf156_res, vf156_keep, h1, hr, c1, c2, c3, List.length_map, hwi, gt_iff_lt, Tm.row_eq u, e71 h3, vSlice, vBounds, h4, h5, pos_succ, one_le_succ]))))
          · have hp : t.isPart n = false := by rw [hip, Tm.isHd]; simp [c3]
            (repeat (first
    | refine RX_seq ?_
    | refine RX_block ?_
    | ((first | refine RX_reg ?_ | refine RX_cond' ?_ | refine RX_draw0 ?_ | refine RX_draw rfl ?_ | refine RX_skip ?_ | refine RX_exit ?_ | refine RX_ret ?_); try (simp only [go_sem, Int.reduceToNat, Nat.reducePow, Int.reduceEq, Int.reduceNe, Int.reduceLT, Int.reduceLE, Nat.reduceAdd, Nat.reduceLeDiff, ↓reduceIte, Nat.reduceLT, Nat.reduceMul, Nat.reduceSub, reduceCtorEq, frzLoc, rowCells, vAppM, beq_iff_eq, bne_iff_ne, bne_self_eq_false, beq_self_eq_true, beq_true, beq_false, I, B, w, vf156_res, vf156_keep, h1, hr, c1, c2, c3, List.length_map, hwi, gt_iff_lt, Tm.row_eq u, pos_succ]))))
            exact next hp _ ⟨rfl, rfl, rfl, rfl, rfl, rfl⟩
        · have hp : t.isPart n = false := by rw [hip, Tm.isHd]; simp [c2]
          (repeat (first
    | refine RX_seq ?_
    | refine RX_block ?_
    | ((first | refine RX_reg ?_ | refine RX_cond' ?_ | refine RX_draw0 ?_ | refine RX_draw rfl ?_ | refine RX_skip ?_ | refine RX_exit ?_ | refine RX_ret ?_); try (simp only [go_sem, Int.reduceToNat, Nat.reducePow, Int.reduceEq, Int.reduceNe, Int.reduceLT, Int.reduceLE, Nat.reduceAdd, Nat.reduceLeDiff, ↓reduceIte, Nat.reduceLT, Nat.reduceMul, Nat.reduceSub, reduceCtorEq, frzLoc, rowCells, vAppM, beq_iff_eq, bne_iff_ne, bne_self_eq_false, beq_self_eq_true, beq_true, beq_false, I, B, w, vf156_res, vf156_keep, h1, hr, c1, c2, List.length_map, hwi, gt_iff_lt, Tm.row_eq u, pos_succ]))))
          exact next hp _ ⟨rfl, rfl, rfl, rfl, rfl, rfl⟩
    · have hp : t.isPart n = false := by rw [hip]; simp [c1]
      (repeat (first
    | refine RX_seq ?_
    | refine RX_block ?_
    | ((first | refine RX_reg ?_ | refine RX_cond' ?_ | refine RX_draw0 ?_ | refine RX_draw rfl ?_ | refine RX_skip ?_ | refine RX_exit ?_ | refine RX_ret ?_); try (simp only [go_sem, Int.reduceToNat, Nat.reducePow, Int.reduceEq, Int.reduceNe, Int.reduceLT, Int.reduceLE, Nat.reduceAdd, Nat.reduceLeDiff, ↓reduceIte, Nat.reduceLT, Nat.reduceMul, Nat.reduceSub, reduceCtorEq, frzLoc, rowCells, vAppM, beq_iff_eq, bne_iff_ne, bne_self_eq_false, beq_self_eq_true, beq_true, beq_false, I, B, w, vf156_res, vf156_keep, h1, hr, c1, List.length_map, hwi]))))
      exact next hp _ ⟨rfl, rfl, rfl, rfl, rfl, rfl⟩
end Go.Proofs.Ytciaehhaglaafaa

namespace Go.Proofs.Ytciaehhaglaafaa
open Go.VM
theorem e17 (i c : Int) (x1 x2 x3 x4 x5 x6 x8 x9 x10 x11 x12 x13 x14 x15 x16 x17 x18 : D) : CV VP 74 [.agg [.d (I i), .d x1, .d x2, .d x3, .d x4, .d x5, .d x6, .d (I c), .d x8, .d x9, .d x10, .d x11, .d x12, .d x13, .d x14, .d x15, .d x16, .d x17, .d x18]] [] = some ⟨.tup [.agg [.d (I i), .d x1, .d x2, .d x3, .d x4, .d x5, .d x6, .d (I (w (c + 1))), .d x8, .d x9, .d x10, .d x11, .d x12, .d x13, .d x14, .d x15, .d x16, .d x17, .d x18], .d (I (w (w (1000 * w (i + 1)) + (w (c + 1)))))], [], [], 0⟩ := by
  refine CV_run (vf := vf74) rfl rfl ?_
  rw [vf74_start]
  (repeat (first
    | refine RX_seq ?_
    | refine RX_block ?_
    | ((first | refine RX_reg ?_ | refine RX_cond' ?_ | refine RX_draw0 ?_ | refine RX_draw rfl ?_ | refine RX_skip ?_ | refine RX_exit ?_ | refine RX_ret ?_); try (simp only [go_sem, Int.reduceToNat, Nat.reducePow, Int.reduceEq, Int.reduceNe, Int.reduceLT, Int.reduceLE, Nat.reduceAdd, Nat.reduceLeDiff, ↓reduceIte, Nat.reduceLT, Nat.reduceMul, Nat.reduceSub, reduceCtorEq, frzLoc, rowCells, vAppM, beq_iff_eq, bne_iff_ne, bne_self_eq_false, beq_self_eq_true, beq_true, beq_false, I, B, w]))))
  (simp only [go_sem, Int.reduceToNat, Nat.reducePow, Int.reduceEq, Int.reduceNe, Int.reduceLT, Int.reduceLE, Nat.reduceAdd, Nat.reduceLeDiff, ↓reduceIte, Nat.reduceLT, Nat.reduceMul, Nat.reduceSub, reduceCtorEq, frzLoc, rowCells, vAppM, beq_iff_eq, bne_iff_ne, bne_self_eq_false, beq_self_eq_true, beq_true, beq_false, I, B, w, vf74])
theorem e13 : CV VP 15 [] [] = some ⟨.d (B true), [], [], 0⟩ := by
  refine CV_run (vf := vf15) rfl rfl ?_
  rw [vf15_start]
  (repeat (first
    | refine RX_seq ?_
    | refine RX_block ?_
    | ((first | refine RX_reg ?_ | refine RX_cond' ?_ | refine RX_draw0 ?_ | refine RX_draw rfl ?_ | refine RX_skip ?_ | refine RX_exit ?_ | refine RX_ret ?_); try (simp only [go_sem, Int.reduceToNat, Nat.reducePow, Int.reduceEq, Int.reduceNe, Int.reduceLT, Int.reduceLE, Nat.reduceAdd, Nat.reduceLeDiff, ↓reduceIte, Nat.reduceLT, Nat.reduceMul, Nat.reduceSub, reduceCtorEq, frzLoc, rowCells, vAppM, beq_iff_eq, bne_iff_ne, bne_self_eq_false, beq_self_eq_true, beq_true, beq_false, I, B, w, e17]))))
  (simp only [go_sem, Int.reduceToNat, Nat.reducePow, Int.reduceEq, Int.reduceNe, Int.reduceLT, Int.reduceLE, Nat.reduceAdd, Nat.reduceLeDiff, ↓reduceIte, Nat.reduceLT, Nat.reduceMul, Nat.reduceSub, reduceCtorEq, frzLoc, rowCells, vAppM, beq_iff_eq, bne_iff_ne, bne_self_eq_false, beq_self_eq_true, beq_true, beq_false, I, B, w, vf15])
  rfl
theorem e14 (a n : Int) (hn : 0 < n) (hw : n < 9223372036854775808) : CV VP 39 [.d (I a), .d (I n)] [] = some ⟨.d (I (a % n)), [], [], 0⟩ := by
  have h1 := Int.emod_nonneg a (Int.ne_of_gt hn)
  have h2 := Int.emod_lt_of_pos a hn
  have h3 := @Int.tmod_eq_emod a n
  refine CV_run (vf := vf39) rfl rfl ?_
  rw [vf39_start]
  (repeat (first
    | refine RX_seq ?_
    | refine RX_block ?_
    | ((first | refine RX_reg ?_ | refine RX_cond' ?_ | refine RX_draw0 ?_ | refine RX_draw rfl ?_ | refine RX_skip ?_ | refine RX_exit ?_ | refine RX_ret ?_); try (simp only [go_sem, Int.reduceToNat, Nat.reducePow, Int.reduceEq, Int.reduceNe, Int.reduceLT, Int.reduceLE, Nat.reduceAdd, Nat.reduceLeDiff, ↓reduceIte, Nat.reduceLT, Nat.reduceMul, Nat.reduceSub, reduceCtorEq, frzLoc, rowCells, vAppM, beq_iff_eq, bne_iff_ne, bne_self_eq_false, beq_self_eq_true, beq_true, beq_false, I, B, w, Int.ne_of_gt hn]))))
  split
  · rename_i h
    (repeat (first
    | refine RX_seq ?_
    | refine RX_block ?_
    | ((first | refine RX_reg ?_ | refine RX_cond' ?_ | refine RX_draw0 ?_ | refine RX_draw rfl ?_ | refine RX_skip ?_ | refine RX_exit ?_ | refine RX_ret ?_); try (simp only [go_sem, Int.reduceToNat, Nat.reducePow, Int.reduceEq, Int.reduceNe, Int.reduceLT, Int.reduceLE, Nat.reduceAdd, Nat.reduceLeDiff, ↓reduceIte, Nat.reduceLT, Nat.reduceMul, Nat.reduceSub, reduceCtorEq, frzLoc, rowCells, vAppM, beq_iff_eq, bne_iff_ne, bne_self_eq_false, beq_self_eq_true, beq_true, beq_false, I, B, w]))))
    (simp only [go_sem, Int.reduceToNat, Nat.reducePow, Int.reduceEq, Int.reduceNe, Int.reduceLT, Int.reduceLE, Nat.reduceAdd, Nat.reduceLeDiff, ↓reduceIte, Nat.reduceLT, Nat.reduceMul, Nat.reduceSub, reduceCtorEq, frzLoc, rowCells, vAppM, beq_iff_eq, bne_iff_ne, bne_self_eq_false, beq_self_eq_true, beq_true, beq_false, I, B, w, vf39])
    have : IntKind.i64.wrap (a.tmod n + n) = a % n := by
      split at h3 <;> rw [IntWalk.i64_in _ (by omega)] <;> omega
    rw [this]
  · rename_i h
    (repeat (first
    | refine RX_seq ?_
    | refine RX_block ?_
    | ((first | refine RX_reg ?_ | refine RX_cond' ?_ | refine RX_draw0 ?_ | refine RX_draw rfl ?_ | refine RX_skip ?_ | refine RX_exit ?_ | refine RX_ret ?_); try (simp only [go_sem, Int.reduceToNat, Nat.reducePow, Int.reduceEq, Int.reduceNe, Int.reduceLT, Int.reduceLE, Nat.reduceAdd, Nat.reduceLeDiff, ↓reduceIte, Nat.reduceLT, Nat.reduceMul, Nat.reduceSub, reduceCtorEq, frzLoc, rowCells, vAppM, beq_iff_eq, bne_iff_ne, bne_self_eq_false, beq_self_eq_true, beq_true, beq_false, I, B, w]))))
    (simp only [go_sem, Int.reduceToNat, Nat.reducePow, Int.reduceEq, Int.reduceNe, Int.reduceLT, Int.reduceLE, Nat.reduceAdd, Nat.reduceLeDiff, ↓reduceIte, Nat.reduceLT, Nat.reduceMul, Nat.reduceSub, reduceCtorEq, frzLoc, rowCells, vAppM, beq_iff_eq, bne_iff_ne, bne_self_eq_false, beq_self_eq_true, beq_true, beq_false, I, B, w, vf39])
    have : a.tmod n = a % n := by
      split at h3 <;> omega
    rw [this]
/-- what Value answers -/
def Tm.one : List Tm → Int × Bool
  | [u] => if u.op = 1 then (u.val, true) else (0, false)
  | _ => (0, false)
theorem e25 (n : Int) (ts : List Tm) (hl : ts.length < 1000000) (hs : ∀ t ∈ ts, t.args.length < 1000000) :
    CV VP 119 [.d (.sl (ts.map Tm.row)), .d (I n)] [] = some ⟨.tup [.d (I (Tm.one ((Tm.find n ts).getD [])).1), .d (B (Tm.one ((Tm.find n ts).getD [])).2)], [], [], 0⟩ := by
  have h23 := e23 n ts hl hs
  simp only [Tm.findV] at h23
  generalize (Tm.find n ts).getD [] = r at *
  generalize (Tm.find n ts).isSome = o at *
  refine CV_run (vf := vf119) rfl rfl ?_
  rw [vf119_start]
  match r with
  | [] => (repeat (first
    | refine RX_seq ?_
    | refine RX_block ?_
    | ((first | refine RX_reg ?_ | refine RX_cond' ?_ | refine RX_draw0 ?_ | refine RX_draw rfl ?_ | refine RX_skip ?_ | refine RX_exit ?_ | refine RX_ret ?_); try (simp only [go_sem, Int.reduceToNat, Nat.reducePow, Int.reduceEq, Int.reduceNe, Int.reduceLT, Int.reduceLE, Nat.reduceAdd, Nat.reduceLeDiff, ↓reduceIte, Nat.reduceLT, Nat.reduceMul, Nat.reduceSub, reduceCtorEq, frzLoc, rowCells, vAppM, beq_iff_eq, bne_iff_ne, bne_self_eq_false, beq_self_eq_true, beq_true, beq_false, I, B, w, vf119_res, vf119_keep, h23, Tm.one]))))
  | u :: v :: us =>
    have h1 : ((us.length + 1 + 1 : Nat) : Int) ≠ 1 := by omega
    (repeat (first
    | refine RX_seq ?_
    | refine RX_block ?_
    | ((first | refine RX_reg ?_ | refine RX_cond' ?_ | refine RX_draw0 ?_ | refine RX_draw rfl ?_ | refine RX_skip ?_ | refine RX_exit ?_ | refine RX_ret ?_); try (simp only [go_sem, Int.reduceToNat, Nat.reducePow, Int.reduceEq, Int.reduceNe, Int.reduceLT, Int.reduceLE, Nat.reduceAdd, Nat.reduceLeDiff, ↓reduceIte, Nat.reduceLT, Nat.reduceMul, Nat.reduceSub, reduceCtorEq, frzLoc, rowCells, vAppM, beq_iff_eq, bne_iff_ne, bne_self_eq_false, beq_self_eq_true, beq_true, beq_false, I, B, w, vf119_res, vf119_keep, h23, Tm.one, List.length_map, h1]))))
  | [u] =>
    by_cases hu : u.op = 1
    · (repeat (first
    | refine RX_seq ?_
    | refine RX_block ?_
    | ((first | refine RX_reg ?_ | refine RX_cond' ?_ | refine RX_draw0 ?_ | refine RX_draw rfl ?_ | refine RX_skip ?_ | refine RX_exit ?_ | refine RX_ret ?_); try (simp only [go_sem, Int.reduceToNat, Nat.reducePow, Int.reduceEq, Int.reduceNe, Int.reduceLT, Int.reduceLE, Nat.reduceAdd, Nat.reduceLeDiff, ↓reduceIte, Nat.reduceLT, Nat.reduceMul, Nat.reduceSub, reduceCtorEq, frzLoc, rowCells, vAppM, beq_iff_eq, bne_iff_ne, bne_self_eq_false, beq_self_eq_true, beq_true, beq_false, I, B, w, vf119_res, vf119_keep, h23, Tm.one, hu, Tm.row_eq u]))))
    · (repeat (first
    | refine RX_seq ?_
    | refine RX_block ?_
    | ((first | refine RX_reg ?_ | refine RX_cond' ?_ | refine RX_draw0 ?_ | refine RX_draw rfl ?_ | refine RX_skip ?_ | refine RX_exit ?_ | refine RX_ret ?_); try (simp only [go_sem, Int.reduceToNat, Nat.reducePow, Int.reduceEq, Int.reduceNe, Int.reduceLT, Int.reduceLE, Nat.reduceAdd, Nat.reduceLeDiff, ↓reduceIte, Nat.reduceLT, Nat.reduceMul, Nat.reduceSub, reduceCtorEq, frzLoc, rowCells, vAppM, beq_iff_eq, bne_iff_ne, bne_self_eq_false, beq_self_eq_true, beq_true, beq_false, I, B, w, vf119_res, vf119_keep, h23, Tm.one, hu, Tm.row_eq u]))))
mutual
theorem Tm.eqb_refl : ∀ t : Tm, t.eqb t = true
  | .mk a b c => by rw [Tm.eqb, Tm.eqbs_refl c]; simp
theorem Tm.eqbs_refl : ∀ ts : List Tm, Tm.eqbs ts ts = true
  | [] => rfl
  | t :: ts => by rw [Tm.eqbs, Tm.eqb_refl t, Tm.eqbs_refl ts]; rfl
end
theorem drT_args {l : List Int} (hB : Bytes l) (d k : Nat) : (drT l d k).1.args.length < 1000 := by
  cases d with
  | zero => simp [drT, Tm.args]
  | succ d =>
    rw [drT]
    split
    · simp [Tm.args]
    split
    · simp only [Tm.args, drL_len]
      have := nxV_range hB (k := nxA l k) (n := 4) (by decide)
      omega
    split
    · simp [Tm.args]
    split
    · simp [Tm.args]
    split
    · simp [Tm.args]
    split <;> simp [Tm.args]
end Go.Proofs.Ytciaehhaglaafaa

namespace Go.Proofs.Ytciaehhaglaafaa
open Go.VM
mutual
def Tm.cmp : Tm → Tm → Int
  | .mk a b ts, .mk x y us => if a < x then -1 else if x < a then 1 else if b < y then -1 else if y < b then 1 else
      if (ts.length : Int) < us.length then -1 else if (us.length : Int) < ts.length then 1 else Tm.cmps ts us
def Tm.cmps : List Tm → List Tm → Int
  | t :: ts, u :: us => if t.cmp u = 0 then Tm.cmps ts us else t.cmp u
  | _, _ => 0
end
theorem Tm.cmps_drop {ts us : List Tm} {i : Nat} {t u : Tm} (h : ts[i]? = some t) (k : us[i]? = some u) : Tm.cmps (ts.drop i) (us.drop i) = if t.cmp u = 0 then Tm.cmps (ts.drop (i + 1)) (us.drop (i + 1)) else t.cmp u := by
  obtain ⟨h1, h2⟩ := List.getElem?_eq_some_iff.1 h
  obtain ⟨k1, k2⟩ := List.getElem?_eq_some_iff.1 k
  rw [List.drop_eq_getElem_cons h1, List.drop_eq_getElem_cons k1, h2, k2, Tm.cmps]
mutual
theorem Tm.cmp_zero : ∀ t u : Tm, decide (t.cmp u = 0) = t.eqb u
  | .mk a b ts, .mk x y us => by
    have ih := Tm.cmps_zero ts us
    rw [Tm.eqb, Tm.cmp]
    by_cases h1 : a < x
    · rw [if_pos h1]; have : (a == x) = false := by simp; omega
      rw [this]; rfl
    rw [if_neg h1]
    by_cases h2 : x < a
    · rw [if_pos h2]; have : (a == x) = false := by simp; omega
      rw [this]; rfl
    rw [if_neg h2]
    have : (a == x) = true := by simp; omega
    rw [this, Bool.true_and]
    by_cases h3 : b < y
    · rw [if_pos h3]; have : (b == y) = false := by simp; omega
      rw [this]; rfl
    rw [if_neg h3]
    by_cases h4 : y < b
    · rw [if_pos h4]; have : (b == y) = false := by simp; omega
      rw [this]; rfl
    rw [if_neg h4]
    have : (b == y) = true := by simp; omega
    rw [this, Bool.true_and]
    by_cases h5 : (ts.length : Int) < us.length
    · rw [if_pos h5, Tm.eqbs_len (by omega)]; rfl
    rw [if_neg h5]
    by_cases h6 : (us.length : Int) < ts.length
    · rw [if_pos h6, Tm.eqbs_len (by omega)]; rfl
    rw [if_neg h6]
    exact ih (by omega)
theorem Tm.cmps_zero : ∀ ts us : List Tm, ts.length = us.length → decide (Tm.cmps ts us = 0) = Tm.eqbs ts us
  | [], [], _ => by simp [Tm.cmps, Tm.eqbs]
  | t :: ts, u :: us, h => by
    have h1 := Tm.cmp_zero t u
    have h2 := Tm.cmps_zero ts us (by simpa using h)
    rw [Tm.cmps, Tm.eqbs]
    by_cases h0 : t.cmp u = 0
    · rw [if_pos h0, h2, ← h1, decide_eq_true h0, Bool.true_and]
    · rw [if_neg h0, ← h1, decide_eq_false h0, Bool.false_and]
  | [], _ :: _, h => by simp at h
  | _ :: _, [], h => by simp at h
end
set_option maxHeartbeats 4000000 in
theorem e119 : ∀ (n : Nat) (t u : Tm), SizeOf.sizeOf t < n → t.small → CV VP 147 [t.ag, u.ag] [] = some ⟨.d (I (t.cmp u)), [], [], 0⟩
  | 0, t, u, h, _ => absurd h (Nat.not_lt_zero _)
  | n + 1, .mk a b ts, .mk x y us, hn, hs => by
    have w0 : IntKind.i64.wrap (0 + 1) = 1 := rfl
    have w1 : IntKind.i64.wrap (1 + 1) = 2 := rfl
    have w2 : IntKind.i64.wrap (2 + 1) = 3 := rfl
    simp only [Tm.ag, Tm.op_mk, Tm.val_mk, Tm.args_mk, Tm.cmp]
    obtain ⟨hs1, hs2⟩ := hs
    refine CV_run (vf := vf147) rfl rfl ?_
    rw [vf147_start]
    have fin : ∀ st0, ts.length = us.length → At vf147K1 2 st0 ((.any :: .any :: .any :: .ptr 1 0 :: .any :: .any :: .any :: .any :: .any :: .any :: .any :: .any :: .any :: .any :: .any :: .any :: .any :: .any :: .any :: .any :: .any :: .any :: .any :: .any :: .any :: .any :: .any :: .any :: .any :: .any :: .any :: .any :: .any :: .any :: .any :: .any :: .any :: .any :: .any :: .any :: .any :: .any :: .any :: .d (.sl (ts.map Tm.row)) :: .d (I (ts.length : Nat)) :: .d (I ((0 : Nat) : Int)) :: .any :: .any :: .any :: .any :: .any :: .any :: .any :: .any :: .any :: .any :: .any :: .any :: .any :: .any :: .any :: [])) [[.d (I a), .d (I b), .d (.sl (ts.map Tm.row))], [.d (I x), .d (I y), .d (.sl (us.map Tm.row))]] [] 0 0 →
        RL VP vf147K1 vf147L1 2 st0 (outQ 2 (thn VP ((VCode.reg [⟨some 4, .mov (.c (.d (.lit (.int .i64 0)))), none⟩]).seq .ret) (retQ vf147 0 ⟨.d (I (Tm.cmps ts us)), [], [], 0⟩))) := by
      intro st0 hl hat0
      refine RL_ind (fun m st => ∃ i : Nat, i + m = ts.length ∧ Tm.cmps (ts.drop i) (us.drop i) = Tm.cmps ts us ∧ At vf147K1 2 st ((.any :: .any :: .any :: .ptr 1 0 :: .any :: .any :: .any :: .any :: .any :: .any :: .any :: .any :: .any :: .any :: .any :: .any :: .any :: .any :: .any :: .any :: .any :: .any :: .any :: .any :: .any :: .any :: .any :: .any :: .any :: .any :: .any :: .any :: .any :: .any :: .any :: .any :: .any :: .any :: .any :: .any :: .any :: .any :: .any :: .d (.sl (ts.map Tm.row)) :: .d (I (ts.length : Nat)) :: .d (I (i : Nat)) :: .any :: .any :: .any :: .any :: .any :: .any :: .any :: .any :: .any :: .any :: .any :: .any :: .any :: .any :: .any :: [])) [[.d (I a), .d (I b), .d (.sl (ts.map Tm.row))], [.d (I x), .d (I y), .d (.sl (us.map Tm.row))]] [] 0 0) ?_ ts.length _ ⟨0, Nat.zero_add _, rfl, hat0⟩
      rintro m st ⟨i, hi, hc, hat⟩ ih
      refine RL_at hat rfl rfl (vf147L1_go ?_)
      clear hat hat0
      cases m with
      | zero =>
        have h1 : ¬ i < ts.length := by omega
        rw [List.drop_eq_nil_of_le (by omega), List.drop_eq_nil_of_le (by omega), Tm.cmps] at hc
        rw [← hc]
        (repeat (first
    | refine RX_seq ?_
    | refine RX_block ?_
    | ((first | refine RX_reg ?_ | refine RX_cond' ?_ | refine RX_draw0 ?_ | refine RX_draw rfl ?_ | refine RX_skip ?_ | refine RX_exit ?_ | refine RX_ret ?_); try (simp only [go_sem, Int.reduceToNat, Nat.reducePow, Int.reduceEq, Int.reduceNe, Int.reduceLT, Int.reduceLE, Nat.reduceAdd, Nat.reduceLeDiff, ↓reduceIte, Nat.reduceLT, Nat.reduceMul, Nat.reduceSub, reduceCtorEq, frzLoc, rowCells, vAppM, beq_iff_eq, bne_iff_ne, bne_self_eq_false, beq_self_eq_true, beq_true, beq_false, I, B, w, vf147_res, vf147_keep, h1]))))
        all_goals simp
      | succ m =>
        have h1 : i < ts.length := by omega
        have h2 : i < us.length := by omega
        obtain ⟨t, ht⟩ : ∃ t, ts[i]? = some t := ⟨_, List.getElem?_eq_getElem h1⟩
        obtain ⟨u, hu⟩ : ∃ u, us[i]? = some u := ⟨_, List.getElem?_eq_getElem h2⟩
        have hrt : (ts.map Tm.row)[i]? = some t.row := by rw [List.getElem?_map, ht]; rfl
        have hru : (us.map Tm.row)[i]? = some u.row := by rw [List.getElem?_map, hu]; rfl
        have h119 := e119 n t u (by
          have := List.sizeOf_lt_of_mem (List.mem_of_getElem? ht)
          simp only [Tm.mk.sizeOf_spec] at hn
          omega) (Tm.smalls_mem hs2 (List.mem_of_getElem? ht))
        rw [Tm.cmps_drop ht hu] at hc
        have hwi := w_nat (i := i) (by omega)
        simp only [Tm.row_eq] at hrt hru
        simp only [Tm.ag] at h119
        by_cases h0 : t.cmp u = 0
        · rw [if_pos h0] at hc
          (repeat (first
    | refine RX_seq ?_
    | refine RX_block ?_
    | ((first | refine RX_reg ?_ | refine RX_cond' ?_ | refine RX_draw0 ?_ | refine RX_draw rfl ?_ | refine RX_skip ?_ | refine RX_exit ?_ | refine RX_ret ?_); try (simp only [go_sem, Int.reduceToNat, Nat.reducePow, Int.reduceEq, Int.reduceNe, Int.reduceLT, Int.reduceLE, Nat.reduceAdd, Nat.reduceLeDiff, ↓reduceIte, Nat.reduceLT, Nat.reduceMul, Nat.reduceSub, reduceCtorEq, frzLoc, rowCells, vAppM, beq_iff_eq, bne_iff_ne, bne_self_eq_false, beq_self_eq_true, beq_true, beq_false, I, B, w, vf147_res, vf147_keep, List.length_map, h1, h2, hrt, hru, h119, h0, hwi]))))
          exact ih m _ (Nat.lt_succ_self m) ⟨i + 1, by omega, hc, rfl, rfl, rfl, rfl, rfl, rfl⟩
        · rw [if_neg h0] at hc
          rw [← hc]
          (repeat (first
    | refine RX_seq ?_
    | refine RX_block ?_
    | ((first | refine RX_reg ?_ | refine RX_cond' ?_ | refine RX_draw0 ?_ | refine RX_draw rfl ?_ | refine RX_skip ?_ | refine RX_exit ?_ | refine RX_ret ?_); try (simp only [go_sem, Int.reduceToNat, Nat.reducePow, Int.reduceEq, Int.reduceNe, Int.reduceLT, Int.reduceLE, Nat.reduceAdd, Nat.reduceLeDiff, ↓reduceIte, Nat.reduceLT, Nat.reduceMul, Nat.reduceSub, reduceCtorEq, frzLoc, rowCells, vAppM, beq_iff_eq, bne_iff_ne, bne_self_eq_false, beq_self_eq_true, beq_true, beq_false, I, B, w, vf147_res, vf147_keep, List.length_map, h1, h2, hrt, hru, h119, ibne, h0, hwi]))))
    (repeat' (first
    | refine RX_seq ?_
    | refine RX_block ?_
    | ((first | refine RX_reg ?_ | refine RX_cond' ?_ | refine RX_draw0 ?_ | refine RX_draw rfl ?_ | refine RX_skip ?_ | refine RX_exit ?_ | refine RX_ret ?_); try (simp only [go_sem, Int.reduceToNat, Nat.reducePow, Int.reduceEq, Int.reduceNe, Int.reduceLT, Int.reduceLE, Nat.reduceAdd, Nat.reduceLeDiff, ↓reduceIte, Nat.reduceLT, Nat.reduceMul, Nat.reduceSub, reduceCtorEq, frzLoc, rowCells, vAppM, bne_self_eq_false, beq_self_eq_true, beq_true, beq_false, I, B, w, ibeq, ibne, bbeq, decide_eq_false_iff_not, decide_not, Bool.not_not, Decidable.not_not, Bool.not_eq_eq_eq_not, gt_iff_lt, ge_iff_le, and_false, false_and, or_self, and_self, vf147_res, vf147_keep, List.length_map, *]))
    | (refine ite_ngo (fun _ => ?_) (fun _ => ?_) <;> try (simp only [go_sem, Int.reduceToNat, Nat.reducePow, Int.reduceEq, Int.reduceNe, Int.reduceLT, Int.reduceLE, Nat.reduceAdd, Nat.reduceLeDiff, ↓reduceIte, Nat.reduceLT, Nat.reduceMul, Nat.reduceSub, reduceCtorEq, frzLoc, rowCells, vAppM, bne_self_eq_false, beq_self_eq_true, beq_true, beq_false, I, B, w, ibeq, ibne, bbeq, decide_eq_false_iff_not, decide_not, Bool.not_not, Decidable.not_not, Bool.not_eq_eq_eq_not, gt_iff_lt, ge_iff_le, and_false, false_and, or_self, and_self, vf147_res, vf147_keep, List.length_map, *]))
    | (refine ite_go (fun _ => ?_) (fun _ => ?_) <;> try (simp only [go_sem, Int.reduceToNat, Nat.reducePow, Int.reduceEq, Int.reduceNe, Int.reduceLT, Int.reduceLE, Nat.reduceAdd, Nat.reduceLeDiff, ↓reduceIte, Nat.reduceLT, Nat.reduceMul, Nat.reduceSub, reduceCtorEq, frzLoc, rowCells, vAppM, bne_self_eq_false, beq_self_eq_true, beq_true, beq_false, I, B, w, ibeq, ibne, bbeq, decide_eq_false_iff_not, decide_not, Bool.not_not, Decidable.not_not, Bool.not_eq_eq_eq_not, gt_iff_lt, ge_iff_le, and_false, false_and, or_self, and_self, vf147_res, vf147_keep, List.length_map, *]))
    | (refine RL_head ?_; simp only [go_sem, Int.reduceToNat, Nat.reducePow, Int.reduceEq, Int.reduceNe, Int.reduceLT, Int.reduceLE, Nat.reduceAdd, Nat.reduceLeDiff, ↓reduceIte, Nat.reduceLT, Nat.reduceMul, Nat.reduceSub, reduceCtorEq, frzLoc, rowCells, vAppM, bne_self_eq_false, beq_self_eq_true, beq_true, beq_false, I, B, w, ibeq, ibne, bbeq, decide_eq_false_iff_not, decide_not, Bool.not_not, Decidable.not_not, Bool.not_eq_eq_eq_not, gt_iff_lt, ge_iff_le, and_false, false_and, or_self, and_self, vf147_res, vf147_keep, List.length_map, *, St.head, forget, vf147K0, RLK_some]; refine vf147L0_go ?_)
    | refine RX_loop ?_))
    exact fin _ (by omega) ⟨rfl, rfl, rfl, rfl, rfl, rfl⟩
theorem e99 (t u : Tm) (hs : t.small) : CV VP 88 [t.ag, u.ag] [] = some ⟨.d (B (t.eqb u)), [], [], 0⟩ := by
  have h := e119 _ t u (Nat.lt_succ_self _) hs
  rw [← Tm.cmp_zero]
  refine CV_run (vf := vf88) rfl rfl ?_
  rw [vf88_start]
  simp only [Tm.ag] at *
  (repeat (first
    | refine RX_seq ?_
    | refine RX_block ?_
    | ((first | refine RX_reg ?_ | refine RX_cond' ?_ | refine RX_draw0 ?_ | refine RX_draw rfl ?_ | refine RX_skip ?_ | refine RX_exit ?_ | refine RX_ret ?_); try (simp only [go_sem, Int.reduceToNat, Nat.reducePow, Int.reduceEq, Int.reduceNe, Int.reduceLT, Int.reduceLE, Nat.reduceAdd, Nat.reduceLeDiff, ↓reduceIte, Nat.reduceLT, Nat.reduceMul, Nat.reduceSub, reduceCtorEq, frzLoc, rowCells, vAppM, beq_iff_eq, bne_iff_ne, bne_self_eq_false, beq_self_eq_true, beq_true, beq_false, I, B, w, vf88_res, vf88_keep, h, ibeq]))))
end Go.Proofs.Ytciaehhaglaafaa

namespace Go.Proofs.Ytciaehhaglaafaa
open Go.VM
/-- the choices that are drawn, as functions of the place -/
structure NX (R : List (List D)) (nx : Int → Int → Int) (na : Int → Int) : Prop where
  nn : ∀ k, 0 ≤ na k
  rng : ∀ k n, 0 < n → 0 ≤ nx k n ∧ nx k n < n
  call : ∀ (k n : Int) (rest : List (List V)), 0 ≤ k → 0 < n → n ≤ 256 → rest.map V.erL = rest → rest.all (V.ltbL (1 + rest.length)) = true →
    CV VP 22 [.ptr 0 0, .d (I n)] ([.d (.sl R), .d (I k)] :: rest) = some ⟨.d (I (nx k n)), [.d (.sl R), .d (I (na k))] :: rest, [], 0⟩
theorem nx_of {l : List Int} (hB : Bytes l) : NX (l.map byteRow) (fun k n => nxV l k.toNat n) (fun k => (nxA l k.toNat : Nat)) where
  nn := fun k => Int.natCast_nonneg _
  rng := fun k n hn => nxV_range hB hn
  call := fun k n rest hk hn hn2 he hl => by
    have h := e29 hB (bl := [[]]) (id := 0) (k := k.toNat) (own := rest) CtxOk.base hn hn2 (by simpa using he) (by simpa using hl)
    rw [Int.toNat_of_nonneg hk] at h
    exact h
abbrev qT (a : Int) : Bool × Bool := (eqF a a, true)
abbrev qN (a : Int) : Bool × Bool := ((!(eqF a a)), false)
theorem eqF_self (a : Int) : eqF a a = true := by rw [eqF_eq]; simp
theorem okT {a : Int} {l : List (Bool × Bool)} (h : OKs l) : OKs (qT a :: l) := .cons (eqF_self a) h
theorem okN {a : Int} {l : List (Bool × Bool)} (h : OKs l) : OKs (qN a :: l) := .cons (by rw [eqF_self]; rfl) h
end Go.Proofs.Ytciaehhaglaafaa

namespace Go.Proofs.Ytciaehhaglaafaa
open Go.VM
theorem eqT {a b : Int} (h : a = b) : eqF a b = true := by rw [eqF_eq]; simpa using h
theorem eqN {a b : Int} (h : a ≠ b) : eqF a b = false := by rw [eqF_eq]; simpa using h
theorem neT {a b : Int} (h : a ≠ b) : (!(eqF a b)) = true := by rw [eqN h]; rfl
theorem neN {a b : Int} (h : a = b) : (!(eqF a b)) = false := by rw [eqT h]; rfl
theorem leT {a b : Int} (h : a ≤ b) : leF a b = true := by rw [leF_eq]; simpa using h
theorem leN {a b : Int} (h : b < a) : leF a b = false := by rw [leF_eq]; simpa using h
theorem ngT {a b : Int} (h : b < a) : (!(leF a b)) = true := by rw [leN h]; rfl
theorem ngN {a b : Int} (h : a ≤ b) : (!(leF a b)) = false := by rw [leT h]; rfl
theorem wF_in {n : Int} (h1 : -9223372036854775808 ≤ n) (h2 : n ≤ 9223372036854775807) : wF n = n := by rw [wF_eq]; exact w_in h1 h2
/-- rows that are terms, not too wide -/
def IsS (r : List D) : Prop := ∃ t : Tm, t.small ∧ r = t.row
def IsSs (rows : List (List D)) : Prop := ∃ ts : List Tm, Tm.smalls ts ∧ rows = ts.map Tm.row
theorem IsSs.nil : IsSs [] := ⟨[], trivial, rfl⟩
theorem IsSs.cons {r : List D} {rs : List (List D)} (h : IsS r) (hs : IsSs rs) : IsSs (r :: rs) := by
  obtain ⟨t, h1, rfl⟩ := h
  obtain ⟨ts, h2, rfl⟩ := hs
  exact ⟨t :: ts, ⟨h1, h2⟩, rfl⟩
theorem IsS.mk {a b : Int} {rows : List (List D)} (h : IsSs rows) (hl : rows.length < 1000) : IsS [I a, I b, .sl rows] := by
  obtain ⟨ts, h1, rfl⟩ := h
  rw [List.length_map] at hl
  exact ⟨.mk a b ts, ⟨by omega, h1⟩, (Tm.row_mk a b ts).symm⟩
theorem IsS.leaf {a b : Int} : IsS [I a, I b, .sl []] := IsS.mk .nil (by decide)
theorem IsS.agP {x y z : D} (h : IsS [x, y, z]) : ∃ t : Tm, t.small ∧ V.agg [.d x, .d y, .d z] = t.ag := by
  obtain ⟨t, h1, h2⟩ := h
  rw [Tm.row_eq] at h2
  simp only [List.cons.injEq, and_true] at h2
  obtain ⟨rfl, rfl, rfl⟩ := h2
  exact ⟨t, h1, rfl⟩
theorem ans88 {a b c x y z : D} (h : IsS [a, b, c]) (k : IsS [x, y, z]) : CV VP 88 [.agg [.d a, .d b, .d c], .agg [.d x, .d y, .d z]] [] = some ⟨.d (B (ansB VP 88 [.agg [.d a, .d b, .d c], .agg [.d x, .d y, .d z]])), [], [], 0⟩ := by
  obtain ⟨t, h1, h2⟩ := h.agP
  obtain ⟨u, _, k2⟩ := k.agP
  rw [h2, k2]
  exact ansB_spec ⟨_, e99 t u h1⟩
/-- terms of depth two, drawn -/
structure TX (R : List (List D)) (to tv tn : Int → Int) (ta : Int → List (List D)) : Prop where
  nn : ∀ k, 0 ≤ tn k
  call : ∀ (k : Int) (rest : List (List V)), 0 ≤ k → rest.map V.erL = rest → rest.all (V.ltbL (1 + rest.length)) = true →
    CV VP 20 [.ptr 0 0, .d (I 2)] ([.d (.sl R), .d (I k)] :: rest) = some ⟨.agg [.d (I (to k)), .d (I (tv k)), .d (.sl (ta k))], [.d (.sl R), .d (I (tn k))] :: rest, [], 0⟩
  tm : ∀ k, IsS [I (to k), I (tv k), .sl (ta k)]
  one : ∀ k, to k = 6 → (ta k).length = 1
theorem drT_one (l : List Int) (k : Nat) : (drT l 1 k).1.op = 6 → (drT l 1 k).1.args.length = 1 := by
  have e0 : leafO l k ≠ 6 := by unfold leafO; split <;> (try split) <;> decide
  rw [drT]
  split
  · intro h; exact absurd h e0
  split
  · intro h; simp [Tm.op] at h
  split
  · intro h; simp [Tm.op] at h
  split
  · intro h; simp [Tm.op] at h
  split
  · intro _; rfl
  split
  · intro h; simp [Tm.op] at h
  · intro h; simp [Tm.op] at h
theorem tx_of {l : List Int} (hB : Bytes l) : TX (l.map byteRow) (fun k => (drT l 1 k.toNat).1.op) (fun k => (drT l 1 k.toNat).1.val) (fun k => ((drT l 1 k.toNat).2 : Nat)) (fun k => (drT l 1 k.toNat).1.args.map Tm.row) where
  nn := fun k => Int.natCast_nonneg _
  call := fun k rest hk he hl => by
    have h := cx_lift (bl := [[]]) (id := 0) (own := rest) (e32b hB 1 (by decide) 0 k.toNat) CtxOk.base (by simpa using he) (by simpa using hl)
    rw [Int.toNat_of_nonneg hk] at h
    exact h
  tm := fun k => ⟨_, drT_small hB 1 k.toNat, (Tm.row_eq _).symm⟩
  one := fun k h => by rw [List.length_map]; exact drT_one l _ h
/-- a term of depth two is no cookie -/
theorem noCookie {R : List (List D)} {to tv tn : Int → Int} {ta : Int → List (List D)} (hT : TX R to tv tn ta) (k b : Int) (r0 r1 r2 r3 : List D) (hr : IsSs [r0, r1, r2, r3]) :
    CV VP 88 [.agg [.d (I (to k)), .d (I (tv k)), .d (.sl (ta k))], .agg [.d (I 6), .d (I b), .d (.sl [r0, r1, r2, r3])]] [] = some ⟨.d (B false), [], [], 0⟩ := by
  obtain ⟨t, h1, h2⟩ := hT.tm k
  obtain ⟨ts, k1, k2⟩ := hr
  have ho := hT.one k
  rw [Tm.row_eq] at h2
  simp only [List.cons.injEq, and_true, I, D.lit.injEq, Value.int.injEq, D.sl.injEq, true_and] at h2
  obtain ⟨e1, e2, e3⟩ := h2
  have h := e99 t (.mk 6 b ts) h1
  have hl : ts.length = 4 := by have := congrArg List.length k2; rw [List.length_map] at this; exact this.symm
  have hf : t.eqb (.mk 6 b ts) = false := by
    obtain ⟨o, v, us⟩ := t
    simp only [Tm.op] at e1
    rw [Tm.eqb]
    by_cases h6 : o = 6
    · have := ho (by rw [e1, h6])
      rw [e3, List.length_map] at this
      simp only [Tm.args] at this
      rw [Tm.eqbs_len (by omega)]
      simp
    · have : (o == 6) = false := by simpa using h6
      rw [this]; rfl
  rw [hf] at h
  rw [e1, e2, e3, k2]
  exact h
end Go.Proofs.Ytciaehhaglaafaa
