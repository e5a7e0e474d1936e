/- The law DataplanePackets on the machine: it answers true. Conditions: none. -/
import Derived.Test.YtahiikdkgbbmfaaVc
import Derived.Test.YtahiikdkgbbmfaaPla
set_option linter.unusedSimpArgs false
namespace Go.Proofs.Ytahiikdkgbbmfaa
open Go.VM
theorem e29b {l : List Int} (hB : Bytes l) (id k : Nat) {n : Int} (hn : 0 < n) (hn2 : n ≤ 256) : ∀ bl, CtxOk bl id →
    CV VP 29 [.ptr id 0, .d (I n)] (cx bl id l (k : Nat) []) = some ⟨.d (I (nxV l k n)), cx bl id l (nxA l k : Nat) [], [], 0⟩ := by
  intro bl h
  refine CV_run (vf := vf29) rfl rfl ?_
  rw [vf29_start]
  by_cases hk : k < l.length
  · have hk2 : ¬ ((k : Int) ≥ (l.length : Int)) := by omega
    have hz := List.getElem?_eq_getElem hk
    have hzb := hB.mem _ (List.getElem_mem hk)
    have hv : nxV l k n = l[k] * n / 256 := by rw [nxV, dif_pos hk]
    have ha : nxA l k = k + 1 := by rw [nxA, if_pos hk]
    rw [hv, ha]
    generalize l[k] = z at hz hzb
    have hzn : 0 ≤ z * n ∧ z * n ≤ 65280 := ⟨Int.mul_nonneg hzb.1 (by omega), by
      calc z * n ≤ 255 * 256 := Int.mul_le_mul hzb.2 hn2 (by omega) (by decide)
        _ = 65280 := by decide⟩
    have w1 := w_nat (Nat.lt_trans hk hB.len)
    have w2 : IntKind.i64.wrap (((k + 1 : Nat) : Int) - 1) = (k : Int) := by rw [w_in (by omega) (by have := hB.len; omega)]; omega
    have w3 : IntKind.i64.wrap z = z := w_in (by omega) (by omega)
    have w4 : IntKind.i64.wrap (z * n) = z * n := w_in (by omega) (by omega)
    have w5 : IntKind.i64.wrap ((z * n).tdiv 256) = z * n / 256 := by
      rw [Int.tdiv_eq_ediv_of_nonneg hzn.1, w_in (by omega) (by omega)]
    (repeat (first
    | refine RX_seq ?_
    | refine RX_block ?_
    | ((first | refine RX_reg ?_ | refine RX_cond' ?_ | refine RX_draw0 ?_ | refine RX_draw rfl ?_ | refine RX_skip ?_ | refine RX_exit ?_ | refine RX_ret ?_); try (simp only [go_sem, Int.reduceToNat, Nat.reducePow, Int.reduceEq, Int.reduceNe, Int.reduceLT, Int.reduceLE, Nat.reduceAdd, Nat.reduceLeDiff, ↓reduceIte, Nat.reduceLT, Nat.reduceMul, Nat.reduceSub, reduceCtorEq, frzLoc, rowCells, vAppM, beq_iff_eq, bne_iff_ne, bne_self_eq_false, beq_self_eq_true, beq_true, beq_false, I, B, w, cx_len, cx_app, cx_own0, cx_own, cx_setOwn0, cx_setOwn, cx_take, cx_takeN, Nat.add_right_cancel_iff, Nat.lt_irrefl, cx_nlt, Nat.not_lt_zero, cx_get' h, cx_setId' h, cx_er h, cx_all0 h, cx_all h, CtxOk.lt h, hk2, hk, hz, w1, w2, w3, w4, w5, List.length_map, List.getElem?_map, byteRow, vf29_res, vf29_keep]))))
  · have hk2 : (k : Int) ≥ (l.length : Int) := by omega
    have hv : nxV l k n = 0 := by rw [nxV, dif_neg hk]
    have ha : nxA l k = k := by rw [nxA, if_neg hk]
    rw [hv, ha]
    (repeat (first
    | refine RX_seq ?_
    | refine RX_block ?_
    | ((first | refine RX_reg ?_ | refine RX_cond' ?_ | refine RX_draw0 ?_ | refine RX_draw rfl ?_ | refine RX_skip ?_ | refine RX_exit ?_ | refine RX_ret ?_); try (simp only [go_sem, Int.reduceToNat, Nat.reducePow, Int.reduceEq, Int.reduceNe, Int.reduceLT, Int.reduceLE, Nat.reduceAdd, Nat.reduceLeDiff, ↓reduceIte, Nat.reduceLT, Nat.reduceMul, Nat.reduceSub, reduceCtorEq, frzLoc, rowCells, vAppM, beq_iff_eq, bne_iff_ne, bne_self_eq_false, beq_self_eq_true, beq_true, beq_false, I, B, w, cx_len, cx_app, cx_own0, cx_own, cx_setOwn0, cx_setOwn, cx_take, cx_takeN, Nat.add_right_cancel_iff, Nat.lt_irrefl, cx_nlt, Nat.not_lt_zero, cx_get' h, cx_setId' h, cx_er h, cx_all0 h, cx_all h, CtxOk.lt h, hk2, hk, List.length_map, vf29_res, vf29_keep]))))
theorem e29 {l : List Int} (hB : Bytes l) {bl : List (List V)} {id k : Nat} {own : List (List V)} {n : Int} (h : CtxOk bl id) (hn : 0 < n) (hn2 : n ≤ 256) (he : own.map V.erL = own) (hl : own.all (V.ltbL (bl.length + own.length)) = true) :
    CV VP 29 [.ptr id 0, .d (I n)] (cx bl id l (k : Nat) own) = some ⟨.d (I (nxV l k n)), cx bl id l (nxA l k : Nat) own, [], 0⟩ :=
  cx_lift (e29b hB id k hn hn2) h he hl
end Go.Proofs.Ytahiikdkgbbmfaa

namespace Go.Proofs.Ytahiikdkgbbmfaa
open Go.VM
/-- rows of terms -/
def Rows3 (rows : List (List D)) : Prop := rows.length ≤ 4294967296 ∧ rows.all (fun r => r.length == 3) = true
theorem e76 (n : Int) : CV VP 76 [.d (I n)] [] = some ⟨.agg [.d (I 1), .d (I n), .d (.sl [])], [], [], 0⟩ := by
  refine CV_run (vf := vf76) rfl rfl ?_
  rw [vf76_start]
  (repeat (first
    | refine RX_seq ?_
    | refine RX_block ?_
    | ((first | refine RX_reg ?_ | refine RX_cond' ?_ | refine RX_draw0 ?_ | refine RX_draw rfl ?_ | refine RX_skip ?_ | refine RX_exit ?_ | refine RX_ret ?_); try (simp only [go_sem, Int.reduceToNat, Nat.reducePow, Int.reduceEq, Int.reduceNe, Int.reduceLT, Int.reduceLE, Nat.reduceAdd, Nat.reduceLeDiff, ↓reduceIte, Nat.reduceLT, Nat.reduceMul, Nat.reduceSub, reduceCtorEq, frzLoc, rowCells, vAppM, beq_iff_eq, bne_iff_ne, bne_self_eq_false, beq_self_eq_true, beq_true, beq_false, I, B, w, vf76_res, vf76_keep]))))
theorem e72 (n : Int) : CV VP 72 [.d (I n)] [] = some ⟨.agg [.d (I 1), .d (I n), .d (.sl [])], [], [], 0⟩ := by
  refine CV_run (vf := vf72) rfl rfl ?_
  rw [vf72_start]
  (repeat (first
    | refine RX_seq ?_
    | refine RX_block ?_
    | ((first | refine RX_reg ?_ | refine RX_cond' ?_ | refine RX_draw0 ?_ | refine RX_draw rfl ?_ | refine RX_skip ?_ | refine RX_exit ?_ | refine RX_ret ?_); try (simp only [go_sem, Int.reduceToNat, Nat.reducePow, Int.reduceEq, Int.reduceNe, Int.reduceLT, Int.reduceLE, Nat.reduceAdd, Nat.reduceLeDiff, ↓reduceIte, Nat.reduceLT, Nat.reduceMul, Nat.reduceSub, reduceCtorEq, frzLoc, rowCells, vAppM, beq_iff_eq, bne_iff_ne, bne_self_eq_false, beq_self_eq_true, beq_true, beq_false, I, B, w, vf72_res, vf72_keep]))))
theorem e70 (a b : Int) : CV VP 70 [.d (I a), .d (I b)] [] = some ⟨.agg [.d (I 2), .d (I (w (w (a * 1048576) + b))), .d (.sl [])], [], [], 0⟩ := by
  refine CV_run (vf := vf70) rfl rfl ?_
  rw [vf70_start]
  (repeat (first
    | refine RX_seq ?_
    | refine RX_block ?_
    | ((first | refine RX_reg ?_ | refine RX_cond' ?_ | refine RX_draw0 ?_ | refine RX_draw rfl ?_ | refine RX_skip ?_ | refine RX_exit ?_ | refine RX_ret ?_); try (simp only [go_sem, Int.reduceToNat, Nat.reducePow, Int.reduceEq, Int.reduceNe, Int.reduceLT, Int.reduceLE, Nat.reduceAdd, Nat.reduceLeDiff, ↓reduceIte, Nat.reduceLT, Nat.reduceMul, Nat.reduceSub, reduceCtorEq, frzLoc, rowCells, vAppM, beq_iff_eq, bne_iff_ne, bne_self_eq_false, beq_self_eq_true, beq_true, beq_false, I, B, w, vf70_res, vf70_keep]))))
theorem e33 {rows : List (List D)} (h : Rows3 rows) : CV VP 33 [.d (.sl rows)] [] = some ⟨.agg [.d (I 3), .d (I 0), .d (.sl rows)], [], [], 0⟩ := by
  refine CV_run (vf := vf33) rfl rfl ?_
  rw [vf33_start]
  (repeat (first
    | refine RX_seq ?_
    | refine RX_block ?_
    | ((first | refine RX_reg ?_ | refine RX_cond' ?_ | refine RX_draw0 ?_ | refine RX_draw rfl ?_ | refine RX_skip ?_ | refine RX_exit ?_ | refine RX_ret ?_); try (simp only [go_sem, Int.reduceToNat, Nat.reducePow, Int.reduceEq, Int.reduceNe, Int.reduceLT, Int.reduceLE, Nat.reduceAdd, Nat.reduceLeDiff, ↓reduceIte, Nat.reduceLT, Nat.reduceMul, Nat.reduceSub, reduceCtorEq, frzLoc, rowCells, vAppM, beq_iff_eq, bne_iff_ne, bne_self_eq_false, beq_self_eq_true, beq_true, beq_false, I, B, w, vf33_res, vf33_keep, h.1, h.2]))))
theorem e77 (a b c : D) : CV VP 77 [.agg [.d a, .d b, .d c]] [] = some ⟨.agg [.d (I 4), .d (I 0), .d (.sl [[a, b, c]])], [], [], 0⟩ := by
  refine CV_run (vf := vf77) rfl rfl ?_
  rw [vf77_start]
  (repeat (first
    | refine RX_seq ?_
    | refine RX_block ?_
    | ((first | refine RX_reg ?_ | refine RX_cond' ?_ | refine RX_draw0 ?_ | refine RX_draw rfl ?_ | refine RX_skip ?_ | refine RX_exit ?_ | refine RX_ret ?_); try (simp only [go_sem, Int.reduceToNat, Nat.reducePow, Int.reduceEq, Int.reduceNe, Int.reduceLT, Int.reduceLE, Nat.reduceAdd, Nat.reduceLeDiff, ↓reduceIte, Nat.reduceLT, Nat.reduceMul, Nat.reduceSub, reduceCtorEq, frzLoc, rowCells, vAppM, beq_iff_eq, bne_iff_ne, bne_self_eq_false, beq_self_eq_true, beq_true, beq_false, I, B, w, vf77_res, vf77_keep]))))
theorem e79 (n : Int) {rows : List (List D)} (h : Rows3 rows) : CV VP 79 [.d (I n), .d (.sl rows)] [] = some ⟨.agg [.d (I 6), .d (I n), .d (.sl rows)], [], [], 0⟩ := by
  refine CV_run (vf := vf79) rfl rfl ?_
  rw [vf79_start]
  (repeat (first
    | refine RX_seq ?_
    | refine RX_block ?_
    | ((first | refine RX_reg ?_ | refine RX_cond' ?_ | refine RX_draw0 ?_ | refine RX_draw rfl ?_ | refine RX_skip ?_ | refine RX_exit ?_ | refine RX_ret ?_); try (simp only [go_sem, Int.reduceToNat, Nat.reducePow, Int.reduceEq, Int.reduceNe, Int.reduceLT, Int.reduceLE, Nat.reduceAdd, Nat.reduceLeDiff, ↓reduceIte, Nat.reduceLT, Nat.reduceMul, Nat.reduceSub, reduceCtorEq, frzLoc, rowCells, vAppM, beq_iff_eq, bne_iff_ne, bne_self_eq_false, beq_self_eq_true, beq_true, beq_false, I, B, w, vf79_res, vf79_keep, h.1, h.2]))))
theorem e80 (n : Int) (a b c : D) : CV VP 80 [.d (I n), .agg [.d a, .d b, .d c]] [] = some ⟨.agg [.d (I 8), .d (I n), .d (.sl [[a, b, c]])], [], [], 0⟩ := by
  refine CV_run (vf := vf80) rfl rfl ?_
  rw [vf80_start]
  (repeat (first
    | refine RX_seq ?_
    | refine RX_block ?_
    | ((first | refine RX_reg ?_ | refine RX_cond' ?_ | refine RX_draw0 ?_ | refine RX_draw rfl ?_ | refine RX_skip ?_ | refine RX_exit ?_ | refine RX_ret ?_); try (simp only [go_sem, Int.reduceToNat, Nat.reducePow, Int.reduceEq, Int.reduceNe, Int.reduceLT, Int.reduceLE, Nat.reduceAdd, Nat.reduceLeDiff, ↓reduceIte, Nat.reduceLT, Nat.reduceMul, Nat.reduceSub, reduceCtorEq, frzLoc, rowCells, vAppM, beq_iff_eq, bne_iff_ne, bne_self_eq_false, beq_self_eq_true, beq_true, beq_false, I, B, w, vf80_res, vf80_keep]))))
theorem e57 (a b c x y z : D) : CV VP 57 [.agg [.d a, .d b, .d c], .agg [.d x, .d y, .d z]] [] = some ⟨.agg [.d (I 7), .d (I 0), .d (.sl [[a, b, c], [x, y, z]])], [], [], 0⟩ := by
  refine CV_run (vf := vf57) rfl rfl ?_
  rw [vf57_start]
  (repeat (first
    | refine RX_seq ?_
    | refine RX_block ?_
    | ((first | refine RX_reg ?_ | refine RX_cond' ?_ | refine RX_draw0 ?_ | refine RX_draw rfl ?_ | refine RX_skip ?_ | refine RX_exit ?_ | refine RX_ret ?_); try (simp only [go_sem, Int.reduceToNat, Nat.reducePow, Int.reduceEq, Int.reduceNe, Int.reduceLT, Int.reduceLE, Nat.reduceAdd, Nat.reduceLeDiff, ↓reduceIte, Nat.reduceLT, Nat.reduceMul, Nat.reduceSub, reduceCtorEq, frzLoc, rowCells, vAppM, beq_iff_eq, bne_iff_ne, bne_self_eq_false, beq_self_eq_true, beq_true, beq_false, I, B, w, vf57_res, vf57_keep]))))
end Go.Proofs.Ytahiikdkgbbmfaa

namespace Go.Proofs.Ytahiikdkgbbmfaa
open Go.VM
theorem e121n (a b : Int) : CV VP 121 [.agg [.d (I 2), .d (I a), .d (.sl [])], .agg [.d (I 2), .d (I b), .d (.sl [])]] [] = some ⟨.d (I (if a < b then -1 else if b < a then 1 else 0)), [], [], 0⟩ := by
  refine CV_run (vf := vf121) rfl rfl ?_
  rw [vf121_start]
  by_cases h1 : a < b
  · (repeat (first
    | refine RX_seq ?_
    | refine RX_block ?_
    | ((first | refine RX_reg ?_ | refine RX_cond' ?_ | refine RX_draw0 ?_ | refine RX_draw rfl ?_ | refine RX_skip ?_ | refine RX_exit ?_ | refine RX_ret ?_); try (simp only [go_sem, Int.reduceToNat, Nat.reducePow, Int.reduceEq, Int.reduceNe, Int.reduceLT, Int.reduceLE, Nat.reduceAdd, Nat.reduceLeDiff, ↓reduceIte, Nat.reduceLT, Nat.reduceMul, Nat.reduceSub, reduceCtorEq, frzLoc, rowCells, vAppM, beq_iff_eq, bne_iff_ne, bne_self_eq_false, beq_self_eq_true, beq_true, beq_false, I, B, w, vf121_res, vf121_keep, h1, gt_iff_lt]))))
  · by_cases h2 : b < a
    · (repeat (first
    | refine RX_seq ?_
    | refine RX_block ?_
    | ((first | refine RX_reg ?_ | refine RX_cond' ?_ | refine RX_draw0 ?_ | refine RX_draw rfl ?_ | refine RX_skip ?_ | refine RX_exit ?_ | refine RX_ret ?_); try (simp only [go_sem, Int.reduceToNat, Nat.reducePow, Int.reduceEq, Int.reduceNe, Int.reduceLT, Int.reduceLE, Nat.reduceAdd, Nat.reduceLeDiff, ↓reduceIte, Nat.reduceLT, Nat.reduceMul, Nat.reduceSub, reduceCtorEq, frzLoc, rowCells, vAppM, beq_iff_eq, bne_iff_ne, bne_self_eq_false, beq_self_eq_true, beq_true, beq_false, I, B, w, vf121_res, vf121_keep, h1, h2, gt_iff_lt]))))
    · (repeat (first
    | refine RX_seq ?_
    | refine RX_block ?_
    | ((first | refine RX_reg ?_ | refine RX_cond' ?_ | refine RX_draw0 ?_ | refine RX_draw rfl ?_ | refine RX_skip ?_ | refine RX_exit ?_ | refine RX_ret ?_); try (simp only [go_sem, Int.reduceToNat, Nat.reducePow, Int.reduceEq, Int.reduceNe, Int.reduceLT, Int.reduceLE, Nat.reduceAdd, Nat.reduceLeDiff, ↓reduceIte, Nat.reduceLT, Nat.reduceMul, Nat.reduceSub, reduceCtorEq, frzLoc, rowCells, vAppM, beq_iff_eq, bne_iff_ne, bne_self_eq_false, beq_self_eq_true, beq_true, beq_false, I, B, w, vf121_res, vf121_keep, h1, h2, gt_iff_lt]))))
      refine RX_loop ?_
      refine RL_head ?_
      (simp only [go_sem, Int.reduceToNat, Nat.reducePow, Int.reduceEq, Int.reduceNe, Int.reduceLT, Int.reduceLE, Nat.reduceAdd, Nat.reduceLeDiff, ↓reduceIte, Nat.reduceLT, Nat.reduceMul, Nat.reduceSub, reduceCtorEq, frzLoc, rowCells, vAppM, beq_iff_eq, bne_iff_ne, bne_self_eq_false, beq_self_eq_true, beq_true, beq_false, I, B, w, St.head, forget, vf121K0, RLK_some])
      unfold vf121L0
      (repeat (first
    | refine RX_seq ?_
    | refine RX_block ?_
    | ((first | refine RX_reg ?_ | refine RX_cond' ?_ | refine RX_draw0 ?_ | refine RX_draw rfl ?_ | refine RX_skip ?_ | refine RX_exit ?_ | refine RX_ret ?_); try (simp only [go_sem, Int.reduceToNat, Nat.reducePow, Int.reduceEq, Int.reduceNe, Int.reduceLT, Int.reduceLE, Nat.reduceAdd, Nat.reduceLeDiff, ↓reduceIte, Nat.reduceLT, Nat.reduceMul, Nat.reduceSub, reduceCtorEq, frzLoc, rowCells, vAppM, beq_iff_eq, bne_iff_ne, bne_self_eq_false, beq_self_eq_true, beq_true, beq_false, I, B, w, vf121_res, vf121_keep, h1, h2]))))
theorem e104n (a b : Int) : CV VP 104 [.agg [.d (I 2), .d (I a), .d (.sl [])], .agg [.d (I 2), .d (I b), .d (.sl [])]] [] = some ⟨.d (B (decide (a < b))), [], [], 0⟩ := by
  have h := e121n a b
  refine CV_run (vf := vf104) rfl rfl ?_
  rw [vf104_start]
  by_cases h1 : a < b
  · rw [if_pos h1] at h
    (repeat (first
    | refine RX_seq ?_
    | refine RX_block ?_
    | ((first | refine RX_reg ?_ | refine RX_cond' ?_ | refine RX_draw0 ?_ | refine RX_draw rfl ?_ | refine RX_skip ?_ | refine RX_exit ?_ | refine RX_ret ?_); try (simp only [go_sem, Int.reduceToNat, Nat.reducePow, Int.reduceEq, Int.reduceNe, Int.reduceLT, Int.reduceLE, Nat.reduceAdd, Nat.reduceLeDiff, ↓reduceIte, Nat.reduceLT, Nat.reduceMul, Nat.reduceSub, reduceCtorEq, frzLoc, rowCells, vAppM, beq_iff_eq, bne_iff_ne, bne_self_eq_false, beq_self_eq_true, beq_true, beq_false, I, B, w, vf104_res, vf104_keep, h, h1]))))
  · rw [if_neg h1] at h
    by_cases h2 : b < a
    · rw [if_pos h2] at h
      (repeat (first
    | refine RX_seq ?_
    | refine RX_block ?_
    | ((first | refine RX_reg ?_ | refine RX_cond' ?_ | refine RX_draw0 ?_ | refine RX_draw rfl ?_ | refine RX_skip ?_ | refine RX_exit ?_ | refine RX_ret ?_); try (simp only [go_sem, Int.reduceToNat, Nat.reducePow, Int.reduceEq, Int.reduceNe, Int.reduceLT, Int.reduceLE, Nat.reduceAdd, Nat.reduceLeDiff, ↓reduceIte, Nat.reduceLT, Nat.reduceMul, Nat.reduceSub, reduceCtorEq, frzLoc, rowCells, vAppM, beq_iff_eq, bne_iff_ne, bne_self_eq_false, beq_self_eq_true, beq_true, beq_false, I, B, w, vf104_res, vf104_keep, h, h1]))))
    · rw [if_neg h2] at h
      (repeat (first
    | refine RX_seq ?_
    | refine RX_block ?_
    | ((first | refine RX_reg ?_ | refine RX_cond' ?_ | refine RX_draw0 ?_ | refine RX_draw rfl ?_ | refine RX_skip ?_ | refine RX_exit ?_ | refine RX_ret ?_); try (simp only [go_sem, Int.reduceToNat, Nat.reducePow, Int.reduceEq, Int.reduceNe, Int.reduceLT, Int.reduceLE, Nat.reduceAdd, Nat.reduceLeDiff, ↓reduceIte, Nat.reduceLT, Nat.reduceMul, Nat.reduceSub, reduceCtorEq, frzLoc, rowCells, vAppM, beq_iff_eq, bne_iff_ne, bne_self_eq_false, beq_self_eq_true, beq_true, beq_false, I, B, w, vf104_res, vf104_keep, h, h1]))))
theorem e78n (a b : Int) : CV VP 78 [.agg [.d (I 4), .d (I 0), .d (.sl [[I 2, I a, .sl []]])], .agg [.d (I 2), .d (I b), .d (.sl [])]] [] =
    some ⟨.tup [.agg [.d (I 5), .d (I 0), .d (.sl [[I 2, I (min a b), .sl []], [I 2, I (max a b), .sl []]])], .d (B true)], [], [], 0⟩ := by
  have h := e104n b a
  refine CV_run (vf := vf78) rfl rfl ?_
  rw [vf78_start]
  by_cases h1 : b < a
  · have m1 : min a b = b := by omega
    have m2 : max a b = a := by omega
    rw [m1, m2]
    (repeat (first
    | refine RX_seq ?_
    | refine RX_block ?_
    | ((first | refine RX_reg ?_ | refine RX_cond' ?_ | refine RX_draw0 ?_ | refine RX_draw rfl ?_ | refine RX_skip ?_ | refine RX_exit ?_ | refine RX_ret ?_); try (simp only [go_sem, Int.reduceToNat, Nat.reducePow, Int.reduceEq, Int.reduceNe, Int.reduceLT, Int.reduceLE, Nat.reduceAdd, Nat.reduceLeDiff, ↓reduceIte, Nat.reduceLT, Nat.reduceMul, Nat.reduceSub, reduceCtorEq, frzLoc, rowCells, vAppM, beq_iff_eq, bne_iff_ne, bne_self_eq_false, beq_self_eq_true, beq_true, beq_false, I, B, w, vf78_res, vf78_keep, h, h1]))))
  · have m1 : min a b = a := by omega
    have m2 : max a b = b := by omega
    rw [m1, m2]
    (repeat (first
    | refine RX_seq ?_
    | refine RX_block ?_
    | ((first | refine RX_reg ?_ | refine RX_cond' ?_ | refine RX_draw0 ?_ | refine RX_draw rfl ?_ | refine RX_skip ?_ | refine RX_exit ?_ | refine RX_ret ?_); try (simp only [go_sem, Int.reduceToNat, Nat.reducePow, Int.reduceEq, Int.reduceNe, Int.reduceLT, Int.reduceLE, Nat.reduceAdd, Nat.reduceLeDiff, ↓reduceIte, Nat.reduceLT, Nat.reduceMul, Nat.reduceSub, reduceCtorEq, frzLoc, rowCells, vAppM, beq_iff_eq, bne_iff_ne, bne_self_eq_false, beq_self_eq_true, beq_true, beq_false, I, B, w, vf78_res, vf78_keep, h, h1]))))
end Go.Proofs.Ytahiikdkgbbmfaa

namespace Go.Proofs.Ytahiikdkgbbmfaa
open Go.VM
def nmV (l : List Int) (k : Nat) : Int := nxV l k 3 * 1048576 + (1 + nxV l (nxA l k) 5)
theorem e68b {l : List Int} (hB : Bytes l) (id k : Nat) : ∀ bl, CtxOk bl id →
    CV VP 68 [.ptr id 0] (cx bl id l (k : Nat) []) = some ⟨.agg [.d (I 2), .d (I (nmV l k)), .d (.sl [])], cx bl id l (nxA l (nxA l k) : Nat) [], [], 0⟩ := by
  intro bl h
  have c3 : ∀ (k : Nat) (own : List (List V)), own.map V.erL = own → own.all (V.ltbL (bl.length + own.length)) = true → CV VP 29 [.ptr id 0, .d (I 3)] (cx bl id l (k : Nat) own) = some ⟨.d (I (nxV l k 3)), cx bl id l (nxA l k : Nat) own, [], 0⟩ := fun k own => e29 hB h (by decide) (by decide)
  have c5 : ∀ (k : Nat) (own : List (List V)), own.map V.erL = own → own.all (V.ltbL (bl.length + own.length)) = true → CV VP 29 [.ptr id 0, .d (I 5)] (cx bl id l (k : Nat) own) = some ⟨.d (I (nxV l k 5)), cx bl id l (nxA l k : Nat) own, [], 0⟩ := fun k own => e29 hB h (by decide) (by decide)
  have r1 := nxV_range hB (k := k) (n := 3) (by decide)
  have r2 := nxV_range hB (k := nxA l k) (n := 5) (by decide)
  have w1 : IntKind.i64.wrap (1 + nxV l (nxA l k) 5) = 1 + nxV l (nxA l k) 5 := w_in (by omega) (by omega)
  have w2 : IntKind.i64.wrap (nxV l k 3 * 1048576) = nxV l k 3 * 1048576 := w_in (by omega) (by omega)
  have w3 : IntKind.i64.wrap (nxV l k 3 * 1048576 + (1 + nxV l (nxA l k) 5)) = nmV l k := w_in (by omega) (by omega)
  refine CV_run (vf := vf68) rfl rfl ?_
  rw [vf68_start]
  (repeat (first
    | refine RX_seq ?_
    | refine RX_block ?_
    | ((first | refine RX_reg ?_ | refine RX_cond' ?_ | refine RX_draw0 ?_ | refine RX_draw rfl ?_ | refine RX_skip ?_ | refine RX_exit ?_ | refine RX_ret ?_); try (simp only [go_sem, Int.reduceToNat, Nat.reducePow, Int.reduceEq, Int.reduceNe, Int.reduceLT, Int.reduceLE, Nat.reduceAdd, Nat.reduceLeDiff, ↓reduceIte, Nat.reduceLT, Nat.reduceMul, Nat.reduceSub, reduceCtorEq, frzLoc, rowCells, vAppM, beq_iff_eq, bne_iff_ne, bne_self_eq_false, beq_self_eq_true, beq_true, beq_false, I, B, w, vf68_res, vf68_keep, cx_len, cx_app, cx_own0, cx_own, cx_setOwn0, cx_setOwn, cx_take, cx_takeN, Nat.add_right_cancel_iff, Nat.lt_irrefl, cx_nlt, Nat.not_lt_zero, cx_get' h, cx_setId' h, cx_er h, cx_all0 h, cx_all h, CtxOk.lt h, c3, c5, e70, w1, w2, w3, Nat.not_lt_zero]))))
end Go.Proofs.Ytahiikdkgbbmfaa


namespace Go.Proofs.Ytahiikdkgbbmfaa
open Go.VM
def leafO (l : List Int) (k : Nat) : Int := if nxV l k 12 % 4 = 0 then 1 else if nxV l k 12 % 4 = 3 then 9 else 2
def leafV (l : List Int) (k : Nat) : Int := if nxV l k 12 % 4 = 0 then nxV l (nxA l k) 6 else if nxV l k 12 % 4 = 3 then nxV l (nxA l k) 3 else nmV l (nxA l k)
def leafA (l : List Int) (k : Nat) : Nat := if nxV l k 12 % 4 = 0 then nxA l (nxA l k) else if nxV l k 12 % 4 = 3 then nxA l (nxA l k) else nxA l (nxA l (nxA l k))
theorem e32_1b {l : List Int} (hB : Bytes l) (id k : Nat) : ∀ bl, CtxOk bl id →
    CV VP 32 [.ptr id 0, .d (I 1)] (cx bl id l (k : Nat) []) = some ⟨.agg [.d (I (leafO l k)), .d (I (leafV l k)), .d (.sl [])], cx bl id l (leafA l k : Nat) [], [], 0⟩ := by
  intro bl h
  have cN : ∀ (n : Int), 0 < n → n ≤ 256 → ∀ (k : Nat) (own : List (List V)), own.map V.erL = own → own.all (V.ltbL (bl.length + own.length)) = true → CV VP 29 [.ptr id 0, .d (I n)] (cx bl id l (k : Nat) own) = some ⟨.d (I (nxV l k n)), cx bl id l (nxA l k : Nat) own, [], 0⟩ := fun n h1 h2 k own => e29 hB h h1 h2
  have c12 := cN 12 (by decide) (by decide)
  have c6 := cN 6 (by decide) (by decide)
  have c3 := cN 3 (by decide) (by decide)
  have cM : ∀ (k : Nat) (own : List (List V)), own.map V.erL = own → own.all (V.ltbL (bl.length + own.length)) = true → CV VP 68 [.ptr id 0] (cx bl id l (k : Nat) own) = some ⟨.agg [.d (I 2), .d (I (nmV l k)), .d (.sl [])], cx bl id l (nxA l (nxA l k) : Nat) own, [], 0⟩ := fun k own => cx_lift (e68b hB id k) h
  have r := nxV_range hB (k := k) (n := 12) (by decide)
  have hv : nxV l k 12 = 0 ∨ nxV l k 12 = 1 ∨ nxV l k 12 = 2 ∨ nxV l k 12 = 3 ∨ nxV l k 12 = 4 ∨ nxV l k 12 = 5 ∨ nxV l k 12 = 6 ∨ nxV l k 12 = 7 ∨ nxV l k 12 = 8 ∨ nxV l k 12 = 9 ∨ nxV l k 12 = 10 ∨ nxV l k 12 = 11 := by omega
  clear r cN
  refine CV_run (vf := vf32) rfl rfl ?_
  rw [vf32_start]
  rcases hv with hv | hv | hv | hv | hv | hv | hv | hv | hv | hv | hv | hv <;>
  · simp only [leafO, leafV, leafA, hv, Int.reduceMod, Int.reduceEq, if_true, if_false]
    (repeat (first
    | refine RX_seq ?_
    | refine RX_block ?_
    | ((first | refine RX_reg ?_ | refine RX_cond' ?_ | refine RX_draw0 ?_ | refine RX_draw rfl ?_ | refine RX_skip ?_ | refine RX_exit ?_ | refine RX_ret ?_); try (simp only [go_sem, Int.reduceToNat, Nat.reducePow, Int.reduceEq, Int.reduceNe, Int.reduceLT, Int.reduceLE, Nat.reduceAdd, Nat.reduceLeDiff, ↓reduceIte, Nat.reduceLT, Nat.reduceMul, Nat.reduceSub, reduceCtorEq, frzLoc, rowCells, vAppM, beq_iff_eq, bne_iff_ne, bne_self_eq_false, beq_self_eq_true, beq_true, beq_false, I, B, w, vf32_res, vf32_keep, cx_len, cx_app, cx_own0, cx_own, cx_setOwn0, cx_setOwn, cx_take, cx_takeN, Nat.add_right_cancel_iff, Nat.lt_irrefl, cx_nlt, Nat.not_lt_zero, cx_get' h, cx_setId' h, cx_er h, cx_all0 h, cx_all h, CtxOk.lt h, c12, c6, c3, cM, hv, e76, gt_iff_lt, Int.reduceTMod]))))
end Go.Proofs.Ytahiikdkgbbmfaa

namespace Go.Proofs.Ytahiikdkgbbmfaa
open Go.VM
theorem e21 {l : List Int} (n : Nat) (hn : n < 1000) : CV VP 21 [.d (byteD l), .d (I n)] [] = some ⟨.ptr 0 0, [[.sl 1 ((l.take n).map byteRow) (.own 0 0), .d (I 0)]], [0], 1⟩ := by
  have hall : (l.map byteRow).all (fun r => r.length == 1) = true := by
    rw [List.all_eq_true]
    intro r hr
    obtain ⟨z, _, rfl⟩ := List.mem_map.1 hr
    rfl
  have hall2 : ((l.take n).map byteRow).all (fun r => r.length == 1) = true := by
    rw [List.all_eq_true]
    intro r hr
    obtain ⟨z, _, rfl⟩ := List.mem_map.1 hr
    rfl
  refine CV_run (vf := vf21) rfl rfl ?_
  rw [vf21_start]
  have hall3 : (List.take n (l.map byteRow)).all (fun r => r.length == 1) = true := by rw [← List.map_take]; exact hall2
  by_cases h : (n : Int) < l.length
  · have h1 : ((n : Int) ≤ (l.length : Int)) := by omega
    have h2 : min n l.length ≤ 4294967296 := by omega
    (repeat (first
    | refine RX_seq ?_
    | refine RX_block ?_
    | ((first | refine RX_reg ?_ | refine RX_cond' ?_ | refine RX_draw0 ?_ | refine RX_draw rfl ?_ | refine RX_skip ?_ | refine RX_exit ?_ | refine RX_ret ?_); try (simp only [go_sem, Int.reduceToNat, Nat.reducePow, Int.reduceEq, Int.reduceNe, Int.reduceLT, Int.reduceLE, Nat.reduceAdd, Nat.reduceLeDiff, ↓reduceIte, Nat.reduceLT, Nat.reduceMul, Nat.reduceSub, reduceCtorEq, frzLoc, rowCells, vAppM, beq_iff_eq, bne_iff_ne, bne_self_eq_false, beq_self_eq_true, beq_true, beq_false, I, B, w, vf21_res, vf21_keep, byteD, h, h1, h2, hall, hall3, vSlice, vBounds, List.length_map, List.map_take, List.length_take]))))
  · have h3 : l.take n = l := List.take_of_length_le (by omega)
    have h2 : l.length ≤ 4294967296 ∨ True := .inr trivial
    have h4 : l.length ≤ 4294967296 := by omega
    have h5 : List.take l.length (l.map byteRow) = l.map byteRow := List.take_of_length_le (by simp)
    rw [h3]
    (repeat (first
    | refine RX_seq ?_
    | refine RX_block ?_
    | ((first | refine RX_reg ?_ | refine RX_cond' ?_ | refine RX_draw0 ?_ | refine RX_draw rfl ?_ | refine RX_skip ?_ | refine RX_exit ?_ | refine RX_ret ?_); try (simp only [go_sem, Int.reduceToNat, Nat.reducePow, Int.reduceEq, Int.reduceNe, Int.reduceLT, Int.reduceLE, Nat.reduceAdd, Nat.reduceLeDiff, ↓reduceIte, Nat.reduceLT, Nat.reduceMul, Nat.reduceSub, reduceCtorEq, frzLoc, rowCells, vAppM, beq_iff_eq, bne_iff_ne, bne_self_eq_false, beq_self_eq_true, beq_true, beq_false, I, B, w, vf21_res, vf21_keep, byteD, h, h4, h5, hall, vSlice, vBounds, List.length_map, Int.le_refl]))))
end Go.Proofs.Ytahiikdkgbbmfaa

namespace Go.Proofs.Ytahiikdkgbbmfaa
open Go.VM
/-- a term of the program -/
inductive Tm where
  | mk (op v : Int) (args : List Tm)
mutual
def Tm.row : Tm → List D
  | .mk op v args => [I op, I v, .sl (Tm.rows args)]
def Tm.rows : List Tm → List (List D)
  | [] => []
  | t :: ts => t.row :: Tm.rows ts
end
mutual
def Tm.eqb : Tm → Tm → Bool
  | .mk a b c, .mk x y z => a == x && (b == y && Tm.eqbs c z)
def Tm.eqbs : List Tm → List Tm → Bool
  | [], [] => true
  | t :: ts, u :: us => t.eqb u && Tm.eqbs ts us
  | _, _ => false
end
mutual
def Tm.small : Tm → Prop
  | .mk _ _ args => args.length < 1099511627776 ∧ Tm.smalls args
def Tm.smalls : List Tm → Prop
  | [] => True
  | t :: ts => t.small ∧ Tm.smalls ts
end
theorem Tm.rows_eq : ∀ ts : List Tm, Tm.rows ts = ts.map Tm.row
  | [] => rfl
  | t :: ts => by rw [Tm.rows, Tm.rows_eq ts]; rfl
theorem Tm.eqbs_drop {ts us : List Tm} {i : Nat} {t u : Tm} (h1 : ts[i]? = some t) (h2 : us[i]? = some u) : Tm.eqbs (ts.drop i) (us.drop i) = (t.eqb u && Tm.eqbs (ts.drop (i + 1)) (us.drop (i + 1))) := by
  have a := (List.getElem?_eq_some_iff.1 h1)
  have b := (List.getElem?_eq_some_iff.1 h2)
  obtain ⟨a1, a2⟩ := a
  obtain ⟨b1, b2⟩ := b
  rw [List.drop_eq_getElem_cons a1, List.drop_eq_getElem_cons b1, a2, b2, Tm.eqbs]
theorem Tm.smalls_mem : ∀ {ts : List Tm} {t : Tm}, Tm.smalls ts → t ∈ ts → t.small
  | t :: ts, u, h, hu => by
    rcases List.mem_cons.1 hu with rfl | hu
    · exact h.1
    · exact Tm.smalls_mem h.2 hu
theorem Tm.eqbs_len : ∀ {ts us : List Tm}, ts.length ≠ us.length → Tm.eqbs ts us = false
  | [], [], h => by simp at h
  | [], _ :: _, _ => rfl
  | _ :: _, [], _ => rfl
  | t :: ts, u :: us, h => by rw [Tm.eqbs, Tm.eqbs_len (by simpa using h), Bool.and_false]
theorem e19 : ∀ (n : Nat) (t u : Tm), SizeOf.sizeOf t < n → t.small → CV VP 19 [.agg (t.row.map .d), .agg (u.row.map .d)] [] = some ⟨.d (B (t.eqb u)), [], [], 0⟩
  | 0, t, u, h, _ => absurd h (Nat.not_lt_zero _)
  | n + 1, .mk a b ts, .mk x y us, hn, hs => by
    refine CV_run (vf := vf19) rfl rfl ?_
    rw [vf19_start]
    simp only [Tm.row, List.map_cons, List.map_nil, Tm.rows_eq]
    cases hax : (a != x) with
    | true =>
      (repeat (first
    | refine RX_seq ?_
    | refine RX_block ?_
    | ((first | refine RX_reg ?_ | refine RX_cond' ?_ | refine RX_draw0 ?_ | refine RX_draw rfl ?_ | refine RX_skip ?_ | refine RX_exit ?_ | refine RX_ret ?_); try (simp only [go_sem, Int.reduceToNat, Nat.reducePow, Int.reduceEq, Int.reduceNe, Int.reduceLT, Int.reduceLE, Nat.reduceAdd, Nat.reduceLeDiff, ↓reduceIte, Nat.reduceLT, Nat.reduceMul, Nat.reduceSub, reduceCtorEq, frzLoc, rowCells, vAppM, beq_iff_eq, bne_iff_ne, bne_self_eq_false, beq_self_eq_true, beq_true, beq_false, I, B, w, hax]))))
      (simp only [go_sem, Int.reduceToNat, Nat.reducePow, Int.reduceEq, Int.reduceNe, Int.reduceLT, Int.reduceLE, Nat.reduceAdd, Nat.reduceLeDiff, ↓reduceIte, Nat.reduceLT, Nat.reduceMul, Nat.reduceSub, reduceCtorEq, frzLoc, rowCells, vAppM, beq_iff_eq, bne_iff_ne, bne_self_eq_false, beq_self_eq_true, beq_true, beq_false, I, B, w, vf19, I, B, Tm.eqb])
      have : (a == x) = false := by simpa using hax
      rw [this]; rfl
    | false =>
    have hax' : (a == x) = true := by simpa using hax
    cases hby : (b != y) with
    | true =>
      (repeat (first
    | refine RX_seq ?_
    | refine RX_block ?_
    | ((first | refine RX_reg ?_ | refine RX_cond' ?_ | refine RX_draw0 ?_ | refine RX_draw rfl ?_ | refine RX_skip ?_ | refine RX_exit ?_ | refine RX_ret ?_); try (simp only [go_sem, Int.reduceToNat, Nat.reducePow, Int.reduceEq, Int.reduceNe, Int.reduceLT, Int.reduceLE, Nat.reduceAdd, Nat.reduceLeDiff, ↓reduceIte, Nat.reduceLT, Nat.reduceMul, Nat.reduceSub, reduceCtorEq, frzLoc, rowCells, vAppM, beq_iff_eq, bne_iff_ne, bne_self_eq_false, beq_self_eq_true, beq_true, beq_false, I, B, w, hax, hby]))))
      (simp only [go_sem, Int.reduceToNat, Nat.reducePow, Int.reduceEq, Int.reduceNe, Int.reduceLT, Int.reduceLE, Nat.reduceAdd, Nat.reduceLeDiff, ↓reduceIte, Nat.reduceLT, Nat.reduceMul, Nat.reduceSub, reduceCtorEq, frzLoc, rowCells, vAppM, beq_iff_eq, bne_iff_ne, bne_self_eq_false, beq_self_eq_true, beq_true, beq_false, I, B, w, vf19, I, B, Tm.eqb])
      have : (b == y) = false := by simpa using hby
      rw [this, Bool.false_and, Bool.and_false]
    | false =>
    have hby' : (b == y) = true := by simpa using hby
    cases hl : ((ts.length : Int) != us.length) with
    | true =>
      (repeat (first
    | refine RX_seq ?_
    | refine RX_block ?_
    | ((first | refine RX_reg ?_ | refine RX_cond' ?_ | refine RX_draw0 ?_ | refine RX_draw rfl ?_ | refine RX_skip ?_ | refine RX_exit ?_ | refine RX_ret ?_); try (simp only [go_sem, Int.reduceToNat, Nat.reducePow, Int.reduceEq, Int.reduceNe, Int.reduceLT, Int.reduceLE, Nat.reduceAdd, Nat.reduceLeDiff, ↓reduceIte, Nat.reduceLT, Nat.reduceMul, Nat.reduceSub, reduceCtorEq, frzLoc, rowCells, vAppM, beq_iff_eq, bne_iff_ne, bne_self_eq_false, beq_self_eq_true, beq_true, beq_false, I, B, w, hax, hby, hl, List.length_map]))))
      (simp only [go_sem, Int.reduceToNat, Nat.reducePow, Int.reduceEq, Int.reduceNe, Int.reduceLT, Int.reduceLE, Nat.reduceAdd, Nat.reduceLeDiff, ↓reduceIte, Nat.reduceLT, Nat.reduceMul, Nat.reduceSub, reduceCtorEq, frzLoc, rowCells, vAppM, beq_iff_eq, bne_iff_ne, bne_self_eq_false, beq_self_eq_true, beq_true, beq_false, I, B, w, vf19, I, B, Tm.eqb])
      have : ts.length ≠ us.length := by
        have : (ts.length : Int) ≠ us.length := by simpa using hl
        omega
      rw [Tm.eqbs_len this, Bool.and_false, Bool.and_false]
    | false =>
    have hlen : ts.length = us.length := by
      have : (ts.length : Int) = us.length := by simpa using hl
      omega
    (repeat (first
    | refine RX_seq ?_
    | refine RX_block ?_
    | ((first | refine RX_reg ?_ | refine RX_cond' ?_ | refine RX_draw0 ?_ | refine RX_draw rfl ?_ | refine RX_skip ?_ | refine RX_exit ?_ | refine RX_ret ?_); try (simp only [go_sem, Int.reduceToNat, Nat.reducePow, Int.reduceEq, Int.reduceNe, Int.reduceLT, Int.reduceLE, Nat.reduceAdd, Nat.reduceLeDiff, ↓reduceIte, Nat.reduceLT, Nat.reduceMul, Nat.reduceSub, reduceCtorEq, frzLoc, rowCells, vAppM, beq_iff_eq, bne_iff_ne, bne_self_eq_false, beq_self_eq_true, beq_true, beq_false, I, B, w, hax, hby, hl, List.length_map]))))
    refine RX_loop ?_
    refine RL_head ?_
    (simp only [go_sem, Int.reduceToNat, Nat.reducePow, Int.reduceEq, Int.reduceNe, Int.reduceLT, Int.reduceLE, Nat.reduceAdd, Nat.reduceLeDiff, ↓reduceIte, Nat.reduceLT, Nat.reduceMul, Nat.reduceSub, reduceCtorEq, frzLoc, rowCells, vAppM, beq_iff_eq, bne_iff_ne, bne_self_eq_false, beq_self_eq_true, beq_true, beq_false, I, B, w, St.head, forget, List.length_map, vf19K0, RLK_some])
    have hret : (Tm.mk a b ts).eqb (.mk x y us) = Tm.eqbs (ts.drop 0) (us.drop 0) := by rw [Tm.eqb, hax', hby']; rfl
    rw [hret]
    obtain ⟨hs1, hs2⟩ := hs
    suffices H : ∀ (m i : Nat), i + m = ts.length → RX VP vf19L0 ⟨(.any :: .any :: .ptr 0 0 :: .ptr 1 0 :: .any :: .d (.lit (.int .i64 (i : Int))) :: .any :: .any :: .any :: .any :: .any :: .any :: .any :: .any :: .any :: .any :: .any :: .any :: .any :: .any :: .any :: .any :: .any :: .any :: .any :: .any :: .any :: .any :: .any :: .any :: .any :: .any :: .any :: .any :: .any :: .any :: .any :: .any :: .any :: .any :: .any :: .any :: .any :: .any :: .any :: .any :: []),
        [[V.d (I a), V.d (I b), V.d (D.sl (List.map Tm.row ts))], [V.d (I x), V.d (I y), V.d (D.sl (List.map Tm.row us))]], [], 0, 0, 0⟩
        (again VP vf19K0 vf19L0 2 (outQ 0 (thn VP ((VCode.reg [{ dst := some 4, op := VOp.mov (VArg.c (V.d (D.lit (Value.bool true)))), guard := none }]).seq VCode.ret)
          (retQ vf19 0 { r := V.d (B (Tm.eqbs (ts.drop i) (us.drop i))), blocks := [], live := [], gn := 0 })))) from H ts.length 0 (Nat.zero_add _)
    intro m
    induction m with
    | zero =>
      intro i hi
      have h1 : ¬ i < ts.length := by omega
      unfold vf19L0
      (repeat (first
    | refine RX_seq ?_
    | refine RX_block ?_
    | ((first | refine RX_reg ?_ | refine RX_cond' ?_ | refine RX_draw0 ?_ | refine RX_draw rfl ?_ | refine RX_skip ?_ | refine RX_exit ?_ | refine RX_ret ?_); try (simp only [go_sem, Int.reduceToNat, Nat.reducePow, Int.reduceEq, Int.reduceNe, Int.reduceLT, Int.reduceLE, Nat.reduceAdd, Nat.reduceLeDiff, ↓reduceIte, Nat.reduceLT, Nat.reduceMul, Nat.reduceSub, reduceCtorEq, frzLoc, rowCells, vAppM, beq_iff_eq, bne_iff_ne, bne_self_eq_false, beq_self_eq_true, beq_true, beq_false, I, B, w, List.length_map, Int.ofNat_lt, h1, vf19_res, vf19_keep]))))
      rw [List.drop_eq_nil_of_le (by omega), List.drop_eq_nil_of_le (by omega)]
      rfl
    | succ m ih =>
      intro i hi
      have h1 : i < ts.length := by omega
      have h2 : i < us.length := by omega
      obtain ⟨t, ht⟩ : ∃ t, ts[i]? = some t := ⟨_, List.getElem?_eq_getElem h1⟩
      obtain ⟨u, hu⟩ : ∃ u, us[i]? = some u := ⟨_, List.getElem?_eq_getElem h2⟩
      have hc := e19 n t u (by
        have := List.sizeOf_lt_of_mem (List.mem_of_getElem? ht)
        simp only [Tm.mk.sizeOf_spec] at hn
        omega) (Tm.smalls_mem hs2 (List.mem_of_getElem? ht))
      have hrow : ∀ t : Tm, t.row.length = 3 := fun t => by cases t; rfl
      rw [Tm.eqbs_drop ht hu]
      cases he : t.eqb u with
      | false =>
        rw [he] at hc
        unfold vf19L0
        (repeat (first
    | refine RX_seq ?_
    | refine RX_block ?_
    | ((first | refine RX_reg ?_ | refine RX_cond' ?_ | refine RX_draw0 ?_ | refine RX_draw rfl ?_ | refine RX_skip ?_ | refine RX_exit ?_ | refine RX_ret ?_); try (simp only [go_sem, Int.reduceToNat, Nat.reducePow, Int.reduceEq, Int.reduceNe, Int.reduceLT, Int.reduceLE, Nat.reduceAdd, Nat.reduceLeDiff, ↓reduceIte, Nat.reduceLT, Nat.reduceMul, Nat.reduceSub, reduceCtorEq, frzLoc, rowCells, vAppM, beq_iff_eq, bne_iff_ne, bne_self_eq_false, beq_self_eq_true, beq_true, beq_false, I, B, w, List.length_map, Int.ofNat_lt, h1, h2, List.getElem?_map, ht, hu, vf19_res, vf19_keep, hrow, List.take_of_length_le, erL_d, ltbL_d, hc]))))
        rw [Bool.false_and]
      | true =>
        rw [he] at hc
        unfold vf19L0
        (repeat (first
    | refine RX_seq ?_
    | refine RX_block ?_
    | ((first | refine RX_reg ?_ | refine RX_cond' ?_ | refine RX_draw0 ?_ | refine RX_draw rfl ?_ | refine RX_skip ?_ | refine RX_exit ?_ | refine RX_ret ?_); try (simp only [go_sem, Int.reduceToNat, Nat.reducePow, Int.reduceEq, Int.reduceNe, Int.reduceLT, Int.reduceLE, Nat.reduceAdd, Nat.reduceLeDiff, ↓reduceIte, Nat.reduceLT, Nat.reduceMul, Nat.reduceSub, reduceCtorEq, frzLoc, rowCells, vAppM, beq_iff_eq, bne_iff_ne, bne_self_eq_false, beq_self_eq_true, beq_true, beq_false, I, B, w, List.length_map, Int.ofNat_lt, h1, h2, List.getElem?_map, ht, hu, vf19_res, vf19_keep, hrow, List.take_of_length_le, erL_d, ltbL_d, hc, w_nat (Nat.lt_trans h1 hs1)]))))
        refine RL_head ?_
        (simp only [go_sem, Int.reduceToNat, Nat.reducePow, Int.reduceEq, Int.reduceNe, Int.reduceLT, Int.reduceLE, Nat.reduceAdd, Nat.reduceLeDiff, ↓reduceIte, Nat.reduceLT, Nat.reduceMul, Nat.reduceSub, reduceCtorEq, frzLoc, rowCells, vAppM, beq_iff_eq, bne_iff_ne, bne_self_eq_false, beq_self_eq_true, beq_true, beq_false, I, B, w, St.head, forget, List.length_map, vf19K0, RLK_some])
        exact ih (i + 1) (by omega)
end Go.Proofs.Ytahiikdkgbbmfaa

namespace Go.Proofs.Ytahiikdkgbbmfaa
open Go.VM
theorem e26 (ts us : List Tm) (hs1 : ts.length < 1099511627776) (hs2 : Tm.smalls ts) : CV VP 26 [.d (.sl (ts.map Tm.row)), .d (.sl (us.map Tm.row))] [] = some ⟨.d (B (Tm.eqbs ts us)), [], [], 0⟩ := by
  refine CV_run (vf := vf26) rfl rfl ?_
  rw [vf26_start]
  cases hl : ((ts.length : Int) != us.length) with
  | true =>
    have : ts.length ≠ us.length := by
      have : (ts.length : Int) ≠ us.length := by simpa using hl
      omega
    rw [Tm.eqbs_len this]
    (repeat (first
    | refine RX_seq ?_
    | refine RX_block ?_
    | ((first | refine RX_reg ?_ | refine RX_cond' ?_ | refine RX_draw0 ?_ | refine RX_draw rfl ?_ | refine RX_skip ?_ | refine RX_exit ?_ | refine RX_ret ?_); try (simp only [go_sem, Int.reduceToNat, Nat.reducePow, Int.reduceEq, Int.reduceNe, Int.reduceLT, Int.reduceLE, Nat.reduceAdd, Nat.reduceLeDiff, ↓reduceIte, Nat.reduceLT, Nat.reduceMul, Nat.reduceSub, reduceCtorEq, frzLoc, rowCells, vAppM, beq_iff_eq, bne_iff_ne, bne_self_eq_false, beq_self_eq_true, beq_true, beq_false, I, B, w, hl, List.length_map, vf26_res, vf26_keep]))))
  | false =>
  have hlen : ts.length = us.length := by
    have : (ts.length : Int) = us.length := by simpa using hl
    omega
  (repeat (first
    | refine RX_seq ?_
    | refine RX_block ?_
    | ((first | refine RX_reg ?_ | refine RX_cond' ?_ | refine RX_draw0 ?_ | refine RX_draw rfl ?_ | refine RX_skip ?_ | refine RX_exit ?_ | refine RX_ret ?_); try (simp only [go_sem, Int.reduceToNat, Nat.reducePow, Int.reduceEq, Int.reduceNe, Int.reduceLT, Int.reduceLE, Nat.reduceAdd, Nat.reduceLeDiff, ↓reduceIte, Nat.reduceLT, Nat.reduceMul, Nat.reduceSub, reduceCtorEq, frzLoc, rowCells, vAppM, beq_iff_eq, bne_iff_ne, bne_self_eq_false, beq_self_eq_true, beq_true, beq_false, I, B, w, hl, List.length_map]))))
  refine RX_loop ?_
  refine RL_head ?_
  (simp only [go_sem, Int.reduceToNat, Nat.reducePow, Int.reduceEq, Int.reduceNe, Int.reduceLT, Int.reduceLE, Nat.reduceAdd, Nat.reduceLeDiff, ↓reduceIte, Nat.reduceLT, Nat.reduceMul, Nat.reduceSub, reduceCtorEq, frzLoc, rowCells, vAppM, beq_iff_eq, bne_iff_ne, bne_self_eq_false, beq_self_eq_true, beq_true, beq_false, I, B, w, St.head, forget, List.length_map, vf26K0, RLK_some])
  have hret : Tm.eqbs ts us = Tm.eqbs (ts.drop 0) (us.drop 0) := rfl
  rw [hret]
  suffices H : ∀ (m i : Nat), i + m = ts.length → RX VP vf26L0 ⟨(.d (.sl (ts.map Tm.row)) :: .d (.sl (us.map Tm.row)) :: .any :: .any :: .any :: .d (.lit (.int .i64 (i : Int))) :: .any :: .any :: .any :: .any :: .any :: .any :: .any :: .any :: .any :: .any :: .any :: .any :: .any :: .any :: .any :: .any :: .any :: .any :: .any :: .any :: .any :: []), [], [], 0, 0, 0⟩
      (again VP vf26K0 vf26L0 0 (outQ 0 (thn VP ((VCode.reg [{ dst := some 4, op := VOp.mov (VArg.c (V.d (D.lit (Value.bool true)))), guard := none }]).seq VCode.ret)
        (retQ vf26 0 { r := V.d (B (Tm.eqbs (ts.drop i) (us.drop i))), blocks := [], live := [], gn := 0 })))) from H ts.length 0 (Nat.zero_add _)
  intro m
  induction m with
  | zero =>
    intro i hi
    have h1 : ¬ i < ts.length := by omega
    unfold vf26L0
    (repeat (first
    | refine RX_seq ?_
    | refine RX_block ?_
    | ((first | refine RX_reg ?_ | refine RX_cond' ?_ | refine RX_draw0 ?_ | refine RX_draw rfl ?_ | refine RX_skip ?_ | refine RX_exit ?_ | refine RX_ret ?_); try (simp only [go_sem, Int.reduceToNat, Nat.reducePow, Int.reduceEq, Int.reduceNe, Int.reduceLT, Int.reduceLE, Nat.reduceAdd, Nat.reduceLeDiff, ↓reduceIte, Nat.reduceLT, Nat.reduceMul, Nat.reduceSub, reduceCtorEq, frzLoc, rowCells, vAppM, beq_iff_eq, bne_iff_ne, bne_self_eq_false, beq_self_eq_true, beq_true, beq_false, I, B, w, List.length_map, h1, vf26_res, vf26_keep]))))
    rw [List.drop_eq_nil_of_le (by omega), List.drop_eq_nil_of_le (by omega)]
    rfl
  | succ m ih =>
    intro i hi
    have h1 : i < ts.length := by omega
    have h2 : i < us.length := by omega
    obtain ⟨t, ht⟩ : ∃ t, ts[i]? = some t := ⟨_, List.getElem?_eq_getElem h1⟩
    obtain ⟨u, hu⟩ : ∃ u, us[i]? = some u := ⟨_, List.getElem?_eq_getElem h2⟩
    have hc := e19 _ t u (Nat.lt_succ_self _) (Tm.smalls_mem hs2 (List.mem_of_getElem? ht))
    have hrow : ∀ t : Tm, t.row.length = 3 := fun t => by cases t; rfl
    rw [Tm.eqbs_drop ht hu]
    cases he : t.eqb u with
    | false =>
      rw [he] at hc
      unfold vf26L0
      (repeat (first
    | refine RX_seq ?_
    | refine RX_block ?_
    | ((first | refine RX_reg ?_ | refine RX_cond' ?_ | refine RX_draw0 ?_ | refine RX_draw rfl ?_ | refine RX_skip ?_ | refine RX_exit ?_ | refine RX_ret ?_); try (simp only [go_sem, Int.reduceToNat, Nat.reducePow, Int.reduceEq, Int.reduceNe, Int.reduceLT, Int.reduceLE, Nat.reduceAdd, Nat.reduceLeDiff, ↓reduceIte, Nat.reduceLT, Nat.reduceMul, Nat.reduceSub, reduceCtorEq, frzLoc, rowCells, vAppM, beq_iff_eq, bne_iff_ne, bne_self_eq_false, beq_self_eq_true, beq_true, beq_false, I, B, w, List.length_map, h1, h2, List.getElem?_map, ht, hu, vf26_res, vf26_keep, hrow, List.take_of_length_le, erL_d, ltbL_d, hc]))))
      rw [Bool.false_and]
    | true =>
      rw [he] at hc
      unfold vf26L0
      (repeat (first
    | refine RX_seq ?_
    | refine RX_block ?_
    | ((first | refine RX_reg ?_ | refine RX_cond' ?_ | refine RX_draw0 ?_ | refine RX_draw rfl ?_ | refine RX_skip ?_ | refine RX_exit ?_ | refine RX_ret ?_); try (simp only [go_sem, Int.reduceToNat, Nat.reducePow, Int.reduceEq, Int.reduceNe, Int.reduceLT, Int.reduceLE, Nat.reduceAdd, Nat.reduceLeDiff, ↓reduceIte, Nat.reduceLT, Nat.reduceMul, Nat.reduceSub, reduceCtorEq, frzLoc, rowCells, vAppM, beq_iff_eq, bne_iff_ne, bne_self_eq_false, beq_self_eq_true, beq_true, beq_false, I, B, w, List.length_map, h1, h2, List.getElem?_map, ht, hu, vf26_res, vf26_keep, hrow, List.take_of_length_le, erL_d, ltbL_d, hc, w_nat (Nat.lt_trans h1 hs1)]))))
      refine RL_head ?_
      (simp only [go_sem, Int.reduceToNat, Nat.reducePow, Int.reduceEq, Int.reduceNe, Int.reduceLT, Int.reduceLE, Nat.reduceAdd, Nat.reduceLeDiff, ↓reduceIte, Nat.reduceLT, Nat.reduceMul, Nat.reduceSub, reduceCtorEq, frzLoc, rowCells, vAppM, beq_iff_eq, bne_iff_ne, bne_self_eq_false, beq_self_eq_true, beq_true, beq_false, I, B, w, St.head, forget, List.length_map, vf26K0, RLK_some])
      exact ih (i + 1) (by omega)
end Go.Proofs.Ytahiikdkgbbmfaa

namespace Go.Proofs.Ytahiikdkgbbmfaa
open Go.VM
def Tm.op : Tm → Int | .mk a _ _ => a
def Tm.val : Tm → Int | .mk _ b _ => b
def Tm.args : Tm → List Tm | .mk _ _ c => c
theorem Tm.op_mk (a b : Int) (c : List Tm) : (Tm.mk a b c).op = a := rfl
theorem Tm.val_mk (a b : Int) (c : List Tm) : (Tm.mk a b c).val = b := rfl
theorem Tm.args_mk (a b : Int) (c : List Tm) : (Tm.mk a b c).args = c := rfl
theorem Tm.row_eq (t : Tm) : t.row = [I t.op, I t.val, .sl (t.args.map Tm.row)] := by cases t; rw [Tm.row, Tm.rows_eq]; rfl
theorem Tm.row_mk (a b : Int) (c : List Tm) : (Tm.mk a b c).row = [I a, I b, .sl (c.map Tm.row)] := by rw [Tm.row, Tm.rows_eq]
abbrev Tm.ag (t : Tm) : V := .agg [.d (I t.op), .d (I t.val), .d (.sl (t.args.map Tm.row))]
theorem Tm.rows3 (ts : List Tm) (h : ts.length ≤ 4294967296) : Rows3 (ts.map Tm.row) :=
  ⟨by simpa using h, by rw [List.all_eq_true]; intro r hr; obtain ⟨t, _, rfl⟩ := List.mem_map.1 hr; rw [Tm.row_eq]; rfl⟩
def nmT (l : List Int) (k : Nat) : Tm := .mk 2 (nmV l k) []
def nmA (l : List Int) (k : Nat) : Nat := nxA l (nxA l k)
/-- a term that is drawn -/
def drT (l : List Int) : Nat → Nat → Tm × Nat
  | 0, k => (.mk (leafO l k) (leafV l k) [], leafA l k)
  | d + 1, k =>
    if nxV l k 12 ≤ 3 then (.mk (leafO l k) (leafV l k) [], leafA l k)
    else if nxV l k 12 ≤ 5 then (.mk 3 0 (drL (drT l d) (nxV l (nxA l k) 4).toNat (nxA l (nxA l k))).1, (drL (drT l d) (nxV l (nxA l k) 4).toNat (nxA l (nxA l k))).2)
    else if nxV l k 12 = 6 then (.mk 4 0 [nmT l (nxA l k)], nmA l (nxA l k))
    else if nxV l k 12 = 7 then (.mk 5 0 [.mk 2 (min (nmV l (nxA l k)) (nmV l (nmA l (nxA l k)))) [], .mk 2 (max (nmV l (nxA l k)) (nmV l (nmA l (nxA l k)))) []], nmA l (nmA l (nxA l k)))
    else if nxV l k 12 = 8 then (.mk 6 (1 + nxV l (nxA l k) 9) [(drT l d (nxA l (nxA l k))).1], (drT l d (nxA l (nxA l k))).2)
    else if nxV l k 12 ≤ 10 then (.mk 7 0 [(drT l d (nxA l k)).1, (drT l d (drT l d (nxA l k)).2).1], (drT l d (drT l d (nxA l k)).2).2)
    else (.mk 8 (nxV l (nxA l k) 3) [(drT l d (nxA l (nxA l k))).1], (drT l d (nxA l (nxA l k))).2)
theorem drL_small {f : Nat → Tm × Nat} (hf : ∀ k, (f k).1.small) : ∀ n k, Tm.smalls (drL f n k).1
  | 0, _ => trivial
  | n + 1, k => ⟨hf k, drL_small hf n _⟩
theorem drT_small {l : List Int} (hB : Bytes l) : ∀ d k, (drT l d k).1.small
  | 0, k => ⟨by simp [List.length_cons], trivial⟩
  | d + 1, k => by
    have ih := drT_small hB d
    rw [drT]
    split
    · exact ⟨by simp [List.length_cons], trivial⟩
    split
    · refine ⟨?_, drL_small ih _ _⟩
      rw [drL_len]
      have := nxV_range hB (k := nxA l k) (n := 4) (by decide)
      omega
    split
    · exact ⟨by simp [List.length_cons], ⟨by simp [List.length_cons], trivial⟩, trivial⟩
    split
    · exact ⟨by simp [List.length_cons], ⟨by simp [List.length_cons], trivial⟩, ⟨by simp [List.length_cons], trivial⟩, trivial⟩
    split
    · exact ⟨by simp [List.length_cons], ih _, trivial⟩
    split
    · exact ⟨by simp [List.length_cons], ih _, ih _, trivial⟩
    · exact ⟨by simp [List.length_cons], ih _, trivial⟩
end Go.Proofs.Ytahiikdkgbbmfaa

namespace Go.Proofs.Ytahiikdkgbbmfaa
open Go.VM
theorem L32 {l : List Int} {d id n bs : Nat} {bl : List (List V)} {dv : Int} {own : List (List V)} {Q : VExit → St → Prop} (h : CtxOk bl id) (ho : own = [[.d (I 0), .d (I 0), .d (.sl [])]]) (hn : n = bl.length + 1) (hdv : IntKind.i64.wrap (dv - 1) = ((d + 1 : Nat) : Int))
    (cT : ∀ (k : Nat) (own : List (List V)), own.map V.erL = own → own.all (V.ltbL (bl.length + own.length)) = true → CV VP 32 [.ptr id 0, .d (I ((d + 1 : Nat) : Int))] (cx bl id l (k : Nat) own) = some ⟨(drT l d k).1.ag, cx bl id l ((drT l d k).2 : Nat) own, [], 0⟩) :
    ∀ (m k : Nat) (rows : List (List D)) (v : V) (live : List Nat) (gn : Nat), Acc 3 v live rows → rows.length + m < 1000 →
      (∀ v live gn, Acc 3 v live (rows ++ (drL (drT l d) m k).1.map Tm.row) → Q (.exit 1) ⟨(.ptr id 0 :: .d (I dv) :: .any :: .any :: .ptr bl.length 0 :: .any :: v :: .d (I 0) :: .any :: .any :: .any :: .any :: .any :: .any :: .any :: .any :: .any :: .any :: .any :: .any :: .any :: .any :: .any :: .any :: .any :: .any :: .any :: .any :: .any :: .any :: .any :: .any :: .any :: .any :: .any :: .any :: .any :: .any :: .any :: .any :: .any :: .d (I 0) :: .d (B false) :: .any :: .any :: .any :: .any :: .any :: .any :: .any :: .any :: .any :: .any :: .any :: .any :: .any :: .any :: .any :: .any :: .any :: .any :: .any :: .any :: .any :: .any :: .any :: .any :: .any :: .any :: .any :: .any :: .any :: .any :: .any :: .any :: .any :: .any :: .any :: .any :: .any :: .any :: .any :: .any :: .any :: .any :: .any :: .any :: .any :: .any :: .any :: .any :: .any :: .any :: .any :: .any :: .any :: .any :: .any :: .any :: .any :: .any :: []), cx bl id l ((drL (drT l d) m k).2 : Nat) own, live, gn, bs, 0⟩) →
      RX VP vf32L0 ⟨(.ptr id 0 :: .d (I dv) :: .any :: .any :: .ptr bl.length 0 :: .any :: v :: .d (I (m : Nat)) :: .any :: .any :: .any :: .any :: .any :: .any :: .any :: .any :: .any :: .any :: .any :: .any :: .any :: .any :: .any :: .any :: .any :: .any :: .any :: .any :: .any :: .any :: .any :: .any :: .any :: .any :: .any :: .any :: .any :: .any :: .any :: .any :: .any :: .any :: .any :: .any :: .any :: .any :: .any :: .any :: .any :: .any :: .any :: .any :: .any :: .any :: .any :: .any :: .any :: .any :: .any :: .any :: .any :: .any :: .any :: .any :: .any :: .any :: .any :: .any :: .any :: .any :: .any :: .any :: .any :: .any :: .any :: .any :: .any :: .any :: .any :: .any :: .any :: .any :: .any :: .any :: .any :: .any :: .any :: .any :: .any :: .any :: .any :: .any :: .any :: .any :: .any :: .any :: .any :: .any :: .any :: .any :: .any :: []), cx bl id l (k : Nat) own, live, gn, bs, 0⟩ (again VP vf32K0 vf32L0 n Q) := by
  subst ho
  subst hn
  have hid : id < bl.length + 1 := Nat.lt_succ_of_lt h.lt
  have hb1 : bl.length < bl.length + 1 := Nat.lt_succ_self _
  intro m
  induction m with
  | zero =>
    intro k rows v live gn hv hl hQ
    refine vf32L0_go ?_
    simp only [drL, List.map_nil, List.append_nil] at hQ
    (repeat (first
    | refine RX_seq ?_
    | refine RX_block ?_
    | ((first | refine RX_reg ?_ | refine RX_cond' ?_ | refine RX_draw0 ?_ | refine RX_draw rfl ?_ | refine RX_skip ?_ | refine RX_exit ?_ | refine RX_ret ?_); try (simp only [go_sem, Int.reduceToNat, Nat.reducePow, Int.reduceEq, Int.reduceNe, Int.reduceLT, Int.reduceLE, Nat.reduceAdd, Nat.reduceLeDiff, ↓reduceIte, Nat.reduceLT, Nat.reduceMul, Nat.reduceSub, reduceCtorEq, frzLoc, rowCells, vAppM, beq_iff_eq, bne_iff_ne, bne_self_eq_false, beq_self_eq_true, beq_true, beq_false, I, B, w, vf32_res, vf32_keep, gt_iff_lt]))))
    exact hQ _ _ _ hv
  | succ m ih =>
    intro k rows v live gn hv hl hQ
    have hm : (0 : Int) < ((m + 1 : Nat) : Int) := by omega
    have hwm : IntKind.i64.wrap (((m + 1 : Nat) : Int) - 1) = (m : Int) := by rw [w_in (by omega) (by omega)]; omega
    have hrl : rows.length + 1 ≤ 4294967296 := by omega
    have hrl2 : rows.length + 1 ≤ appBound := by unfold appBound; omega
    have hrow : Tm.row (drT l d k).1 = [I (drT l d k).1.op, I (drT l d k).1.val, .sl ((drT l d k).1.args.map Tm.row)] := Tm.row_eq _
    rcases hv with ⟨rfl, rfl, rfl⟩ | ⟨g, rfl, rfl⟩
    · refine vf32L0_go ?_
      (repeat (first
    | refine RX_seq ?_
    | refine RX_block ?_
    | ((first | refine RX_reg ?_ | refine RX_cond' ?_ | refine RX_draw0 ?_ | refine RX_draw rfl ?_ | refine RX_skip ?_ | refine RX_exit ?_ | refine RX_ret ?_); try (simp only [go_sem, Int.reduceToNat, Nat.reducePow, Int.reduceEq, Int.reduceNe, Int.reduceLT, Int.reduceLE, Nat.reduceAdd, Nat.reduceLeDiff, ↓reduceIte, Nat.reduceLT, Nat.reduceMul, Nat.reduceSub, reduceCtorEq, frzLoc, rowCells, vAppM, beq_iff_eq, bne_iff_ne, bne_self_eq_false, beq_self_eq_true, beq_true, beq_false, I, B, w, cx_len, cx_app, cx_own0, cx_own, cx_setOwn0, cx_setOwn, cx_take, cx_takeN, Nat.add_right_cancel_iff, Nat.lt_irrefl, cx_nlt, Nat.not_lt_zero, cx_get' h, cx_setId' h, cx_er h, cx_all0 h, cx_all h, CtxOk.lt h, vf32_res, vf32_keep, gt_iff_lt, hm, hwm, hdv, cT, hid, hb1]))))
      refine RL_head ?_
      (simp only [go_sem, Int.reduceToNat, Nat.reducePow, Int.reduceEq, Int.reduceNe, Int.reduceLT, Int.reduceLE, Nat.reduceAdd, Nat.reduceLeDiff, ↓reduceIte, Nat.reduceLT, Nat.reduceMul, Nat.reduceSub, reduceCtorEq, frzLoc, rowCells, vAppM, beq_iff_eq, bne_iff_ne, bne_self_eq_false, beq_self_eq_true, beq_true, beq_false, I, B, w, St.head, forget, vf32K0, RLK_some, cx_len, cx_app, cx_own0, cx_own, cx_setOwn0, cx_setOwn, cx_take, cx_takeN, Nat.add_right_cancel_iff, Nat.lt_irrefl, cx_nlt, Nat.not_lt_zero, cx_get' h, cx_setId' h, cx_er h, cx_all0 h, cx_all h, CtxOk.lt h, hid, hb1])
      refine ih (drT l d k).2 [[I (drT l d k).1.op, I (drT l d k).1.val, .sl ((drT l d k).1.args.map Tm.row)]] (.sl 3 [[I (drT l d k).1.op, I (drT l d k).1.val, .sl ((drT l d k).1.args.map Tm.row)]] (.own 0 gn)) [gn] (gn + 1) (.inr ⟨_, rfl, rfl⟩) (by simp; omega) fun v live gn hv => ?_
      refine hQ v live gn ?_
      simp only [drL, List.map_cons, hrow]
      exact hv
    · refine vf32L0_go ?_
      (repeat (first
    | refine RX_seq ?_
    | refine RX_block ?_
    | ((first | refine RX_reg ?_ | refine RX_cond' ?_ | refine RX_draw0 ?_ | refine RX_draw rfl ?_ | refine RX_skip ?_ | refine RX_exit ?_ | refine RX_ret ?_); try (simp only [go_sem, Int.reduceToNat, Nat.reducePow, Int.reduceEq, Int.reduceNe, Int.reduceLT, Int.reduceLE, Nat.reduceAdd, Nat.reduceLeDiff, ↓reduceIte, Nat.reduceLT, Nat.reduceMul, Nat.reduceSub, reduceCtorEq, frzLoc, rowCells, vAppM, beq_iff_eq, bne_iff_ne, bne_self_eq_false, beq_self_eq_true, beq_true, beq_false, I, B, w, cx_len, cx_app, cx_own0, cx_own, cx_setOwn0, cx_setOwn, cx_take, cx_takeN, Nat.add_right_cancel_iff, Nat.lt_irrefl, cx_nlt, Nat.not_lt_zero, cx_get' h, cx_setId' h, cx_er h, cx_all0 h, cx_all h, CtxOk.lt h, vf32_res, vf32_keep, gt_iff_lt, hm, hwm, hdv, cT, hid, hb1, hrl]))))
      refine RL_head ?_
      (simp only [go_sem, Int.reduceToNat, Nat.reducePow, Int.reduceEq, Int.reduceNe, Int.reduceLT, Int.reduceLE, Nat.reduceAdd, Nat.reduceLeDiff, ↓reduceIte, Nat.reduceLT, Nat.reduceMul, Nat.reduceSub, reduceCtorEq, frzLoc, rowCells, vAppM, beq_iff_eq, bne_iff_ne, bne_self_eq_false, beq_self_eq_true, beq_true, beq_false, I, B, w, St.head, forget, vf32K0, RLK_some, cx_len, cx_app, cx_own0, cx_own, cx_setOwn0, cx_setOwn, cx_take, cx_takeN, Nat.add_right_cancel_iff, Nat.lt_irrefl, cx_nlt, Nat.not_lt_zero, cx_get' h, cx_setId' h, cx_er h, cx_all0 h, cx_all h, CtxOk.lt h, hid, hb1])
      refine ih (drT l d k).2 (rows ++ [[I (drT l d k).1.op, I (drT l d k).1.val, .sl ((drT l d k).1.args.map Tm.row)]]) (.sl 3 (rows ++ [[I (drT l d k).1.op, I (drT l d k).1.val, .sl ((drT l d k).1.args.map Tm.row)]]) (.own 0 gn)) [gn] (gn + 1) (.inr ⟨_, rfl, rfl⟩) (by simp; omega) fun v live gn hv => ?_
      refine hQ v live gn ?_
      simp only [drL, List.map_cons, hrow]
      simpa using hv
end Go.Proofs.Ytahiikdkgbbmfaa

namespace Go.Proofs.Ytahiikdkgbbmfaa
open Go.VM
set_option maxHeartbeats 2000000 in
theorem e32b {l : List Int} (hB : Bytes l) : ∀ (d : Nat), d < 100 → ∀ (id k : Nat) bl, CtxOk bl id →
    CV VP 32 [.ptr id 0, .d (I ((d + 1 : Nat) : Int))] (cx bl id l (k : Nat) []) = some ⟨(drT l d k).1.ag, cx bl id l ((drT l d k).2 : Nat) [], [], 0⟩
  | 0, _, id, k, bl, h => e32_1b hB id k bl h
  | d + 1, hd, id, k, bl, h => by
    have ih := e32b hB d (by omega)
    have cN : ∀ (n : Int), 0 < n → n ≤ 256 → ∀ (k : Nat) (own : List (List V)), own.map V.erL = own → own.all (V.ltbL (bl.length + own.length)) = true → CV VP 29 [.ptr id 0, .d (I n)] (cx bl id l (k : Nat) own) = some ⟨.d (I (nxV l k n)), cx bl id l (nxA l k : Nat) own, [], 0⟩ := fun n h1 h2 k own => e29 hB h h1 h2
    have c12 := cN 12 (by decide) (by decide)
    have c9 := cN 9 (by decide) (by decide)
    have c6 := cN 6 (by decide) (by decide)
    have c4 := cN 4 (by decide) (by decide)
    have c3 := cN 3 (by decide) (by decide)
    have cM : ∀ (k : Nat) (own : List (List V)), own.map V.erL = own → own.all (V.ltbL (bl.length + own.length)) = true → CV VP 68 [.ptr id 0] (cx bl id l (k : Nat) own) = some ⟨.agg [.d (I 2), .d (I (nmV l k)), .d (.sl [])], cx bl id l (nmA l k : Nat) own, [], 0⟩ := fun k own => cx_lift (e68b hB id k) h
    have cT : ∀ (k : Nat) (own : List (List V)), own.map V.erL = own → own.all (V.ltbL (bl.length + own.length)) = true → CV VP 32 [.ptr id 0, .d (I ((d + 1 : Nat) : Int))] (cx bl id l (k : Nat) own) = some ⟨(drT l d k).1.ag, cx bl id l ((drT l d k).2 : Nat) own, [], 0⟩ := fun k own => cx_lift (ih id k) h
    have r := nxV_range hB (k := k) (n := 12) (by decide)
    have r9 := nxV_range hB (k := nxA l k) (n := 9) (by decide)
    have r4 := nxV_range hB (k := nxA l k) (n := 4) (by decide)
    have hv : nxV l k 12 = 0 ∨ nxV l k 12 = 1 ∨ nxV l k 12 = 2 ∨ nxV l k 12 = 3 ∨ (nxV l k 12 = 4 ∨ nxV l k 12 = 5) ∨ nxV l k 12 = 6 ∨ nxV l k 12 = 7 ∨ nxV l k 12 = 8 ∨ nxV l k 12 = 9 ∨ nxV l k 12 = 10 ∨ nxV l k 12 = 11 := by omega
    have hwd : IntKind.i64.wrap (((d + 1 + 1 : Nat) : Int) - 1) = ((d + 1 : Nat) : Int) := by rw [w_in (by omega) (by omega)]; omega
    have hd1 : ¬ (((d + 1 + 1 : Nat) : Int) ≤ 1) := by omega
    have w9 : IntKind.i64.wrap (1 + nxV l (nxA l k) 9) = 1 + nxV l (nxA l k) 9 := w_in (by omega) (by omega)
    have hid : id < bl.length + 1 := Nat.lt_succ_of_lt h.lt
    have hb1 : bl.length < bl.length + 1 := Nat.lt_succ_self _
    have hr1 : ∀ a b c, Rows3 [[a, b, c]] := fun a b c => ⟨by simp, rfl⟩
    clear r cN ih
    refine CV_run (vf := vf32) rfl rfl ?_
    rw [vf32_start]
    rcases hv with hv | hv | hv | hv | hv | hv | hv | hv | hv | hv | hv
    case inr.inr.inr.inr.inl =>
      obtain ⟨m, hm⟩ : ∃ m : Nat, nxV l (nxA l k) 4 = (m : Int) := ⟨_, (Int.toNat_of_nonneg r4.1).symm⟩
      have hm4 : m < 4 := by omega
      have hT : drT l (d + 1) k = (.mk 3 0 (drL (drT l d) m (nxA l (nxA l k))).1, (drL (drT l d) m (nxA l (nxA l k))).2) := by
        rw [drT, hm, Int.toNat_natCast, if_neg (by rcases hv with hv | hv <;> rw [hv] <;> decide), if_pos (by rcases hv with hv | hv <;> rw [hv] <;> decide)]
      rw [hT]
      have hrows := Tm.rows3 (drL (drT l d) m (nxA l (nxA l k))).1 (by rw [drL_len]; omega)
      rcases hv with hv | hv <;>
      · simp only [Tm.ag, Tm.op, Tm.val, Tm.args]
        (repeat (first
    | refine RX_seq ?_
    | refine RX_block ?_
    | ((first | refine RX_reg ?_ | refine RX_cond' ?_ | refine RX_draw0 ?_ | refine RX_draw rfl ?_ | refine RX_skip ?_ | refine RX_exit ?_ | refine RX_ret ?_); try (simp only [go_sem, Int.reduceToNat, Nat.reducePow, Int.reduceEq, Int.reduceNe, Int.reduceLT, Int.reduceLE, Nat.reduceAdd, Nat.reduceLeDiff, ↓reduceIte, Nat.reduceLT, Nat.reduceMul, Nat.reduceSub, reduceCtorEq, frzLoc, rowCells, vAppM, beq_iff_eq, bne_iff_ne, bne_self_eq_false, beq_self_eq_true, beq_true, beq_false, I, B, w, vf32_res, vf32_keep, cx_len, cx_app, cx_own0, cx_own, cx_setOwn0, cx_setOwn, cx_take, cx_takeN, Nat.add_right_cancel_iff, Nat.lt_irrefl, cx_nlt, Nat.not_lt_zero, cx_get' h, cx_setId' h, cx_er h, cx_all0 h, cx_all h, CtxOk.lt h, c12, hv, gt_iff_lt, hd1, c4, hm]))))
        refine RX_loop ?_
        refine RL_head ?_
        (simp only [go_sem, Int.reduceToNat, Nat.reducePow, Int.reduceEq, Int.reduceNe, Int.reduceLT, Int.reduceLE, Nat.reduceAdd, Nat.reduceLeDiff, ↓reduceIte, Nat.reduceLT, Nat.reduceMul, Nat.reduceSub, reduceCtorEq, frzLoc, rowCells, vAppM, beq_iff_eq, bne_iff_ne, bne_self_eq_false, beq_self_eq_true, beq_true, beq_false, I, B, w, St.head, forget, vf32K0, RLK_some, cx_len, cx_app, cx_own0, cx_own, cx_setOwn0, cx_setOwn, cx_take, cx_takeN, Nat.add_right_cancel_iff, Nat.lt_irrefl, cx_nlt, Nat.not_lt_zero, cx_get' h, cx_setId' h, cx_er h, cx_all0 h, cx_all h, CtxOk.lt h, hid, hb1])
        refine L32 h rfl rfl hwd cT m _ [] .nil [] _ (.inl ⟨rfl, rfl, rfl⟩) (by simp; omega) fun v live gn hacc => ?_
        rcases hacc with ⟨rfl, rfl, hn⟩ | ⟨g, rfl, rfl⟩
        · rw [List.nil_append] at hn
          rw [hn] at hrows ⊢
          (repeat (first
    | refine RX_seq ?_
    | refine RX_block ?_
    | ((first | refine RX_reg ?_ | refine RX_cond' ?_ | refine RX_draw0 ?_ | refine RX_draw rfl ?_ | refine RX_skip ?_ | refine RX_exit ?_ | refine RX_ret ?_); try (simp only [go_sem, Int.reduceToNat, Nat.reducePow, Int.reduceEq, Int.reduceNe, Int.reduceLT, Int.reduceLE, Nat.reduceAdd, Nat.reduceLeDiff, ↓reduceIte, Nat.reduceLT, Nat.reduceMul, Nat.reduceSub, reduceCtorEq, frzLoc, rowCells, vAppM, beq_iff_eq, bne_iff_ne, bne_self_eq_false, beq_self_eq_true, beq_true, beq_false, I, B, w, vf32_res, vf32_keep, cx_len, cx_app, cx_own0, cx_own, cx_setOwn0, cx_setOwn, cx_take, cx_takeN, Nat.add_right_cancel_iff, Nat.lt_irrefl, cx_nlt, Nat.not_lt_zero, cx_get' h, cx_setId' h, cx_er h, cx_all0 h, cx_all h, CtxOk.lt h, e33 hrows]))))
        · (repeat (first
    | refine RX_seq ?_
    | refine RX_block ?_
    | ((first | refine RX_reg ?_ | refine RX_cond' ?_ | refine RX_draw0 ?_ | refine RX_draw rfl ?_ | refine RX_skip ?_ | refine RX_exit ?_ | refine RX_ret ?_); try (simp only [go_sem, Int.reduceToNat, Nat.reducePow, Int.reduceEq, Int.reduceNe, Int.reduceLT, Int.reduceLE, Nat.reduceAdd, Nat.reduceLeDiff, ↓reduceIte, Nat.reduceLT, Nat.reduceMul, Nat.reduceSub, reduceCtorEq, frzLoc, rowCells, vAppM, beq_iff_eq, bne_iff_ne, bne_self_eq_false, beq_self_eq_true, beq_true, beq_false, I, B, w, vf32_res, vf32_keep, cx_len, cx_app, cx_own0, cx_own, cx_setOwn0, cx_setOwn, cx_take, cx_takeN, Nat.add_right_cancel_iff, Nat.lt_irrefl, cx_nlt, Nat.not_lt_zero, cx_get' h, cx_setId' h, cx_er h, cx_all0 h, cx_all h, CtxOk.lt h, e33 hrows]))))
    all_goals
      simp only [drT, leafO, leafV, leafA, nmT, nmA, hv, Int.reduceMod, Int.reduceEq, Int.reduceLE, if_true, if_false, Tm.ag, Tm.op_mk, Tm.val_mk, Tm.args_mk, List.map_cons, List.map_nil, Tm.row_mk, Tm.row_eq (drT l d _).1]
      (repeat (first
    | refine RX_seq ?_
    | refine RX_block ?_
    | ((first | refine RX_reg ?_ | refine RX_cond' ?_ | refine RX_draw0 ?_ | refine RX_draw rfl ?_ | refine RX_skip ?_ | refine RX_exit ?_ | refine RX_ret ?_); try (simp only [go_sem, Int.reduceToNat, Nat.reducePow, Int.reduceEq, Int.reduceNe, Int.reduceLT, Int.reduceLE, Nat.reduceAdd, Nat.reduceLeDiff, ↓reduceIte, Nat.reduceLT, Nat.reduceMul, Nat.reduceSub, reduceCtorEq, frzLoc, rowCells, vAppM, beq_iff_eq, bne_iff_ne, bne_self_eq_false, beq_self_eq_true, beq_true, beq_false, I, B, w, vf32_res, vf32_keep, cx_len, cx_app, cx_own0, cx_own, cx_setOwn0, cx_setOwn, cx_take, cx_takeN, Nat.add_right_cancel_iff, Nat.lt_irrefl, cx_nlt, Nat.not_lt_zero, cx_get' h, cx_setId' h, cx_er h, cx_all0 h, cx_all h, CtxOk.lt h, c12, c9, c6, c4, c3, cM, cT, hv, e76, e77, e78n, e79 _ (hr1 _ _ _), e80, e57, gt_iff_lt, Int.reduceTMod, hd1, hwd, w9, hid, hb1, nmA]))))
end Go.Proofs.Ytahiikdkgbbmfaa

namespace Go.Proofs.Ytahiikdkgbbmfaa
open Go.VM
theorem e103 {rows : List (List D)} (h : Rows3 rows) : CV VP 103 [.d (.sl rows)] [] = some ⟨.d (.sl rows), [], [], 0⟩ := by
  cases rows with
  | nil => exact vf103_cnil
  | cons r rs =>
    refine CV_run (vf := vf103) rfl rfl ?_
    rw [vf103_start]
    have h1 := h.1
    have h2 := h.2
    simp only [List.length_cons, List.all_cons] at h1 h2
    (repeat (first
    | refine RX_seq ?_
    | refine RX_block ?_
    | ((first | refine RX_reg ?_ | refine RX_cond' ?_ | refine RX_draw0 ?_ | refine RX_draw rfl ?_ | refine RX_skip ?_ | refine RX_exit ?_ | refine RX_ret ?_); try (simp only [go_sem, Int.reduceToNat, Nat.reducePow, Int.reduceEq, Int.reduceNe, Int.reduceLT, Int.reduceLE, Nat.reduceAdd, Nat.reduceLeDiff, ↓reduceIte, Nat.reduceLT, Nat.reduceMul, Nat.reduceSub, reduceCtorEq, frzLoc, rowCells, vAppM, beq_iff_eq, bne_iff_ne, bne_self_eq_false, beq_self_eq_true, beq_true, beq_false, I, B, w, vf103_res, vf103_keep, h1, h2]))))
theorem e71 {rows : List (List D)} (h : Rows3 rows) : CV VP 71 [.d (.sl rows)] [] = some ⟨.agg [.d (I 3), .d (I 0), .d (.sl rows)], [], [], 0⟩ := by
  refine CV_run (vf := vf71) rfl rfl ?_
  rw [vf71_start]
  (repeat (first
    | refine RX_seq ?_
    | refine RX_block ?_
    | ((first | refine RX_reg ?_ | refine RX_cond' ?_ | refine RX_draw0 ?_ | refine RX_draw rfl ?_ | refine RX_skip ?_ | refine RX_exit ?_ | refine RX_ret ?_); try (simp only [go_sem, Int.reduceToNat, Nat.reducePow, Int.reduceEq, Int.reduceNe, Int.reduceLT, Int.reduceLE, Nat.reduceAdd, Nat.reduceLeDiff, ↓reduceIte, Nat.reduceLT, Nat.reduceMul, Nat.reduceSub, reduceCtorEq, frzLoc, rowCells, vAppM, beq_iff_eq, bne_iff_ne, bne_self_eq_false, beq_self_eq_true, beq_true, beq_false, I, B, w, vf71_res, vf71_keep, e103 h]))))
theorem e24 (n : Int) (ts : List Tm) (h : ts.length < 1000000) : CV VP 24 [.d (I n), .d (.sl (ts.map Tm.row))] [] = some ⟨(Tm.mk 3 0 (.mk 1 n [] :: ts)).ag, [], [], 0⟩ := by
  refine CV_run (vf := vf24) rfl rfl ?_
  rw [vf24_start]
  have h1 := Tm.rows3 (.mk 1 n [] :: ts) (by simp only [List.length_cons]; omega)
  have h2 := Tm.rows3 ts (by omega)
  have h3 := h2.2
  have h4 : ts.length + 1 ≤ 4294967296 := by omega
  simp only [List.map_cons, Tm.row_mk, List.map_nil] at h1
  have hr : (Tm.mk 3 0 (.mk 1 n [] :: ts)).ag = .agg [.d (I 3), .d (I 0), .d (.sl ([I 1, I n, .sl []] :: ts.map Tm.row))] := by
    simp only [Tm.ag, Tm.op_mk, Tm.val_mk, Tm.args_mk, List.map_cons, Tm.row_mk, List.map_nil]
  rw [hr]
  have h5 : 1 + ts.length ≤ 4294967296 := by omega
  (repeat (first
    | refine RX_seq ?_
    | refine RX_block ?_
    | ((first | refine RX_reg ?_ | refine RX_cond' ?_ | refine RX_draw0 ?_ | refine RX_draw rfl ?_ | refine RX_skip ?_ | refine RX_exit ?_ | refine RX_ret ?_); try (simp only [go_sem, Int.reduceToNat, Nat.reducePow, Int.reduceEq, Int.reduceNe, Int.reduceLT, Int.reduceLE, Nat.reduceAdd, Nat.reduceLeDiff, ↓reduceIte, Nat.reduceLT, Nat.reduceMul, Nat.reduceSub, reduceCtorEq, frzLoc, rowCells, vAppM, beq_iff_eq, bne_iff_ne, bne_self_eq_false, beq_self_eq_true, beq_true, beq_false, I, B, w, vf24_res, vf24_keep, e72, h3, h4, h5, List.length_map, e71 h1]))))
end Go.Proofs.Ytahiikdkgbbmfaa

namespace Go.Proofs.Ytahiikdkgbbmfaa
open Go.VM
/-- a list of terms that is drawn -/
def drS (l : List Int) (most : Int) (d k : Nat) : List Tm × Nat := drL (drT l d) (nxV l k (most + 1)).toNat (nxA l k)
theorem e22b {l : List Int} (hB : Bytes l) (most : Int) (h1 : 0 ≤ most) (h2 : most < 256) (d : Nat) (hd : d < 100) (id k : Nat) : ∀ bl, CtxOk bl id →
    CV VP 22 [.ptr id 0, .d (I most), .d (I ((d + 1 : Nat) : Int))] (cx bl id l (k : Nat) []) = some ⟨.d (.sl ((drS l most d k).1.map Tm.row)), cx bl id l ((drS l most d k).2 : Nat) [], [], 0⟩ := by
  intro bl h
  have cN : ∀ (k : Nat) (own : List (List V)), own.map V.erL = own → own.all (V.ltbL (bl.length + own.length)) = true → CV VP 29 [.ptr id 0, .d (I (most + 1))] (cx bl id l (k : Nat) own) = some ⟨.d (I (nxV l k (most + 1))), cx bl id l (nxA l k : Nat) own, [], 0⟩ := fun k own => e29 hB h (by omega) (by omega)
  have cT : ∀ (k : Nat) (own : List (List V)), own.map V.erL = own → own.all (V.ltbL (bl.length + own.length)) = true → CV VP 32 [.ptr id 0, .d (I ((d + 1 : Nat) : Int))] (cx bl id l (k : Nat) own) = some ⟨(drT l d k).1.ag, cx bl id l ((drT l d k).2 : Nat) own, [], 0⟩ := fun k own => cx_lift (e32b hB d hd id k) h
  have cN0 := cN k [] rfl rfl
  have cT0 := fun k => cT k [] rfl rfl
  clear cN cT
  have r := nxV_range hB (k := k) (n := most + 1) (by omega)
  have wm : IntKind.i64.wrap (most + 1) = most + 1 := w_in (by omega) (by omega)
  obtain ⟨M, hM⟩ : ∃ M : Nat, nxV l k (most + 1) = (M : Int) := ⟨_, (Int.toNat_of_nonneg r.1).symm⟩
  have hM2 : M < 256 := by omega
  have hdr : drS l most d k = drL (drT l d) M (nxA l k) := by rw [drS, hM, Int.toNat_natCast]
  rw [hdr]
  generalize hT : drL (drT l d) M (nxA l k) = T
  refine CV_run (vf := vf22) rfl rfl ?_
  rw [vf22_start]
  (repeat (first
    | refine RX_seq ?_
    | refine RX_block ?_
    | ((first | refine RX_reg ?_ | refine RX_cond' ?_ | refine RX_draw0 ?_ | refine RX_draw rfl ?_ | refine RX_skip ?_ | refine RX_exit ?_ | refine RX_ret ?_); try (simp only [go_sem, Int.reduceToNat, Nat.reducePow, Int.reduceEq, Int.reduceNe, Int.reduceLT, Int.reduceLE, Nat.reduceAdd, Nat.reduceLeDiff, ↓reduceIte, Nat.reduceLT, Nat.reduceMul, Nat.reduceSub, reduceCtorEq, frzLoc, rowCells, vAppM, beq_iff_eq, bne_iff_ne, bne_self_eq_false, beq_self_eq_true, beq_true, beq_false, I, B, w, vf22_res, vf22_keep, cx_len, cx_app, cx_own0, cx_own, cx_setOwn0, cx_setOwn, cx_take, cx_takeN, Nat.add_right_cancel_iff, Nat.lt_irrefl, cx_nlt, Nat.not_lt_zero, cx_get' h, cx_setId' h, cx_er h, cx_all0 h, cx_all h, CtxOk.lt h, wm, cN0, hM]))))
  refine RX_loopN (n := bl.length) (by simp [cx_len]) ?_
  refine RL_ind (fun m st => ∃ (k : Nat) (rows : List (List D)) (v : V) (live : List Nat) (gn : Nat), Acc 3 v live rows ∧ rows.length + m < 1000 ∧ rows ++ (drL (drT l d) m k).1.map Tm.row = T.1.map Tm.row ∧ (drL (drT l d) m k).2 = T.2 ∧
    At vf22K0 bl.length st ((.ptr id 0 :: .any :: .d (I ((d + 1 : Nat) : Int)) :: .any :: .any :: .any :: .any :: v :: .d (I (m : Nat)) :: .any :: .any :: .any :: .any :: .any :: .any :: .any :: .any :: .any :: .any :: .any :: .any :: .any :: .any :: .any :: [])) (cx bl id l (k : Nat) []) live gn bl.length) ?_ M _ ⟨nxA l k, [], .nil, [], 0, .inl ⟨rfl, rfl, rfl⟩, by simp; omega, by rw [hT]; rfl, by rw [hT], rfl, by simp only [cx_take], rfl, rfl, by simp [cx_len], rfl⟩
  rintro m st ⟨k, rows, v, live, gn, hv, hl, hrows, hend, hat⟩ ih
  cases m with
  | zero =>
    simp only [drL, List.map_nil, List.append_nil] at hrows hend
    rw [← hrows, ← hend]
    rcases hv with ⟨rfl, rfl, rfl⟩ | ⟨g, rfl, rfl⟩ <;>
    · refine RL_at hat (by (simp only [go_sem, Int.reduceToNat, Nat.reducePow, Int.reduceEq, Int.reduceNe, Int.reduceLT, Int.reduceLE, Nat.reduceAdd, Nat.reduceLeDiff, ↓reduceIte, Nat.reduceLT, Nat.reduceMul, Nat.reduceSub, reduceCtorEq, frzLoc, rowCells, vAppM, beq_iff_eq, bne_iff_ne, bne_self_eq_false, beq_self_eq_true, beq_true, beq_false, I, B, w, cx_len, cx_app, cx_own0, cx_own, cx_setOwn0, cx_setOwn, cx_take, cx_takeN, Nat.add_right_cancel_iff, Nat.lt_irrefl, cx_nlt, Nat.not_lt_zero, cx_get' h, cx_setId' h, cx_er h, cx_all0 h, cx_all h, CtxOk.lt h])) (by (simp only [go_sem, Int.reduceToNat, Nat.reducePow, Int.reduceEq, Int.reduceNe, Int.reduceLT, Int.reduceLE, Nat.reduceAdd, Nat.reduceLeDiff, ↓reduceIte, Nat.reduceLT, Nat.reduceMul, Nat.reduceSub, reduceCtorEq, frzLoc, rowCells, vAppM, beq_iff_eq, bne_iff_ne, bne_self_eq_false, beq_self_eq_true, beq_true, beq_false, I, B, w, cx_len, cx_app, cx_own0, cx_own, cx_setOwn0, cx_setOwn, cx_take, cx_takeN, Nat.add_right_cancel_iff, Nat.lt_irrefl, cx_nlt, Nat.not_lt_zero, cx_get' h, cx_setId' h, cx_er h, cx_all0 h, cx_all h, CtxOk.lt h])) (vf22L0_go ?_)
      (repeat (first
    | refine RX_seq ?_
    | refine RX_block ?_
    | ((first | refine RX_reg ?_ | refine RX_cond' ?_ | refine RX_draw0 ?_ | refine RX_draw rfl ?_ | refine RX_skip ?_ | refine RX_exit ?_ | refine RX_ret ?_); try (simp only [go_sem, Int.reduceToNat, Nat.reducePow, Int.reduceEq, Int.reduceNe, Int.reduceLT, Int.reduceLE, Nat.reduceAdd, Nat.reduceLeDiff, ↓reduceIte, Nat.reduceLT, Nat.reduceMul, Nat.reduceSub, reduceCtorEq, frzLoc, rowCells, vAppM, beq_iff_eq, bne_iff_ne, bne_self_eq_false, beq_self_eq_true, beq_true, beq_false, I, B, w, vf22_res, vf22_keep, cx_len, cx_app, cx_own0, cx_own, cx_setOwn0, cx_setOwn, cx_take, cx_takeN, Nat.add_right_cancel_iff, Nat.lt_irrefl, cx_nlt, Nat.not_lt_zero, cx_get' h, cx_setId' h, cx_er h, cx_all0 h, cx_all h, CtxOk.lt h, gt_iff_lt]))))
  | succ m =>
    have hm : (0 : Int) < ((m + 1 : Nat) : Int) := by omega
    have hwm : IntKind.i64.wrap (((m + 1 : Nat) : Int) - 1) = (m : Int) := by rw [w_in (by omega) (by omega)]; omega
    have hrl : rows.length + 1 ≤ 4294967296 := by omega
    simp only [drL, List.map_cons, Tm.row_eq (drT l d k).1] at hrows hend
    rcases hv with ⟨rfl, rfl, rfl⟩ | ⟨g, rfl, rfl⟩ <;>
    · refine RL_at hat (by (simp only [go_sem, Int.reduceToNat, Nat.reducePow, Int.reduceEq, Int.reduceNe, Int.reduceLT, Int.reduceLE, Nat.reduceAdd, Nat.reduceLeDiff, ↓reduceIte, Nat.reduceLT, Nat.reduceMul, Nat.reduceSub, reduceCtorEq, frzLoc, rowCells, vAppM, beq_iff_eq, bne_iff_ne, bne_self_eq_false, beq_self_eq_true, beq_true, beq_false, I, B, w, cx_len, cx_app, cx_own0, cx_own, cx_setOwn0, cx_setOwn, cx_take, cx_takeN, Nat.add_right_cancel_iff, Nat.lt_irrefl, cx_nlt, Nat.not_lt_zero, cx_get' h, cx_setId' h, cx_er h, cx_all0 h, cx_all h, CtxOk.lt h])) (by (simp only [go_sem, Int.reduceToNat, Nat.reducePow, Int.reduceEq, Int.reduceNe, Int.reduceLT, Int.reduceLE, Nat.reduceAdd, Nat.reduceLeDiff, ↓reduceIte, Nat.reduceLT, Nat.reduceMul, Nat.reduceSub, reduceCtorEq, frzLoc, rowCells, vAppM, beq_iff_eq, bne_iff_ne, bne_self_eq_false, beq_self_eq_true, beq_true, beq_false, I, B, w, cx_len, cx_app, cx_own0, cx_own, cx_setOwn0, cx_setOwn, cx_take, cx_takeN, Nat.add_right_cancel_iff, Nat.lt_irrefl, cx_nlt, Nat.not_lt_zero, cx_get' h, cx_setId' h, cx_er h, cx_all0 h, cx_all h, CtxOk.lt h])) (vf22L0_go ?_)
      (repeat (first
    | refine RX_seq ?_
    | refine RX_block ?_
    | ((first | refine RX_reg ?_ | refine RX_cond' ?_ | refine RX_draw0 ?_ | refine RX_draw rfl ?_ | refine RX_skip ?_ | refine RX_exit ?_ | refine RX_ret ?_); try (simp only [go_sem, Int.reduceToNat, Nat.reducePow, Int.reduceEq, Int.reduceNe, Int.reduceLT, Int.reduceLE, Nat.reduceAdd, Nat.reduceLeDiff, ↓reduceIte, Nat.reduceLT, Nat.reduceMul, Nat.reduceSub, reduceCtorEq, frzLoc, rowCells, vAppM, beq_iff_eq, bne_iff_ne, bne_self_eq_false, beq_self_eq_true, beq_true, beq_false, I, B, w, vf22_res, vf22_keep, cx_len, cx_app, cx_own0, cx_own, cx_setOwn0, cx_setOwn, cx_take, cx_takeN, Nat.add_right_cancel_iff, Nat.lt_irrefl, cx_nlt, Nat.not_lt_zero, cx_get' h, cx_setId' h, cx_er h, cx_all0 h, cx_all h, CtxOk.lt h, gt_iff_lt, hm, hwm, cT0, hrl]))))
      refine ih m _ (Nat.lt_succ_self m) ⟨(drT l d k).2, _, _, _, _, .inr ⟨_, rfl, rfl⟩, ?_, ?_, hend, rfl, by simp only [cx_take], rfl, rfl, rfl, rfl⟩
      · simp only [List.length_append, List.length_cons, List.length_nil] at hl ⊢; omega
      · first | exact hrows | simpa using hrows
end Go.Proofs.Ytahiikdkgbbmfaa

namespace Go.Proofs.Ytahiikdkgbbmfaa
open Go.VM
/-- a part with a number -/
def Tm.isHd (n : Int) : List Tm → Bool
  | [] => false
  | u :: _ => u.op == 1 && u.val == n
def Tm.isPart (n : Int) (t : Tm) : Bool := t.op == 3 && Tm.isHd n t.args
/-- what belongs to the first part with a number -/
def Tm.find (n : Int) : List Tm → Option (List Tm)
  | [] => none
  | t :: ts => if t.isPart n then some t.args.tail else Tm.find n ts
theorem Tm.find_drop {n : Int} {ts : List Tm} {i : Nat} {t : Tm} (h : ts[i]? = some t) : Tm.find n (ts.drop i) = if t.isPart n then some t.args.tail else Tm.find n (ts.drop (i + 1)) := by
  obtain ⟨h1, h2⟩ := List.getElem?_eq_some_iff.1 h
  rw [List.drop_eq_getElem_cons h1, h2, Tm.find]
theorem pos_succ (n : Nat) : (0 : Int) < ((n + 1 : Nat) : Int) := by omega
theorem one_le_succ (n : Nat) : (1 : Int) ≤ ((n + 1 : Nat) : Int) := by omega
def Tm.findV (n : Int) (ts : List Tm) : V := .tup [.d (.sl (((Tm.find n ts).getD []).map Tm.row)), .d (B (Tm.find n ts).isSome)]
theorem e23 (n : Int) (ts : List Tm) (hl : ts.length < 1000000) (hs : ∀ t ∈ ts, t.args.length < 1000000) :
    CV VP 23 [.d (.sl (ts.map Tm.row)), .d (I n)] [] = some ⟨Tm.findV n ts, [], [], 0⟩ := by
  refine CV_run (vf := vf23) rfl rfl ?_
  rw [vf23_start]
  (repeat (first
    | refine RX_seq ?_
    | refine RX_block ?_
    | ((first | refine RX_reg ?_ | refine RX_cond' ?_ | refine RX_draw0 ?_ | refine RX_draw rfl ?_ | refine RX_skip ?_ | refine RX_exit ?_ | refine RX_ret ?_); try (simp only [go_sem, Int.reduceToNat, Nat.reducePow, Int.reduceEq, Int.reduceNe, Int.reduceLT, Int.reduceLE, Nat.reduceAdd, Nat.reduceLeDiff, ↓reduceIte, Nat.reduceLT, Nat.reduceMul, Nat.reduceSub, reduceCtorEq, frzLoc, rowCells, vAppM, beq_iff_eq, bne_iff_ne, bne_self_eq_false, beq_self_eq_true, beq_true, beq_false, I, B, w, vf23_res, vf23_keep, List.length_map]))))
  refine RX_loop ?_
  refine RL_ind (fun m st => ∃ (i : Nat), i + m = ts.length ∧ Tm.find n (ts.drop i) = Tm.find n ts ∧
    At vf23K0 0 st ((.any :: .d (I n) :: .any :: .any :: .any :: .any :: .any :: .any :: .d (.sl (ts.map Tm.row)) :: .d (I (ts.length : Nat)) :: .d (I (i : Nat)) :: .any :: .any :: .any :: .any :: .any :: .any :: .any :: .any :: .any :: .any :: .any :: .any :: .any :: .any :: .any :: .any :: .any :: .any :: .any :: .any :: .any :: .any :: .any :: .any :: .any :: .any :: .any :: .any :: .any :: .any :: .any :: .any :: .any :: .any :: .any :: [])) [] [] 0 0) ?_ ts.length _ ⟨0, Nat.zero_add _, rfl, rfl, rfl, rfl, rfl, rfl, rfl⟩
  rintro m st ⟨i, hi, hf, hat⟩ ih
  refine RL_at hat rfl rfl (vf23L0_go ?_)
  cases m with
  | zero =>
    have h1 : ¬ i < ts.length := by omega
    rw [List.drop_eq_nil_of_le (by omega)] at hf
    simp only [Tm.findV, ← hf]
    (repeat (first
    | refine RX_seq ?_
    | refine RX_block ?_
    | ((first | refine RX_reg ?_ | refine RX_cond' ?_ | refine RX_draw0 ?_ | refine RX_draw rfl ?_ | refine RX_skip ?_ | refine RX_exit ?_ | refine RX_ret ?_); try (simp only [go_sem, Int.reduceToNat, Nat.reducePow, Int.reduceEq, Int.reduceNe, Int.reduceLT, Int.reduceLE, Nat.reduceAdd, Nat.reduceLeDiff, ↓reduceIte, Nat.reduceLT, Nat.reduceMul, Nat.reduceSub, reduceCtorEq, frzLoc, rowCells, vAppM, beq_iff_eq, bne_iff_ne, bne_self_eq_false, beq_self_eq_true, beq_true, beq_false, I, B, w, vf23_res, vf23_keep, h1, Tm.find, Option.getD_none, Option.isSome_none]))))
  | succ m =>
    have h1 : i < ts.length := by omega
    obtain ⟨t, ht⟩ : ∃ t, ts[i]? = some t := ⟨_, List.getElem?_eq_getElem h1⟩
    rw [Tm.find_drop ht] at hf
    have hr : (ts.map Tm.row)[i]? = some [I t.op, I t.val, .sl (t.args.map Tm.row)] := by rw [List.getElem?_map, ht, Option.map_some, Tm.row_eq]
    have hm := List.mem_of_getElem? ht
    have hts := hs t hm
    have hwi := w_nat (i := i) (by omega)
    have next := fun (hp : t.isPart n = false) st hat => ih m st (Nat.lt_succ_self m) ⟨i + 1, by omega, by rw [← hf, hp]; rfl, hat⟩
    clear ih
    generalize hcell : t.args = args at *
    have hip : t.isPart n = (t.op == 3 && Tm.isHd n args) := by rw [Tm.isPart, hcell]
    by_cases c1 : t.op = 3
    · cases args with
      | nil =>
        have hp : t.isPart n = false := by rw [hip, c1]; rfl
        (repeat (first
    | refine RX_seq ?_
    | refine RX_block ?_
    | ((first | refine RX_reg ?_ | refine RX_cond' ?_ | refine RX_draw0 ?_ | refine RX_draw rfl ?_ | refine RX_skip ?_ | refine RX_exit ?_ | refine RX_ret ?_); try (simp only [go_sem, Int.reduceToNat, Nat.reducePow, Int.reduceEq, Int.reduceNe, Int.reduceLT, Int.reduceLE, Nat.reduceAdd, Nat.reduceLeDiff, ↓reduceIte, Nat.reduceLT, Nat.reduceMul, Nat.reduceSub, reduceCtorEq, frzLoc, rowCells, vAppM, beq_iff_eq, bne_iff_ne, bne_self_eq_false, beq_self_eq_true, beq_true, beq_false, I, B, w, vf23_res, vf23_keep, h1, hr, c1, List.length_map, hwi, gt_iff_lt]))))
        exact next hp _ ⟨rfl, rfl, rfl, rfl, rfl, rfl⟩
      | cons u us =>
        by_cases c2 : u.op = 1
        · by_cases c3 : u.val = n
          · have hp : t.isPart n = true := by rw [hip, c1, Tm.isHd, c2, c3]; simp
            rw [hp] at hf
            simp only [if_true, List.tail_cons] at hf
            have hres : Tm.findV n ts = .tup [.d (.sl (us.map Tm.row)), .d (B true)] := by rw [Tm.findV, ← hf]; rfl
            rw [hres]
            have h3 := Tm.rows3 us (by simp only [List.length_cons] at hts; omega)
            have h4 := h3.2
            have h5 : List.take us.length (us.map Tm.row) = us.map Tm.row := List.take_of_length_le (by simp)
            (repeat (first
    | refine RX_seq ?_
    | refine RX_block ?_
    | ((first | refine RX_reg ?_ | refine RX_cond' ?_ | refine RX_draw0 ?_ | refine RX_draw rfl ?_ | refine RX_skip ?_ | refine RX_exit ?_ | refine RX_ret ?_); try (simp only [go_sem, Int.reduceToNat, Nat.reducePow, Int.reduceEq, Int.reduceNe, Int.reduceLT, Int.reduceLE, Nat.reduceAdd, Nat.reduceLeDiff, ↓reduceIte, Nat.reduceLT, Nat.reduceMul, Nat.reduceSub, reduceCtorEq, frzLoc, rowCells, vAppM, beq_iff_eq, bne_iff_ne, bne_self_eq_false, beq_self_eq_true, beq_true, beq_false, I, B, w, vf23_res, vf23_keep, h1, hr, c1, c2, c3, List.length_map, hwi, gt_iff_lt, Tm.row_eq u, e71 h3, vSlice, vBounds, h4, h5, pos_succ, one_le_succ]))))
          · have hp : t.isPart n = false := by rw [hip, Tm.isHd]; simp [c3]
            (repeat (first
    | refine RX_seq ?_
    | refine RX_block ?_
    | ((first | refine RX_reg ?_ | refine RX_cond' ?_ | refine RX_draw0 ?_ | refine RX_draw rfl ?_ | refine RX_skip ?_ | refine RX_exit ?_ | refine RX_ret ?_); try (simp only [go_sem, Int.reduceToNat, Nat.reducePow, Int.reduceEq, Int.reduceNe, Int.reduceLT, Int.reduceLE, Nat.reduceAdd, Nat.reduceLeDiff, ↓reduceIte, Nat.reduceLT, Nat.reduceMul, Nat.reduceSub, reduceCtorEq, frzLoc, rowCells, vAppM, beq_iff_eq, bne_iff_ne, bne_self_eq_false, beq_self_eq_true, beq_true, beq_false, I, B, w, vf23_res, vf23_keep, h1, hr, c1, c2, c3, List.length_map, hwi, gt_iff_lt, Tm.row_eq u, pos_succ]))))
            exact next hp _ ⟨rfl, rfl, rfl, rfl, rfl, rfl⟩
        · have hp : t.isPart n = false := by rw [hip, Tm.isHd]; simp [c2]
          (repeat (first
    | refine RX_seq ?_
    | refine RX_block ?_
    | ((first | refine RX_reg ?_ | refine RX_cond' ?_ | refine RX_draw0 ?_ | refine RX_draw rfl ?_ | refine RX_skip ?_ | refine RX_exit ?_ | refine RX_ret ?_); try (simp only [go_sem, Int.reduceToNat, Nat.reducePow, Int.reduceEq, Int.reduceNe, Int.reduceLT, Int.reduceLE, Nat.reduceAdd, Nat.reduceLeDiff, ↓reduceIte, Nat.reduceLT, Nat.reduceMul, Nat.reduceSub, reduceCtorEq, frzLoc, rowCells, vAppM, beq_iff_eq, bne_iff_ne, bne_self_eq_false, beq_self_eq_true, beq_true, beq_false, I, B, w, vf23_res, vf23_keep, h1, hr, c1, c2, List.length_map, hwi, gt_iff_lt, Tm.row_eq u, pos_succ]))))
          exact next hp _ ⟨rfl, rfl, rfl, rfl, rfl, rfl⟩
    · have hp : t.isPart n = false := by rw [hip]; simp [c1]
      (repeat (first
    | refine RX_seq ?_
    | refine RX_block ?_
    | ((first | refine RX_reg ?_ | refine RX_cond' ?_ | refine RX_draw0 ?_ | refine RX_draw rfl ?_ | refine RX_skip ?_ | refine RX_exit ?_ | refine RX_ret ?_); try (simp only [go_sem, Int.reduceToNat, Nat.reducePow, Int.reduceEq, Int.reduceNe, Int.reduceLT, Int.reduceLE, Nat.reduceAdd, Nat.reduceLeDiff, ↓reduceIte, Nat.reduceLT, Nat.reduceMul, Nat.reduceSub, reduceCtorEq, frzLoc, rowCells, vAppM, beq_iff_eq, bne_iff_ne, bne_self_eq_false, beq_self_eq_true, beq_true, beq_false, I, B, w, vf23_res, vf23_keep, h1, hr, c1, List.length_map, hwi]))))
      exact next hp _ ⟨rfl, rfl, rfl, rfl, rfl, rfl⟩
end Go.Proofs.Ytahiikdkgbbmfaa

namespace Go.Proofs.Ytahiikdkgbbmfaa
open Go.VM
theorem e17 (i c : Int) (x1 x2 x3 x4 x5 x6 x8 x9 x10 x11 x12 x13 x14 x15 x16 x17 x18 : D) : CV VP 17 [.agg [.d (I i), .d x1, .d x2, .d x3, .d x4, .d x5, .d x6, .d (I c), .d x8, .d x9, .d x10, .d x11, .d x12, .d x13, .d x14, .d x15, .d x16, .d x17, .d x18]] [] = some ⟨.tup [.agg [.d (I i), .d x1, .d x2, .d x3, .d x4, .d x5, .d x6, .d (I (w (c + 1))), .d x8, .d x9, .d x10, .d x11, .d x12, .d x13, .d x14, .d x15, .d x16, .d x17, .d x18], .d (I (w (w (1000 * w (i + 1)) + (w (c + 1)))))], [], [], 0⟩ := by
  refine CV_run (vf := vf17) rfl rfl ?_
  rw [vf17_start]
  (repeat (first
    | refine RX_seq ?_
    | refine RX_block ?_
    | ((first | refine RX_reg ?_ | refine RX_cond' ?_ | refine RX_draw0 ?_ | refine RX_draw rfl ?_ | refine RX_skip ?_ | refine RX_exit ?_ | refine RX_ret ?_); try (simp only [go_sem, Int.reduceToNat, Nat.reducePow, Int.reduceEq, Int.reduceNe, Int.reduceLT, Int.reduceLE, Nat.reduceAdd, Nat.reduceLeDiff, ↓reduceIte, Nat.reduceLT, Nat.reduceMul, Nat.reduceSub, reduceCtorEq, frzLoc, rowCells, vAppM, beq_iff_eq, bne_iff_ne, bne_self_eq_false, beq_self_eq_true, beq_true, beq_false, I, B, w]))))
  (simp only [go_sem, Int.reduceToNat, Nat.reducePow, Int.reduceEq, Int.reduceNe, Int.reduceLT, Int.reduceLE, Nat.reduceAdd, Nat.reduceLeDiff, ↓reduceIte, Nat.reduceLT, Nat.reduceMul, Nat.reduceSub, reduceCtorEq, frzLoc, rowCells, vAppM, beq_iff_eq, bne_iff_ne, bne_self_eq_false, beq_self_eq_true, beq_true, beq_false, I, B, w, vf17])
theorem e13 : CV VP 13 [] [] = some ⟨.d (B true), [], [], 0⟩ := by
  refine CV_run (vf := vf13) rfl rfl ?_
  rw [vf13_start]
  (repeat (first
    | refine RX_seq ?_
    | refine RX_block ?_
    | ((first | refine RX_reg ?_ | refine RX_cond' ?_ | refine RX_draw0 ?_ | refine RX_draw rfl ?_ | refine RX_skip ?_ | refine RX_exit ?_ | refine RX_ret ?_); try (simp only [go_sem, Int.reduceToNat, Nat.reducePow, Int.reduceEq, Int.reduceNe, Int.reduceLT, Int.reduceLE, Nat.reduceAdd, Nat.reduceLeDiff, ↓reduceIte, Nat.reduceLT, Nat.reduceMul, Nat.reduceSub, reduceCtorEq, frzLoc, rowCells, vAppM, beq_iff_eq, bne_iff_ne, bne_self_eq_false, beq_self_eq_true, beq_true, beq_false, I, B, w, e17]))))
  (simp only [go_sem, Int.reduceToNat, Nat.reducePow, Int.reduceEq, Int.reduceNe, Int.reduceLT, Int.reduceLE, Nat.reduceAdd, Nat.reduceLeDiff, ↓reduceIte, Nat.reduceLT, Nat.reduceMul, Nat.reduceSub, reduceCtorEq, frzLoc, rowCells, vAppM, beq_iff_eq, bne_iff_ne, bne_self_eq_false, beq_self_eq_true, beq_true, beq_false, I, B, w, vf13])
  rfl
theorem e14 (a n : Int) (hn : 0 < n) (hw : n < 9223372036854775808) : CV VP 14 [.d (I a), .d (I n)] [] = some ⟨.d (I (a % n)), [], [], 0⟩ := by
  have h1 := Int.emod_nonneg a (Int.ne_of_gt hn)
  have h2 := Int.emod_lt_of_pos a hn
  have h3 := @Int.tmod_eq_emod a n
  refine CV_run (vf := vf14) rfl rfl ?_
  rw [vf14_start]
  (repeat (first
    | refine RX_seq ?_
    | refine RX_block ?_
    | ((first | refine RX_reg ?_ | refine RX_cond' ?_ | refine RX_draw0 ?_ | refine RX_draw rfl ?_ | refine RX_skip ?_ | refine RX_exit ?_ | refine RX_ret ?_); try (simp only [go_sem, Int.reduceToNat, Nat.reducePow, Int.reduceEq, Int.reduceNe, Int.reduceLT, Int.reduceLE, Nat.reduceAdd, Nat.reduceLeDiff, ↓reduceIte, Nat.reduceLT, Nat.reduceMul, Nat.reduceSub, reduceCtorEq, frzLoc, rowCells, vAppM, beq_iff_eq, bne_iff_ne, bne_self_eq_false, beq_self_eq_true, beq_true, beq_false, I, B, w, Int.ne_of_gt hn]))))
  split
  · rename_i h
    (repeat (first
    | refine RX_seq ?_
    | refine RX_block ?_
    | ((first | refine RX_reg ?_ | refine RX_cond' ?_ | refine RX_draw0 ?_ | refine RX_draw rfl ?_ | refine RX_skip ?_ | refine RX_exit ?_ | refine RX_ret ?_); try (simp only [go_sem, Int.reduceToNat, Nat.reducePow, Int.reduceEq, Int.reduceNe, Int.reduceLT, Int.reduceLE, Nat.reduceAdd, Nat.reduceLeDiff, ↓reduceIte, Nat.reduceLT, Nat.reduceMul, Nat.reduceSub, reduceCtorEq, frzLoc, rowCells, vAppM, beq_iff_eq, bne_iff_ne, bne_self_eq_false, beq_self_eq_true, beq_true, beq_false, I, B, w]))))
    (simp only [go_sem, Int.reduceToNat, Nat.reducePow, Int.reduceEq, Int.reduceNe, Int.reduceLT, Int.reduceLE, Nat.reduceAdd, Nat.reduceLeDiff, ↓reduceIte, Nat.reduceLT, Nat.reduceMul, Nat.reduceSub, reduceCtorEq, frzLoc, rowCells, vAppM, beq_iff_eq, bne_iff_ne, bne_self_eq_false, beq_self_eq_true, beq_true, beq_false, I, B, w, vf14])
    have : IntKind.i64.wrap (a.tmod n + n) = a % n := by
      split at h3 <;> rw [IntWalk.i64_in _ (by omega)] <;> omega
    rw [this]
  · rename_i h
    (repeat (first
    | refine RX_seq ?_
    | refine RX_block ?_
    | ((first | refine RX_reg ?_ | refine RX_cond' ?_ | refine RX_draw0 ?_ | refine RX_draw rfl ?_ | refine RX_skip ?_ | refine RX_exit ?_ | refine RX_ret ?_); try (simp only [go_sem, Int.reduceToNat, Nat.reducePow, Int.reduceEq, Int.reduceNe, Int.reduceLT, Int.reduceLE, Nat.reduceAdd, Nat.reduceLeDiff, ↓reduceIte, Nat.reduceLT, Nat.reduceMul, Nat.reduceSub, reduceCtorEq, frzLoc, rowCells, vAppM, beq_iff_eq, bne_iff_ne, bne_self_eq_false, beq_self_eq_true, beq_true, beq_false, I, B, w]))))
    (simp only [go_sem, Int.reduceToNat, Nat.reducePow, Int.reduceEq, Int.reduceNe, Int.reduceLT, Int.reduceLE, Nat.reduceAdd, Nat.reduceLeDiff, ↓reduceIte, Nat.reduceLT, Nat.reduceMul, Nat.reduceSub, reduceCtorEq, frzLoc, rowCells, vAppM, beq_iff_eq, bne_iff_ne, bne_self_eq_false, beq_self_eq_true, beq_true, beq_false, I, B, w, vf14])
    have : a.tmod n = a % n := by
      split at h3 <;> omega
    rw [this]
/-- what Value answers -/
def Tm.one : List Tm → Int × Bool
  | [u] => if u.op = 1 then (u.val, true) else (0, false)
  | _ => (0, false)
theorem e25 (n : Int) (ts : List Tm) (hl : ts.length < 1000000) (hs : ∀ t ∈ ts, t.args.length < 1000000) :
    CV VP 25 [.d (.sl (ts.map Tm.row)), .d (I n)] [] = some ⟨.tup [.d (I (Tm.one ((Tm.find n ts).getD [])).1), .d (B (Tm.one ((Tm.find n ts).getD [])).2)], [], [], 0⟩ := by
  have h23 := e23 n ts hl hs
  simp only [Tm.findV] at h23
  generalize (Tm.find n ts).getD [] = r at *
  generalize (Tm.find n ts).isSome = o at *
  refine CV_run (vf := vf25) rfl rfl ?_
  rw [vf25_start]
  match r with
  | [] => (repeat (first
    | refine RX_seq ?_
    | refine RX_block ?_
    | ((first | refine RX_reg ?_ | refine RX_cond' ?_ | refine RX_draw0 ?_ | refine RX_draw rfl ?_ | refine RX_skip ?_ | refine RX_exit ?_ | refine RX_ret ?_); try (simp only [go_sem, Int.reduceToNat, Nat.reducePow, Int.reduceEq, Int.reduceNe, Int.reduceLT, Int.reduceLE, Nat.reduceAdd, Nat.reduceLeDiff, ↓reduceIte, Nat.reduceLT, Nat.reduceMul, Nat.reduceSub, reduceCtorEq, frzLoc, rowCells, vAppM, beq_iff_eq, bne_iff_ne, bne_self_eq_false, beq_self_eq_true, beq_true, beq_false, I, B, w, vf25_res, vf25_keep, h23, Tm.one]))))
  | u :: v :: us =>
    have h1 : ((us.length + 1 + 1 : Nat) : Int) ≠ 1 := by omega
    (repeat (first
    | refine RX_seq ?_
    | refine RX_block ?_
    | ((first | refine RX_reg ?_ | refine RX_cond' ?_ | refine RX_draw0 ?_ | refine RX_draw rfl ?_ | refine RX_skip ?_ | refine RX_exit ?_ | refine RX_ret ?_); try (simp only [go_sem, Int.reduceToNat, Nat.reducePow, Int.reduceEq, Int.reduceNe, Int.reduceLT, Int.reduceLE, Nat.reduceAdd, Nat.reduceLeDiff, ↓reduceIte, Nat.reduceLT, Nat.reduceMul, Nat.reduceSub, reduceCtorEq, frzLoc, rowCells, vAppM, beq_iff_eq, bne_iff_ne, bne_self_eq_false, beq_self_eq_true, beq_true, beq_false, I, B, w, vf25_res, vf25_keep, h23, Tm.one, List.length_map, h1]))))
  | [u] =>
    by_cases hu : u.op = 1
    · (repeat (first
    | refine RX_seq ?_
    | refine RX_block ?_
    | ((first | refine RX_reg ?_ | refine RX_cond' ?_ | refine RX_draw0 ?_ | refine RX_draw rfl ?_ | refine RX_skip ?_ | refine RX_exit ?_ | refine RX_ret ?_); try (simp only [go_sem, Int.reduceToNat, Nat.reducePow, Int.reduceEq, Int.reduceNe, Int.reduceLT, Int.reduceLE, Nat.reduceAdd, Nat.reduceLeDiff, ↓reduceIte, Nat.reduceLT, Nat.reduceMul, Nat.reduceSub, reduceCtorEq, frzLoc, rowCells, vAppM, beq_iff_eq, bne_iff_ne, bne_self_eq_false, beq_self_eq_true, beq_true, beq_false, I, B, w, vf25_res, vf25_keep, h23, Tm.one, hu, Tm.row_eq u]))))
    · (repeat (first
    | refine RX_seq ?_
    | refine RX_block ?_
    | ((first | refine RX_reg ?_ | refine RX_cond' ?_ | refine RX_draw0 ?_ | refine RX_draw rfl ?_ | refine RX_skip ?_ | refine RX_exit ?_ | refine RX_ret ?_); try (simp only [go_sem, Int.reduceToNat, Nat.reducePow, Int.reduceEq, Int.reduceNe, Int.reduceLT, Int.reduceLE, Nat.reduceAdd, Nat.reduceLeDiff, ↓reduceIte, Nat.reduceLT, Nat.reduceMul, Nat.reduceSub, reduceCtorEq, frzLoc, rowCells, vAppM, beq_iff_eq, bne_iff_ne, bne_self_eq_false, beq_self_eq_true, beq_true, beq_false, I, B, w, vf25_res, vf25_keep, h23, Tm.one, hu, Tm.row_eq u]))))
mutual
theorem Tm.eqb_refl : ∀ t : Tm, t.eqb t = true
  | .mk a b c => by rw [Tm.eqb, Tm.eqbs_refl c]; simp
theorem Tm.eqbs_refl : ∀ ts : List Tm, Tm.eqbs ts ts = true
  | [] => rfl
  | t :: ts => by rw [Tm.eqbs, Tm.eqb_refl t, Tm.eqbs_refl ts]; rfl
end
theorem drT_args {l : List Int} (hB : Bytes l) (d k : Nat) : (drT l d k).1.args.length < 1000 := by
  cases d with
  | zero => simp [drT, Tm.args]
  | succ d =>
    rw [drT]
    split
    · simp [Tm.args]
    split
    · simp only [Tm.args, drL_len]
      have := nxV_range hB (k := nxA l k) (n := 4) (by decide)
      omega
    split
    · simp [Tm.args]
    split
    · simp [Tm.args]
    split
    · simp [Tm.args]
    split <;> simp [Tm.args]
end Go.Proofs.Ytahiikdkgbbmfaa

namespace Go.Proofs.Ytahiikdkgbbmfaa
open Go.VM
abbrev U (n : Int) : D := .lit (.int .u64 n)
def fam (six : Bool) : Int := if six then 6 else 4
def famH (six : Bool) : Int := if six then 2305843009213693952 else 0
def adr (six : Bool) (side low : Int) : Int := (if six then 0 else 167772160) + side * 256 + low
theorem e91 (side low : Int) (six : Bool) (h1 : 0 ≤ side) (h2 : side ≤ 7) (h3 : 0 ≤ low) (h4 : low ≤ 65535) :
    CV VP 91 [.d (I side), .d (I low), .d (B six)] [] = some ⟨.agg [.d (I (fam six)), .d (U (famH six)), .d (U (adr six side low))], [], [], 0⟩ := by
  have w1 : IntKind.i64.wrap (side * 256) = side * 256 := w_in (by omega) (by omega)
  have w2 : IntKind.i64.wrap (side * 256 + low) = side * 256 + low := w_in (by omega) (by omega)
  have w3 : IntKind.i64.wrap (167772160 + side * 256) = 167772160 + side * 256 := w_in (by omega) (by omega)
  have w4 : IntKind.i64.wrap (167772160 + side * 256 + low) = 167772160 + side * 256 + low := w_in (by omega) (by omega)
  have u1 : IntKind.u64.wrap (side * 256 + low) = side * 256 + low := by simp [IntKind.wrap, IntKind.signed, IntKind.bits]; omega
  have u2 : IntKind.u64.wrap (167772160 + side * 256 + low) = 167772160 + side * 256 + low := by simp [IntKind.wrap, IntKind.signed, IntKind.bits]; omega
  have p8 : (2 : Int) ^ (min 8 64) = 256 := rfl
  have h8 : ¬ ((8 : Int) < 0) := by decide
  refine CV_run (vf := vf91) rfl rfl ?_
  rw [vf91_start]
  cases six with
  | true =>
    have a1 : adr true side low = side * 256 + low := by unfold adr; simp
    rw [a1]
    simp only [fam, famH]
    (repeat (first
    | refine RX_seq ?_
    | refine RX_block ?_
    | ((first | refine RX_reg ?_ | refine RX_cond' ?_ | refine RX_draw0 ?_ | refine RX_draw rfl ?_ | refine RX_skip ?_ | refine RX_exit ?_ | refine RX_ret ?_); try (simp only [go_sem, Int.reduceToNat, Nat.reducePow, Int.reduceEq, Int.reduceNe, Int.reduceLT, Int.reduceLE, Nat.reduceAdd, Nat.reduceLeDiff, ↓reduceIte, Nat.reduceLT, Nat.reduceMul, Nat.reduceSub, reduceCtorEq, frzLoc, rowCells, vAppM, beq_iff_eq, bne_iff_ne, bne_self_eq_false, beq_self_eq_true, beq_true, beq_false, I, B, w, vf91_res, vf91_keep, vShift, p8, h8, w1, w2, u1]))))
  | false =>
    have a1 : adr false side low = 167772160 + side * 256 + low := by unfold adr; simp
    rw [a1]
    simp only [fam, famH]
    (repeat (first
    | refine RX_seq ?_
    | refine RX_block ?_
    | ((first | refine RX_reg ?_ | refine RX_cond' ?_ | refine RX_draw0 ?_ | refine RX_draw rfl ?_ | refine RX_skip ?_ | refine RX_exit ?_ | refine RX_ret ?_); try (simp only [go_sem, Int.reduceToNat, Nat.reducePow, Int.reduceEq, Int.reduceNe, Int.reduceLT, Int.reduceLE, Nat.reduceAdd, Nat.reduceLeDiff, ↓reduceIte, Nat.reduceLT, Nat.reduceMul, Nat.reduceSub, reduceCtorEq, frzLoc, rowCells, vAppM, beq_iff_eq, bne_iff_ne, bne_self_eq_false, beq_self_eq_true, beq_true, beq_false, I, B, w, vf91_res, vf91_keep, vShift, p8, h8, w1, w3, w4, u2]))))
end Go.Proofs.Ytahiikdkgbbmfaa

namespace Go.Proofs.Ytahiikdkgbbmfaa
open Go.VM
/-- a packet and its number -/
structure Pk where
  (f h a f' h' a' pr sp tp id : Int)
/-- its ten cells -/
def Pk.ds (p : Pk) : List D := [I p.f, U p.h, U p.a, I p.f', U p.h', U p.a', I p.pr, I p.sp, I p.tp, I p.id]
def Pk.ns (p : Pk) : List Int := [p.f, w p.h, w p.a, p.f', w p.h', w p.a', p.pr, p.sp, p.tp, p.id]
def nT (n : Int) : Tm := .mk 1 n []
def Pk.tm (p : Pk) : Tm := .mk 3 0 (p.ns.map nT)
theorem e75 (n : Int) : CV VP 75 [.d (I n)] [] = some ⟨.agg [.d (I 1), .d (I n), .d (.sl [])], [], [], 0⟩ := by
  refine CV_run (vf := vf75) rfl rfl ?_
  rw [vf75_start]
  (repeat (first
    | refine RX_seq ?_
    | refine RX_block ?_
    | ((first | refine RX_reg ?_ | refine RX_cond' ?_ | refine RX_draw0 ?_ | refine RX_draw rfl ?_ | refine RX_skip ?_ | refine RX_exit ?_ | refine RX_ret ?_); try (simp only [go_sem, Int.reduceToNat, Nat.reducePow, Int.reduceEq, Int.reduceNe, Int.reduceLT, Int.reduceLE, Nat.reduceAdd, Nat.reduceLeDiff, ↓reduceIte, Nat.reduceLT, Nat.reduceMul, Nat.reduceSub, reduceCtorEq, frzLoc, rowCells, vAppM, beq_iff_eq, bne_iff_ne, bne_self_eq_false, beq_self_eq_true, beq_true, beq_false, I, B, w, e76, vf75_res, vf75_keep]))))
theorem wI (i : Nat) (h : i < 100) : IntKind.i64.wrap ((i : Int) + 1) = (i : Int) + 1 := w_in (by omega) (by omega)
theorem e74 (a b c d e f g h i j : Int) : CV VP 74 [.d (.sl [[I a], [I b], [I c], [I d], [I e], [I f], [I g], [I h], [I i], [I j]])] [] =
    some ⟨.d (.sl [[I 1, I a, .sl []], [I 1, I b, .sl []], [I 1, I c, .sl []], [I 1, I d, .sl []], [I 1, I e, .sl []], [I 1, I f, .sl []], [I 1, I g, .sl []], [I 1, I h, .sl []], [I 1, I i, .sl []], [I 1, I j, .sl []]]), [], [], 0⟩ := by
  have w0 : IntKind.i64.wrap (0 + 1) = 1 := rfl
  have w1 : IntKind.i64.wrap (1 + 1) = 2 := rfl
  have w2 : IntKind.i64.wrap (2 + 1) = 3 := rfl
  have w3 : IntKind.i64.wrap (3 + 1) = 4 := rfl
  have w4 : IntKind.i64.wrap (4 + 1) = 5 := rfl
  have w5 : IntKind.i64.wrap (5 + 1) = 6 := rfl
  have w6 : IntKind.i64.wrap (6 + 1) = 7 := rfl
  have w7 : IntKind.i64.wrap (7 + 1) = 8 := rfl
  have w8 : IntKind.i64.wrap (8 + 1) = 9 := rfl
  have w9 : IntKind.i64.wrap (9 + 1) = 10 := rfl
  refine CV_run (vf := vf74) rfl rfl ?_
  rw [vf74_start]
  (repeat (first
    | refine RX_seq ?_
    | refine RX_block ?_
    | ((first | refine RX_reg ?_ | refine RX_cond' ?_ | refine RX_draw0 ?_ | refine RX_draw rfl ?_ | refine RX_skip ?_ | refine RX_exit ?_ | refine RX_ret ?_); try (simp only [go_sem, Int.reduceToNat, Nat.reducePow, Int.reduceEq, Int.reduceNe, Int.reduceLT, Int.reduceLE, Nat.reduceAdd, Nat.reduceLeDiff, ↓reduceIte, Nat.reduceLT, Nat.reduceMul, Nat.reduceSub, reduceCtorEq, frzLoc, rowCells, vAppM, beq_iff_eq, bne_iff_ne, bne_self_eq_false, beq_self_eq_true, beq_true, beq_false, I, B, w, e72, vf74_res, vf74_keep]))))
  refine RX_loop ?_
  (refine RL_head ?_; (simp only [go_sem, Int.reduceToNat, Nat.reducePow, Int.reduceEq, Int.reduceNe, Int.reduceLT, Int.reduceLE, Nat.reduceAdd, Nat.reduceLeDiff, ↓reduceIte, Nat.reduceLT, Nat.reduceMul, Nat.reduceSub, reduceCtorEq, frzLoc, rowCells, vAppM, beq_iff_eq, bne_iff_ne, bne_self_eq_false, beq_self_eq_true, beq_true, beq_false, I, B, w, St.head, forget, vf74K0, RLK_some, e72, vf74_res, vf74_keep, w0]); refine vf74L0_go ?_; ((repeat (first
    | refine RX_seq ?_
    | refine RX_block ?_
    | ((first | refine RX_reg ?_ | refine RX_cond' ?_ | refine RX_draw0 ?_ | refine RX_draw rfl ?_ | refine RX_skip ?_ | refine RX_exit ?_ | refine RX_ret ?_); try (simp only [go_sem, Int.reduceToNat, Nat.reducePow, Int.reduceEq, Int.reduceNe, Int.reduceLT, Int.reduceLE, Nat.reduceAdd, Nat.reduceLeDiff, ↓reduceIte, Nat.reduceLT, Nat.reduceMul, Nat.reduceSub, reduceCtorEq, frzLoc, rowCells, vAppM, beq_iff_eq, bne_iff_ne, bne_self_eq_false, beq_self_eq_true, beq_true, beq_false, I, B, w, e72, vf74_res, vf74_keep, w0]))))))
  (refine RL_head ?_; (simp only [go_sem, Int.reduceToNat, Nat.reducePow, Int.reduceEq, Int.reduceNe, Int.reduceLT, Int.reduceLE, Nat.reduceAdd, Nat.reduceLeDiff, ↓reduceIte, Nat.reduceLT, Nat.reduceMul, Nat.reduceSub, reduceCtorEq, frzLoc, rowCells, vAppM, beq_iff_eq, bne_iff_ne, bne_self_eq_false, beq_self_eq_true, beq_true, beq_false, I, B, w, St.head, forget, vf74K0, RLK_some, e72, vf74_res, vf74_keep, w1]); refine vf74L0_go ?_; ((repeat (first
    | refine RX_seq ?_
    | refine RX_block ?_
    | ((first | refine RX_reg ?_ | refine RX_cond' ?_ | refine RX_draw0 ?_ | refine RX_draw rfl ?_ | refine RX_skip ?_ | refine RX_exit ?_ | refine RX_ret ?_); try (simp only [go_sem, Int.reduceToNat, Nat.reducePow, Int.reduceEq, Int.reduceNe, Int.reduceLT, Int.reduceLE, Nat.reduceAdd, Nat.reduceLeDiff, ↓reduceIte, Nat.reduceLT, Nat.reduceMul, Nat.reduceSub, reduceCtorEq, frzLoc, rowCells, vAppM, beq_iff_eq, bne_iff_ne, bne_self_eq_false, beq_self_eq_true, beq_true, beq_false, I, B, w, e72, vf74_res, vf74_keep, w1]))))))
  (refine RL_head ?_; (simp only [go_sem, Int.reduceToNat, Nat.reducePow, Int.reduceEq, Int.reduceNe, Int.reduceLT, Int.reduceLE, Nat.reduceAdd, Nat.reduceLeDiff, ↓reduceIte, Nat.reduceLT, Nat.reduceMul, Nat.reduceSub, reduceCtorEq, frzLoc, rowCells, vAppM, beq_iff_eq, bne_iff_ne, bne_self_eq_false, beq_self_eq_true, beq_true, beq_false, I, B, w, St.head, forget, vf74K0, RLK_some, e72, vf74_res, vf74_keep, w2]); refine vf74L0_go ?_; ((repeat (first
    | refine RX_seq ?_
    | refine RX_block ?_
    | ((first | refine RX_reg ?_ | refine RX_cond' ?_ | refine RX_draw0 ?_ | refine RX_draw rfl ?_ | refine RX_skip ?_ | refine RX_exit ?_ | refine RX_ret ?_); try (simp only [go_sem, Int.reduceToNat, Nat.reducePow, Int.reduceEq, Int.reduceNe, Int.reduceLT, Int.reduceLE, Nat.reduceAdd, Nat.reduceLeDiff, ↓reduceIte, Nat.reduceLT, Nat.reduceMul, Nat.reduceSub, reduceCtorEq, frzLoc, rowCells, vAppM, beq_iff_eq, bne_iff_ne, bne_self_eq_false, beq_self_eq_true, beq_true, beq_false, I, B, w, e72, vf74_res, vf74_keep, w2]))))))
  (refine RL_head ?_; (simp only [go_sem, Int.reduceToNat, Nat.reducePow, Int.reduceEq, Int.reduceNe, Int.reduceLT, Int.reduceLE, Nat.reduceAdd, Nat.reduceLeDiff, ↓reduceIte, Nat.reduceLT, Nat.reduceMul, Nat.reduceSub, reduceCtorEq, frzLoc, rowCells, vAppM, beq_iff_eq, bne_iff_ne, bne_self_eq_false, beq_self_eq_true, beq_true, beq_false, I, B, w, St.head, forget, vf74K0, RLK_some, e72, vf74_res, vf74_keep, w3]); refine vf74L0_go ?_; ((repeat (first
    | refine RX_seq ?_
    | refine RX_block ?_
    | ((first | refine RX_reg ?_ | refine RX_cond' ?_ | refine RX_draw0 ?_ | refine RX_draw rfl ?_ | refine RX_skip ?_ | refine RX_exit ?_ | refine RX_ret ?_); try (simp only [go_sem, Int.reduceToNat, Nat.reducePow, Int.reduceEq, Int.reduceNe, Int.reduceLT, Int.reduceLE, Nat.reduceAdd, Nat.reduceLeDiff, ↓reduceIte, Nat.reduceLT, Nat.reduceMul, Nat.reduceSub, reduceCtorEq, frzLoc, rowCells, vAppM, beq_iff_eq, bne_iff_ne, bne_self_eq_false, beq_self_eq_true, beq_true, beq_false, I, B, w, e72, vf74_res, vf74_keep, w3]))))))
  (refine RL_head ?_; (simp only [go_sem, Int.reduceToNat, Nat.reducePow, Int.reduceEq, Int.reduceNe, Int.reduceLT, Int.reduceLE, Nat.reduceAdd, Nat.reduceLeDiff, ↓reduceIte, Nat.reduceLT, Nat.reduceMul, Nat.reduceSub, reduceCtorEq, frzLoc, rowCells, vAppM, beq_iff_eq, bne_iff_ne, bne_self_eq_false, beq_self_eq_true, beq_true, beq_false, I, B, w, St.head, forget, vf74K0, RLK_some, e72, vf74_res, vf74_keep, w4]); refine vf74L0_go ?_; ((repeat (first
    | refine RX_seq ?_
    | refine RX_block ?_
    | ((first | refine RX_reg ?_ | refine RX_cond' ?_ | refine RX_draw0 ?_ | refine RX_draw rfl ?_ | refine RX_skip ?_ | refine RX_exit ?_ | refine RX_ret ?_); try (simp only [go_sem, Int.reduceToNat, Nat.reducePow, Int.reduceEq, Int.reduceNe, Int.reduceLT, Int.reduceLE, Nat.reduceAdd, Nat.reduceLeDiff, ↓reduceIte, Nat.reduceLT, Nat.reduceMul, Nat.reduceSub, reduceCtorEq, frzLoc, rowCells, vAppM, beq_iff_eq, bne_iff_ne, bne_self_eq_false, beq_self_eq_true, beq_true, beq_false, I, B, w, e72, vf74_res, vf74_keep, w4]))))))
  (refine RL_head ?_; (simp only [go_sem, Int.reduceToNat, Nat.reducePow, Int.reduceEq, Int.reduceNe, Int.reduceLT, Int.reduceLE, Nat.reduceAdd, Nat.reduceLeDiff, ↓reduceIte, Nat.reduceLT, Nat.reduceMul, Nat.reduceSub, reduceCtorEq, frzLoc, rowCells, vAppM, beq_iff_eq, bne_iff_ne, bne_self_eq_false, beq_self_eq_true, beq_true, beq_false, I, B, w, St.head, forget, vf74K0, RLK_some, e72, vf74_res, vf74_keep, w5]); refine vf74L0_go ?_; ((repeat (first
    | refine RX_seq ?_
    | refine RX_block ?_
    | ((first | refine RX_reg ?_ | refine RX_cond' ?_ | refine RX_draw0 ?_ | refine RX_draw rfl ?_ | refine RX_skip ?_ | refine RX_exit ?_ | refine RX_ret ?_); try (simp only [go_sem, Int.reduceToNat, Nat.reducePow, Int.reduceEq, Int.reduceNe, Int.reduceLT, Int.reduceLE, Nat.reduceAdd, Nat.reduceLeDiff, ↓reduceIte, Nat.reduceLT, Nat.reduceMul, Nat.reduceSub, reduceCtorEq, frzLoc, rowCells, vAppM, beq_iff_eq, bne_iff_ne, bne_self_eq_false, beq_self_eq_true, beq_true, beq_false, I, B, w, e72, vf74_res, vf74_keep, w5]))))))
  (refine RL_head ?_; (simp only [go_sem, Int.reduceToNat, Nat.reducePow, Int.reduceEq, Int.reduceNe, Int.reduceLT, Int.reduceLE, Nat.reduceAdd, Nat.reduceLeDiff, ↓reduceIte, Nat.reduceLT, Nat.reduceMul, Nat.reduceSub, reduceCtorEq, frzLoc, rowCells, vAppM, beq_iff_eq, bne_iff_ne, bne_self_eq_false, beq_self_eq_true, beq_true, beq_false, I, B, w, St.head, forget, vf74K0, RLK_some, e72, vf74_res, vf74_keep, w6]); refine vf74L0_go ?_; ((repeat (first
    | refine RX_seq ?_
    | refine RX_block ?_
    | ((first | refine RX_reg ?_ | refine RX_cond' ?_ | refine RX_draw0 ?_ | refine RX_draw rfl ?_ | refine RX_skip ?_ | refine RX_exit ?_ | refine RX_ret ?_); try (simp only [go_sem, Int.reduceToNat, Nat.reducePow, Int.reduceEq, Int.reduceNe, Int.reduceLT, Int.reduceLE, Nat.reduceAdd, Nat.reduceLeDiff, ↓reduceIte, Nat.reduceLT, Nat.reduceMul, Nat.reduceSub, reduceCtorEq, frzLoc, rowCells, vAppM, beq_iff_eq, bne_iff_ne, bne_self_eq_false, beq_self_eq_true, beq_true, beq_false, I, B, w, e72, vf74_res, vf74_keep, w6]))))))
  (refine RL_head ?_; (simp only [go_sem, Int.reduceToNat, Nat.reducePow, Int.reduceEq, Int.reduceNe, Int.reduceLT, Int.reduceLE, Nat.reduceAdd, Nat.reduceLeDiff, ↓reduceIte, Nat.reduceLT, Nat.reduceMul, Nat.reduceSub, reduceCtorEq, frzLoc, rowCells, vAppM, beq_iff_eq, bne_iff_ne, bne_self_eq_false, beq_self_eq_true, beq_true, beq_false, I, B, w, St.head, forget, vf74K0, RLK_some, e72, vf74_res, vf74_keep, w7]); refine vf74L0_go ?_; ((repeat (first
    | refine RX_seq ?_
    | refine RX_block ?_
    | ((first | refine RX_reg ?_ | refine RX_cond' ?_ | refine RX_draw0 ?_ | refine RX_draw rfl ?_ | refine RX_skip ?_ | refine RX_exit ?_ | refine RX_ret ?_); try (simp only [go_sem, Int.reduceToNat, Nat.reducePow, Int.reduceEq, Int.reduceNe, Int.reduceLT, Int.reduceLE, Nat.reduceAdd, Nat.reduceLeDiff, ↓reduceIte, Nat.reduceLT, Nat.reduceMul, Nat.reduceSub, reduceCtorEq, frzLoc, rowCells, vAppM, beq_iff_eq, bne_iff_ne, bne_self_eq_false, beq_self_eq_true, beq_true, beq_false, I, B, w, e72, vf74_res, vf74_keep, w7]))))))
  (refine RL_head ?_; (simp only [go_sem, Int.reduceToNat, Nat.reducePow, Int.reduceEq, Int.reduceNe, Int.reduceLT, Int.reduceLE, Nat.reduceAdd, Nat.reduceLeDiff, ↓reduceIte, Nat.reduceLT, Nat.reduceMul, Nat.reduceSub, reduceCtorEq, frzLoc, rowCells, vAppM, beq_iff_eq, bne_iff_ne, bne_self_eq_false, beq_self_eq_true, beq_true, beq_false, I, B, w, St.head, forget, vf74K0, RLK_some, e72, vf74_res, vf74_keep, w8]); refine vf74L0_go ?_; ((repeat (first
    | refine RX_seq ?_
    | refine RX_block ?_
    | ((first | refine RX_reg ?_ | refine RX_cond' ?_ | refine RX_draw0 ?_ | refine RX_draw rfl ?_ | refine RX_skip ?_ | refine RX_exit ?_ | refine RX_ret ?_); try (simp only [go_sem, Int.reduceToNat, Nat.reducePow, Int.reduceEq, Int.reduceNe, Int.reduceLT, Int.reduceLE, Nat.reduceAdd, Nat.reduceLeDiff, ↓reduceIte, Nat.reduceLT, Nat.reduceMul, Nat.reduceSub, reduceCtorEq, frzLoc, rowCells, vAppM, beq_iff_eq, bne_iff_ne, bne_self_eq_false, beq_self_eq_true, beq_true, beq_false, I, B, w, e72, vf74_res, vf74_keep, w8]))))))
  (refine RL_head ?_; (simp only [go_sem, Int.reduceToNat, Nat.reducePow, Int.reduceEq, Int.reduceNe, Int.reduceLT, Int.reduceLE, Nat.reduceAdd, Nat.reduceLeDiff, ↓reduceIte, Nat.reduceLT, Nat.reduceMul, Nat.reduceSub, reduceCtorEq, frzLoc, rowCells, vAppM, beq_iff_eq, bne_iff_ne, bne_self_eq_false, beq_self_eq_true, beq_true, beq_false, I, B, w, St.head, forget, vf74K0, RLK_some, e72, vf74_res, vf74_keep, w9]); refine vf74L0_go ?_; ((repeat (first
    | refine RX_seq ?_
    | refine RX_block ?_
    | ((first | refine RX_reg ?_ | refine RX_cond' ?_ | refine RX_draw0 ?_ | refine RX_draw rfl ?_ | refine RX_skip ?_ | refine RX_exit ?_ | refine RX_ret ?_); try (simp only [go_sem, Int.reduceToNat, Nat.reducePow, Int.reduceEq, Int.reduceNe, Int.reduceLT, Int.reduceLE, Nat.reduceAdd, Nat.reduceLeDiff, ↓reduceIte, Nat.reduceLT, Nat.reduceMul, Nat.reduceSub, reduceCtorEq, frzLoc, rowCells, vAppM, beq_iff_eq, bne_iff_ne, bne_self_eq_false, beq_self_eq_true, beq_true, beq_false, I, B, w, e72, vf74_res, vf74_keep, w9]))))))
  (refine RL_head ?_; (simp only [go_sem, Int.reduceToNat, Nat.reducePow, Int.reduceEq, Int.reduceNe, Int.reduceLT, Int.reduceLE, Nat.reduceAdd, Nat.reduceLeDiff, ↓reduceIte, Nat.reduceLT, Nat.reduceMul, Nat.reduceSub, reduceCtorEq, frzLoc, rowCells, vAppM, beq_iff_eq, bne_iff_ne, bne_self_eq_false, beq_self_eq_true, beq_true, beq_false, I, B, w, St.head, forget, vf74K0, RLK_some, e72, vf74_res, vf74_keep]); refine vf74L0_go ?_; ((repeat (first
    | refine RX_seq ?_
    | refine RX_block ?_
    | ((first | refine RX_reg ?_ | refine RX_cond' ?_ | refine RX_draw0 ?_ | refine RX_draw rfl ?_ | refine RX_skip ?_ | refine RX_exit ?_ | refine RX_ret ?_); try (simp only [go_sem, Int.reduceToNat, Nat.reducePow, Int.reduceEq, Int.reduceNe, Int.reduceLT, Int.reduceLE, Nat.reduceAdd, Nat.reduceLeDiff, ↓reduceIte, Nat.reduceLT, Nat.reduceMul, Nat.reduceSub, reduceCtorEq, frzLoc, rowCells, vAppM, beq_iff_eq, bne_iff_ne, bne_self_eq_false, beq_self_eq_true, beq_true, beq_false, I, B, w, e72, vf74_res, vf74_keep]))))))
end Go.Proofs.Ytahiikdkgbbmfaa

namespace Go.Proofs.Ytahiikdkgbbmfaa
open Go.VM
def validP (f h a : Int) : Prop := f = 6 ∨ f = 4 ∧ h = 0 ∧ a < 4294967296
instance (f h a : Int) : Decidable (validP f h a) := by unfold validP; infer_instance
theorem e81 (f h a : Int) : CV VP 81 [.agg [.d (I f), .d (U h), .d (U a)]] [] = some ⟨.d (B (decide (validP f h a))), [], [], 0⟩ := by
  refine CV_run (vf := vf81) rfl rfl ?_
  rw [vf81_start]
  (repeat' (first
    | refine RX_seq ?_
    | refine RX_block ?_
    | ((first | refine RX_reg ?_ | refine RX_cond' ?_ | refine RX_draw0 ?_ | refine RX_draw rfl ?_ | refine RX_skip ?_ | refine RX_exit ?_ | refine RX_ret ?_); try (simp only [go_sem, Int.reduceToNat, Nat.reducePow, Int.reduceEq, Int.reduceNe, Int.reduceLT, Int.reduceLE, Nat.reduceAdd, Nat.reduceLeDiff, ↓reduceIte, Nat.reduceLT, Nat.reduceMul, Nat.reduceSub, reduceCtorEq, frzLoc, rowCells, vAppM, beq_true, beq_false, I, B, w, ibeq, ibne, bbeq, decide_eq_false_iff_not, decide_not, Bool.not_not, Decidable.not_not, Bool.not_eq_eq_eq_not, gt_iff_lt, ge_iff_le, and_false, false_and, or_self, and_self, vf81_res, vf81_keep, validP, *]))
    | (refine ite_ngo (fun _ => ?_) (fun _ => ?_) <;> try (simp only [go_sem, Int.reduceToNat, Nat.reducePow, Int.reduceEq, Int.reduceNe, Int.reduceLT, Int.reduceLE, Nat.reduceAdd, Nat.reduceLeDiff, ↓reduceIte, Nat.reduceLT, Nat.reduceMul, Nat.reduceSub, reduceCtorEq, frzLoc, rowCells, vAppM, beq_true, beq_false, I, B, w, ibeq, ibne, bbeq, decide_eq_false_iff_not, decide_not, Bool.not_not, Decidable.not_not, Bool.not_eq_eq_eq_not, gt_iff_lt, ge_iff_le, and_false, false_and, or_self, and_self, vf81_res, vf81_keep, validP, *]))
    | (refine ite_go (fun _ => ?_) (fun _ => ?_) <;> try (simp only [go_sem, Int.reduceToNat, Nat.reducePow, Int.reduceEq, Int.reduceNe, Int.reduceLT, Int.reduceLE, Nat.reduceAdd, Nat.reduceLeDiff, ↓reduceIte, Nat.reduceLT, Nat.reduceMul, Nat.reduceSub, reduceCtorEq, frzLoc, rowCells, vAppM, beq_true, beq_false, I, B, w, ibeq, ibne, bbeq, decide_eq_false_iff_not, decide_not, Bool.not_not, Decidable.not_not, Bool.not_eq_eq_eq_not, gt_iff_lt, ge_iff_le, and_false, false_and, or_self, and_self, vf81_res, vf81_keep, validP, *]))))
theorem e83 (f h a : Int) : CV VP 83 [.agg [.d (I f), .d (U h), .d (U a)]] [] = some ⟨.d (B (decide (validP f h a))), [], [], 0⟩ := by
  refine CV_run (vf := vf83) rfl rfl ?_
  rw [vf83_start]
  (repeat' (first
    | refine RX_seq ?_
    | refine RX_block ?_
    | ((first | refine RX_reg ?_ | refine RX_cond' ?_ | refine RX_draw0 ?_ | refine RX_draw rfl ?_ | refine RX_skip ?_ | refine RX_exit ?_ | refine RX_ret ?_); try (simp only [go_sem, Int.reduceToNat, Nat.reducePow, Int.reduceEq, Int.reduceNe, Int.reduceLT, Int.reduceLE, Nat.reduceAdd, Nat.reduceLeDiff, ↓reduceIte, Nat.reduceLT, Nat.reduceMul, Nat.reduceSub, reduceCtorEq, frzLoc, rowCells, vAppM, beq_true, beq_false, I, B, w, ibeq, ibne, bbeq, decide_eq_false_iff_not, decide_not, Bool.not_not, Decidable.not_not, Bool.not_eq_eq_eq_not, gt_iff_lt, ge_iff_le, and_false, false_and, or_self, and_self, vf83_res, vf83_keep, validP, *]))
    | (refine ite_ngo (fun _ => ?_) (fun _ => ?_) <;> try (simp only [go_sem, Int.reduceToNat, Nat.reducePow, Int.reduceEq, Int.reduceNe, Int.reduceLT, Int.reduceLE, Nat.reduceAdd, Nat.reduceLeDiff, ↓reduceIte, Nat.reduceLT, Nat.reduceMul, Nat.reduceSub, reduceCtorEq, frzLoc, rowCells, vAppM, beq_true, beq_false, I, B, w, ibeq, ibne, bbeq, decide_eq_false_iff_not, decide_not, Bool.not_not, Decidable.not_not, Bool.not_eq_eq_eq_not, gt_iff_lt, ge_iff_le, and_false, false_and, or_self, and_self, vf83_res, vf83_keep, validP, *]))
    | (refine ite_go (fun _ => ?_) (fun _ => ?_) <;> try (simp only [go_sem, Int.reduceToNat, Nat.reducePow, Int.reduceEq, Int.reduceNe, Int.reduceLT, Int.reduceLE, Nat.reduceAdd, Nat.reduceLeDiff, ↓reduceIte, Nat.reduceLT, Nat.reduceMul, Nat.reduceSub, reduceCtorEq, frzLoc, rowCells, vAppM, beq_true, beq_false, I, B, w, ibeq, ibne, bbeq, decide_eq_false_iff_not, decide_not, Bool.not_not, Decidable.not_not, Bool.not_eq_eq_eq_not, gt_iff_lt, ge_iff_le, and_false, false_and, or_self, and_self, vf83_res, vf83_keep, validP, *]))))
def portP (n : Int) : Prop := -1 ≤ n ∧ n ≤ 65535
instance (n : Int) : Decidable (portP n) := by unfold portP; infer_instance
theorem e82 (n : Int) : CV VP 82 [.d (I n)] [] = some ⟨.d (B (decide (portP n))), [], [], 0⟩ := by
  refine CV_run (vf := vf82) rfl rfl ?_
  rw [vf82_start]
  (repeat' (first
    | refine RX_seq ?_
    | refine RX_block ?_
    | ((first | refine RX_reg ?_ | refine RX_cond' ?_ | refine RX_draw0 ?_ | refine RX_draw rfl ?_ | refine RX_skip ?_ | refine RX_exit ?_ | refine RX_ret ?_); try (simp only [go_sem, Int.reduceToNat, Nat.reducePow, Int.reduceEq, Int.reduceNe, Int.reduceLT, Int.reduceLE, Nat.reduceAdd, Nat.reduceLeDiff, ↓reduceIte, Nat.reduceLT, Nat.reduceMul, Nat.reduceSub, reduceCtorEq, frzLoc, rowCells, vAppM, beq_true, beq_false, I, B, w, ibeq, ibne, bbeq, decide_eq_false_iff_not, decide_not, Bool.not_not, Decidable.not_not, Bool.not_eq_eq_eq_not, gt_iff_lt, ge_iff_le, and_false, false_and, or_self, and_self, vf82_res, vf82_keep, portP, *]))
    | (refine ite_ngo (fun _ => ?_) (fun _ => ?_) <;> try (simp only [go_sem, Int.reduceToNat, Nat.reducePow, Int.reduceEq, Int.reduceNe, Int.reduceLT, Int.reduceLE, Nat.reduceAdd, Nat.reduceLeDiff, ↓reduceIte, Nat.reduceLT, Nat.reduceMul, Nat.reduceSub, reduceCtorEq, frzLoc, rowCells, vAppM, beq_true, beq_false, I, B, w, ibeq, ibne, bbeq, decide_eq_false_iff_not, decide_not, Bool.not_not, Decidable.not_not, Bool.not_eq_eq_eq_not, gt_iff_lt, ge_iff_le, and_false, false_and, or_self, and_self, vf82_res, vf82_keep, portP, *]))
    | (refine ite_go (fun _ => ?_) (fun _ => ?_) <;> try (simp only [go_sem, Int.reduceToNat, Nat.reducePow, Int.reduceEq, Int.reduceNe, Int.reduceLT, Int.reduceLE, Nat.reduceAdd, Nat.reduceLeDiff, ↓reduceIte, Nat.reduceLT, Nat.reduceMul, Nat.reduceSub, reduceCtorEq, frzLoc, rowCells, vAppM, beq_true, beq_false, I, B, w, ibeq, ibne, bbeq, decide_eq_false_iff_not, decide_not, Bool.not_not, Decidable.not_not, Bool.not_eq_eq_eq_not, gt_iff_lt, ge_iff_le, and_false, false_and, or_self, and_self, vf82_res, vf82_keep, portP, *]))))
end Go.Proofs.Ytahiikdkgbbmfaa

namespace Go.Proofs.Ytahiikdkgbbmfaa
open Go.VM
def Pk.ds9 (p : Pk) : List D := [I p.f, U p.h, U p.a, I p.f', U p.h', U p.a', I p.pr, I p.sp, I p.tp]
def pkF (l : List Int) (s : Int) (k : Nat) : Pk × Nat :=
  let six := decide (nxV l k 10 = 9)
  let k1 := nxA l k
  let to := if nxV l k1 8 = 7 then 3 else 1 - s
  let k2 := nxA l k1
  let k3 := nxA l k2
  let k4 := nxA l k3
  let k5 := nxA l k4
  let k6 := nxA l k5
  let k7 := nxA l k6
  let x := nxV l k4 4
  let pr := if x = 0 then 6 else if x = 1 then 17 else if x = 2 then 1 else 50
  let op := nxV l k7 4 = 3 ∨ pr = 1 ∨ pr = 50
  (⟨fam six, famH six, adr six s (nxV l k2 256), fam six, famH six, adr six to (nxV l k3 256), pr, if op then -1 else nxV l k5 6 * 20, if op then -1 else nxV l k6 6 * 20, 0⟩, nxA l k7)
set_option maxHeartbeats 4000000 in
theorem e73b {l : List Int} (hB : Bytes l) (s : Int) (hs0 : 0 ≤ s) (hs1 : s ≤ 1) (k : Nat) : ∀ (id : Nat) bl, CtxOk bl id →
    CV VP 73 [.ptr id 0, .d (I s)] (cx bl id l (k : Nat) []) = some ⟨.agg ((pkF l s k).1.ds9.map .d), cx bl id l ((pkF l s k).2 : Nat) [], [], 0⟩ := by
  intro id bl h
  simp only [pkF]
  have qa := nxV_range hB (k := nxA l (nxA l k)) (n := 256) (by decide)
  have qb := nxV_range hB (k := nxA l (nxA l (nxA l k))) (n := 256) (by decide)
  have q4 := nxV_range hB (k := nxA l (nxA l (nxA l (nxA l k)))) (n := 4) (by decide)
  have q5 := nxV_range hB (k := nxA l (nxA l (nxA l (nxA l (nxA l k))))) (n := 6) (by decide)
  have q6 := nxV_range hB (k := nxA l (nxA l (nxA l (nxA l (nxA l (nxA l k)))))) (n := 6) (by decide)
  have cN : ∀ (n : Int), 0 < n → n ≤ 256 → ∀ (k : Nat) (own : List (List V)), own.map V.erL = own → own.all (V.ltbL (bl.length + own.length)) = true → CV VP 29 [.ptr id 0, .d (I n)] (cx bl id l (k : Nat) own) = some ⟨.d (I (nxV l k n)), cx bl id l (nxA l k : Nat) own, [], 0⟩ := fun n h1 h2 k own => e29 hB h h1 h2
  have c10 := cN 10 (by decide) (by decide)
  have c8 := cN 8 (by decide) (by decide)
  have c256 := cN 256 (by decide) (by decide)
  have c6 := cN 6 (by decide) (by decide)
  have c4 := cN 4 (by decide) (by decide)
  have hid := h.lt
  clear cN
  generalize hk1 : nxA l k = k1 at *
  generalize hk2 : nxA l k1 = k2 at *
  generalize hk3 : nxA l k2 = k3 at *
  generalize hk4 : nxA l k3 = k4 at *
  generalize hk5 : nxA l k4 = k5 at *
  generalize hk6 : nxA l k5 = k6 at *
  generalize hk7 : nxA l k6 = k7 at *
  have hx4 : nxV l k4 4 = 0 ∨ nxV l k4 4 = 1 ∨ nxV l k4 4 = 2 ∨ nxV l k4 4 = 3 := by omega
  have m1 : IntKind.i64.wrap (1 - s) = 1 - s := w_in (by omega) (by omega)
  have m5 : IntKind.i64.wrap (nxV l k5 6 * 20) = nxV l k5 6 * 20 := w_in (by omega) (by omega)
  have m6 : IntKind.i64.wrap (nxV l k6 6 * 20) = nxV l k6 6 * 20 := w_in (by omega) (by omega)
  generalize hsix : decide (nxV l k 10 = 9) = six at *
  have r1 := e91 s (nxV l k2 256) six hs0 (by omega) (by omega) (by omega)
  have r2 := e91 (1 - s) (nxV l k3 256) six (by omega) (by omega) (by omega) (by omega)
  have r3 := e91 3 (nxV l k3 256) six (by omega) (by omega) (by omega) (by omega)
  clear qa qb q4 q5 q6 hs0 hs1 hB
  refine CV_run (vf := vf73) rfl rfl ?_
  rw [vf73_start]
  simp only [Pk.ds9]
  rcases hx4 with hx4 | hx4 | hx4 | hx4
  all_goals
    (repeat' (first
    | refine RX_seq ?_
    | refine RX_block ?_
    | ((first | refine RX_reg ?_ | refine RX_cond' ?_ | refine RX_draw0 ?_ | refine RX_draw rfl ?_ | refine RX_skip ?_ | refine RX_exit ?_ | refine RX_ret ?_); try (simp only [go_sem, Int.reduceToNat, Nat.reducePow, Int.reduceEq, Int.reduceNe, Int.reduceLT, Int.reduceLE, Nat.reduceAdd, Nat.reduceLeDiff, ↓reduceIte, Nat.reduceLT, Nat.reduceMul, Nat.reduceSub, reduceCtorEq, frzLoc, rowCells, vAppM, beq_true, beq_false, I, B, w, ibeq, ibne, bbeq, decide_eq_false_iff_not, decide_not, Bool.not_not, Decidable.not_not, Bool.not_eq_eq_eq_not, gt_iff_lt, ge_iff_le, and_false, false_and, or_self, and_self, vf73_res, vf73_keep, cx_len, cx_app, cx_own0, cx_own, cx_setOwn0, cx_setOwn, cx_take, cx_takeN, Nat.add_right_cancel_iff, Nat.lt_irrefl, cx_nlt, Nat.not_lt_zero, cx_get' h, cx_setId' h, cx_er h, cx_all0 h, cx_all h, CtxOk.lt h, *]))
    | (refine ite_ngo (fun _ => ?_) (fun _ => ?_) <;> try (simp only [go_sem, Int.reduceToNat, Nat.reducePow, Int.reduceEq, Int.reduceNe, Int.reduceLT, Int.reduceLE, Nat.reduceAdd, Nat.reduceLeDiff, ↓reduceIte, Nat.reduceLT, Nat.reduceMul, Nat.reduceSub, reduceCtorEq, frzLoc, rowCells, vAppM, beq_true, beq_false, I, B, w, ibeq, ibne, bbeq, decide_eq_false_iff_not, decide_not, Bool.not_not, Decidable.not_not, Bool.not_eq_eq_eq_not, gt_iff_lt, ge_iff_le, and_false, false_and, or_self, and_self, vf73_res, vf73_keep, cx_len, cx_app, cx_own0, cx_own, cx_setOwn0, cx_setOwn, cx_take, cx_takeN, Nat.add_right_cancel_iff, Nat.lt_irrefl, cx_nlt, Nat.not_lt_zero, cx_get' h, cx_setId' h, cx_er h, cx_all0 h, cx_all h, CtxOk.lt h, *]))
    | (refine ite_go (fun _ => ?_) (fun _ => ?_) <;> try (simp only [go_sem, Int.reduceToNat, Nat.reducePow, Int.reduceEq, Int.reduceNe, Int.reduceLT, Int.reduceLE, Nat.reduceAdd, Nat.reduceLeDiff, ↓reduceIte, Nat.reduceLT, Nat.reduceMul, Nat.reduceSub, reduceCtorEq, frzLoc, rowCells, vAppM, beq_true, beq_false, I, B, w, ibeq, ibne, bbeq, decide_eq_false_iff_not, decide_not, Bool.not_not, Decidable.not_not, Bool.not_eq_eq_eq_not, gt_iff_lt, ge_iff_le, and_false, false_and, or_self, and_self, vf73_res, vf73_keep, cx_len, cx_app, cx_own0, cx_own, cx_setOwn0, cx_setOwn, cx_take, cx_takeN, Nat.add_right_cancel_iff, Nat.lt_irrefl, cx_nlt, Nat.not_lt_zero, cx_get' h, cx_setId' h, cx_er h, cx_all0 h, cx_all h, CtxOk.lt h, *]))))
end Go.Proofs.Ytahiikdkgbbmfaa

namespace Go.Proofs.Ytahiikdkgbbmfaa
open Go.VM
def rd0 : V := .tup [.agg [.d (I 0), .d (U 0), .d (U 0), .d (I 0), .d (U 0), .d (U 0), .d (I 0), .d (I 0), .d (I 0), .d (I 0)], .d (B false)]
def okP (f h a f' h' a' pr sp tp : Int) : Prop := validP f h a ∧ validP f' h' a' ∧ f = f' ∧ ¬ pr < 0 ∧ ¬ 255 < pr ∧ portP sp ∧ portP tp
instance (f h a f' h' a' pr sp tp : Int) : Decidable (okP f h a f' h' a' pr sp tp) := by unfold okP; infer_instance
def rdC (n0 n1 n2 n3 n4 n5 n6 n7 n8 n9 : Int) : V :=
  if okP n0 (IntKind.u64.wrap n1) (IntKind.u64.wrap n2) n3 (IntKind.u64.wrap n4) (IntKind.u64.wrap n5) n6 n7 n8 then
    .tup [.agg [.d (I n0), .d (U (IntKind.u64.wrap n1)), .d (U (IntKind.u64.wrap n2)), .d (I n3), .d (U (IntKind.u64.wrap n4)), .d (U (IntKind.u64.wrap n5)), .d (I n6), .d (I n7), .d (I n8), .d (I n9)], .d (B true)] else rd0
def rdL : List Tm → V
  | [x0, x1, x2, x3, x4, x5, x6, x7, x8, x9] => if x0.op = 1 ∧ x1.op = 1 ∧ x2.op = 1 ∧ x3.op = 1 ∧ x4.op = 1 ∧ x5.op = 1 ∧ x6.op = 1 ∧ x7.op = 1 ∧ x8.op = 1 ∧ x9.op = 1 then rdC x0.val x1.val x2.val x3.val x4.val x5.val x6.val x7.val x8.val x9.val else rd0
  | _ => rd0
def rdT (t : Tm) : V := if t.op = 3 then rdL t.args else rd0
theorem rdL_len {l : List Tm} (h : l.length ≠ 10) : rdL l = rd0 := by
  unfold rdL
  split
  · exact absurd rfl h
  · rfl
theorem list10 {α : Type} : ∀ (l : List α), l.length = 10 → ∃ x0 x1 x2 x3 x4 x5 x6 x7 x8 x9, l = [x0, x1, x2, x3, x4, x5, x6, x7, x8, x9]
  | [x0, x1, x2, x3, x4, x5, x6, x7, x8, x9], _ => ⟨x0, x1, x2, x3, x4, x5, x6, x7, x8, x9, rfl⟩
set_option maxHeartbeats 8000000 in
theorem e34 (t : Tm) : CV VP 34 [t.ag] [] = some ⟨rdT t, [], [], 0⟩ := by
  obtain ⟨a, b, l⟩ := t
  unfold rdT
  simp only [Tm.ag, Tm.op_mk, Tm.val_mk, Tm.args_mk]
  by_cases ha : a = 3
  case neg =>
    simp only [ha, if_false]
    unfold rd0
    refine CV_run (vf := vf34) rfl rfl ?_
    rw [vf34_start]
    (repeat' (first
    | refine RX_seq ?_
    | refine RX_block ?_
    | ((first | refine RX_reg ?_ | refine RX_cond' ?_ | refine RX_draw0 ?_ | refine RX_draw rfl ?_ | refine RX_skip ?_ | refine RX_exit ?_ | refine RX_ret ?_); try (simp only [go_sem, Int.reduceToNat, Nat.reducePow, Int.reduceEq, Int.reduceNe, Int.reduceLT, Int.reduceLE, Nat.reduceAdd, Nat.reduceLeDiff, ↓reduceIte, Nat.reduceLT, Nat.reduceMul, Nat.reduceSub, reduceCtorEq, frzLoc, rowCells, vAppM, beq_true, beq_false, I, B, w, ibeq, ibne, bbeq, decide_eq_false_iff_not, decide_not, Bool.not_not, Decidable.not_not, Bool.not_eq_eq_eq_not, gt_iff_lt, ge_iff_le, and_false, false_and, or_self, and_self, vf34_res, vf34_keep, *]))
    | (refine ite_ngo (fun _ => ?_) (fun _ => ?_) <;> try (simp only [go_sem, Int.reduceToNat, Nat.reducePow, Int.reduceEq, Int.reduceNe, Int.reduceLT, Int.reduceLE, Nat.reduceAdd, Nat.reduceLeDiff, ↓reduceIte, Nat.reduceLT, Nat.reduceMul, Nat.reduceSub, reduceCtorEq, frzLoc, rowCells, vAppM, beq_true, beq_false, I, B, w, ibeq, ibne, bbeq, decide_eq_false_iff_not, decide_not, Bool.not_not, Decidable.not_not, Bool.not_eq_eq_eq_not, gt_iff_lt, ge_iff_le, and_false, false_and, or_self, and_self, vf34_res, vf34_keep, *]))
    | (refine ite_go (fun _ => ?_) (fun _ => ?_) <;> try (simp only [go_sem, Int.reduceToNat, Nat.reducePow, Int.reduceEq, Int.reduceNe, Int.reduceLT, Int.reduceLE, Nat.reduceAdd, Nat.reduceLeDiff, ↓reduceIte, Nat.reduceLT, Nat.reduceMul, Nat.reduceSub, reduceCtorEq, frzLoc, rowCells, vAppM, beq_true, beq_false, I, B, w, ibeq, ibne, bbeq, decide_eq_false_iff_not, decide_not, Bool.not_not, Decidable.not_not, Bool.not_eq_eq_eq_not, gt_iff_lt, ge_iff_le, and_false, false_and, or_self, and_self, vf34_res, vf34_keep, *]))))
  simp only [ha, if_true]
  by_cases hl : l.length = 10
  case neg =>
    rw [rdL_len hl]
    unfold rd0
    have hl2 : ¬ (l.length : Int) = 10 := by omega
    refine CV_run (vf := vf34) rfl rfl ?_
    rw [vf34_start]
    (repeat' (first
    | refine RX_seq ?_
    | refine RX_block ?_
    | ((first | refine RX_reg ?_ | refine RX_cond' ?_ | refine RX_draw0 ?_ | refine RX_draw rfl ?_ | refine RX_skip ?_ | refine RX_exit ?_ | refine RX_ret ?_); try (simp only [go_sem, Int.reduceToNat, Nat.reducePow, Int.reduceEq, Int.reduceNe, Int.reduceLT, Int.reduceLE, Nat.reduceAdd, Nat.reduceLeDiff, ↓reduceIte, Nat.reduceLT, Nat.reduceMul, Nat.reduceSub, reduceCtorEq, frzLoc, rowCells, vAppM, beq_true, beq_false, I, B, w, ibeq, ibne, bbeq, decide_eq_false_iff_not, decide_not, Bool.not_not, Decidable.not_not, Bool.not_eq_eq_eq_not, gt_iff_lt, ge_iff_le, and_false, false_and, or_self, and_self, vf34_res, vf34_keep, List.length_map, *]))
    | (refine ite_ngo (fun _ => ?_) (fun _ => ?_) <;> try (simp only [go_sem, Int.reduceToNat, Nat.reducePow, Int.reduceEq, Int.reduceNe, Int.reduceLT, Int.reduceLE, Nat.reduceAdd, Nat.reduceLeDiff, ↓reduceIte, Nat.reduceLT, Nat.reduceMul, Nat.reduceSub, reduceCtorEq, frzLoc, rowCells, vAppM, beq_true, beq_false, I, B, w, ibeq, ibne, bbeq, decide_eq_false_iff_not, decide_not, Bool.not_not, Decidable.not_not, Bool.not_eq_eq_eq_not, gt_iff_lt, ge_iff_le, and_false, false_and, or_self, and_self, vf34_res, vf34_keep, List.length_map, *]))
    | (refine ite_go (fun _ => ?_) (fun _ => ?_) <;> try (simp only [go_sem, Int.reduceToNat, Nat.reducePow, Int.reduceEq, Int.reduceNe, Int.reduceLT, Int.reduceLE, Nat.reduceAdd, Nat.reduceLeDiff, ↓reduceIte, Nat.reduceLT, Nat.reduceMul, Nat.reduceSub, reduceCtorEq, frzLoc, rowCells, vAppM, beq_true, beq_false, I, B, w, ibeq, ibne, bbeq, decide_eq_false_iff_not, decide_not, Bool.not_not, Decidable.not_not, Bool.not_eq_eq_eq_not, gt_iff_lt, ge_iff_le, and_false, false_and, or_self, and_self, vf34_res, vf34_keep, List.length_map, *]))))
  obtain ⟨x0, x1, x2, x3, x4, x5, x6, x7, x8, x9, rfl⟩ := list10 l hl
  clear hl
  simp only [List.map_cons, List.map_nil, Tm.row_eq]
  have w0 : IntKind.i64.wrap (0 + 1) = 1 := rfl
  have w1 : IntKind.i64.wrap (1 + 1) = 2 := rfl
  have w2 : IntKind.i64.wrap (2 + 1) = 3 := rfl
  have w3 : IntKind.i64.wrap (3 + 1) = 4 := rfl
  have w4 : IntKind.i64.wrap (4 + 1) = 5 := rfl
  have w5 : IntKind.i64.wrap (5 + 1) = 6 := rfl
  have w6 : IntKind.i64.wrap (6 + 1) = 7 := rfl
  have w7 : IntKind.i64.wrap (7 + 1) = 8 := rfl
  have w8 : IntKind.i64.wrap (8 + 1) = 9 := rfl
  have w9 : IntKind.i64.wrap (9 + 1) = 10 := rfl
  refine CV_run (vf := vf34) rfl rfl ?_
  rw [vf34_start]
  simp only [rdL, rdC, rd0, okP]
  (repeat' (first
    | refine RX_seq ?_
    | refine RX_block ?_
    | ((first | refine RX_reg ?_ | refine RX_cond' ?_ | refine RX_draw0 ?_ | refine RX_draw rfl ?_ | refine RX_skip ?_ | refine RX_exit ?_ | refine RX_ret ?_); try (simp only [go_sem, Int.reduceToNat, Nat.reducePow, Int.reduceEq, Int.reduceNe, Int.reduceLT, Int.reduceLE, Nat.reduceAdd, Nat.reduceLeDiff, ↓reduceIte, Nat.reduceLT, Nat.reduceMul, Nat.reduceSub, reduceCtorEq, frzLoc, rowCells, vAppM, beq_true, beq_false, I, B, w, ibeq, ibne, bbeq, decide_eq_false_iff_not, decide_not, Bool.not_not, Decidable.not_not, Bool.not_eq_eq_eq_not, gt_iff_lt, ge_iff_le, and_false, false_and, or_self, and_self, vf34_res, vf34_keep, e81, e82, *]))
    | (refine ite_ngo (fun _ => ?_) (fun _ => ?_) <;> try (simp only [go_sem, Int.reduceToNat, Nat.reducePow, Int.reduceEq, Int.reduceNe, Int.reduceLT, Int.reduceLE, Nat.reduceAdd, Nat.reduceLeDiff, ↓reduceIte, Nat.reduceLT, Nat.reduceMul, Nat.reduceSub, reduceCtorEq, frzLoc, rowCells, vAppM, beq_true, beq_false, I, B, w, ibeq, ibne, bbeq, decide_eq_false_iff_not, decide_not, Bool.not_not, Decidable.not_not, Bool.not_eq_eq_eq_not, gt_iff_lt, ge_iff_le, and_false, false_and, or_self, and_self, vf34_res, vf34_keep, e81, e82, *]))
    | (refine ite_go (fun _ => ?_) (fun _ => ?_) <;> try (simp only [go_sem, Int.reduceToNat, Nat.reducePow, Int.reduceEq, Int.reduceNe, Int.reduceLT, Int.reduceLE, Nat.reduceAdd, Nat.reduceLeDiff, ↓reduceIte, Nat.reduceLT, Nat.reduceMul, Nat.reduceSub, reduceCtorEq, frzLoc, rowCells, vAppM, beq_true, beq_false, I, B, w, ibeq, ibne, bbeq, decide_eq_false_iff_not, decide_not, Bool.not_not, Decidable.not_not, Bool.not_eq_eq_eq_not, gt_iff_lt, ge_iff_le, and_false, false_and, or_self, and_self, vf34_res, vf34_keep, e81, e82, *]))
    | (refine RL_head ?_; simp only [go_sem, Int.reduceToNat, Nat.reducePow, Int.reduceEq, Int.reduceNe, Int.reduceLT, Int.reduceLE, Nat.reduceAdd, Nat.reduceLeDiff, ↓reduceIte, Nat.reduceLT, Nat.reduceMul, Nat.reduceSub, reduceCtorEq, frzLoc, rowCells, vAppM, beq_true, beq_false, I, B, w, ibeq, ibne, bbeq, decide_eq_false_iff_not, decide_not, Bool.not_not, Decidable.not_not, Bool.not_eq_eq_eq_not, gt_iff_lt, ge_iff_le, and_false, false_and, or_self, and_self, vf34_res, vf34_keep, e81, e82, *, St.head, forget, vf34K0, RLK_some]; refine vf34L0_go ?_)
    | refine RX_loop ?_))
end Go.Proofs.Ytahiikdkgbbmfaa

namespace Go.Proofs.Ytahiikdkgbbmfaa
open Go.VM
theorem e30 (p : Pk) : CV VP 30 [.agg (p.ds.map .d)] [] = some ⟨p.tm.ag, [], [], 0⟩ := by
  have r3 : Rows3 (p.ns.map fun n => [I 1, I n, .sl []]) := ⟨by simp [Pk.ns], by simp [Pk.ns]⟩
  have h71 := e71 r3
  simp only [Pk.ns, List.map_cons, List.map_nil] at h71
  simp only [Tm.ag, Pk.tm, Pk.ns, Pk.ds, nT, Tm.op_mk, Tm.val_mk, Tm.args_mk, Tm.row_mk, List.map_cons, List.map_nil]
  refine CV_run (vf := vf30) rfl rfl ?_
  rw [vf30_start]
  (repeat (first
    | refine RX_seq ?_
    | refine RX_block ?_
    | ((first | refine RX_reg ?_ | refine RX_cond' ?_ | refine RX_draw0 ?_ | refine RX_draw rfl ?_ | refine RX_skip ?_ | refine RX_exit ?_ | refine RX_ret ?_); try (simp only [go_sem, Int.reduceToNat, Nat.reducePow, Int.reduceEq, Int.reduceNe, Int.reduceLT, Int.reduceLE, Nat.reduceAdd, Nat.reduceLeDiff, ↓reduceIte, Nat.reduceLT, Nat.reduceMul, Nat.reduceSub, reduceCtorEq, frzLoc, rowCells, vAppM, beq_iff_eq, bne_iff_ne, bne_self_eq_false, beq_self_eq_true, beq_true, beq_false, I, B, w, e74, h71, vf30_res, vf30_keep]))))
set_option maxHeartbeats 1000000 in
theorem e31 (p : Pk) : CV VP 31 [.agg (p.ds.map .d)] [] = some ⟨p.tm.ag, [], [], 0⟩ := by
  have r3 : Rows3 (p.ns.map fun n => [I 1, I n, .sl []]) := ⟨by simp [Pk.ns], by simp [Pk.ns]⟩
  have h33 := e33 r3
  have w0 : IntKind.i64.wrap (0 + 1) = 1 := rfl
  have w1 : IntKind.i64.wrap (1 + 1) = 2 := rfl
  have w2 : IntKind.i64.wrap (2 + 1) = 3 := rfl
  have w3 : IntKind.i64.wrap (3 + 1) = 4 := rfl
  have w4 : IntKind.i64.wrap (4 + 1) = 5 := rfl
  have w5 : IntKind.i64.wrap (5 + 1) = 6 := rfl
  have w6 : IntKind.i64.wrap (6 + 1) = 7 := rfl
  have w7 : IntKind.i64.wrap (7 + 1) = 8 := rfl
  have w8 : IntKind.i64.wrap (8 + 1) = 9 := rfl
  have w9 : IntKind.i64.wrap (9 + 1) = 10 := rfl
  simp only [Pk.ns, List.map_cons, List.map_nil] at h33
  simp only [Tm.ag, Pk.tm, Pk.ns, Pk.ds, nT, Tm.op_mk, Tm.val_mk, Tm.args_mk, Tm.row_mk, List.map_cons, List.map_nil]
  refine CV_run (vf := vf31) rfl rfl ?_
  rw [vf31_start]
  (repeat (first
    | refine RX_seq ?_
    | refine RX_block ?_
    | ((first | refine RX_reg ?_ | refine RX_cond' ?_ | refine RX_draw0 ?_ | refine RX_draw rfl ?_ | refine RX_skip ?_ | refine RX_exit ?_ | refine RX_ret ?_); try (simp only [go_sem, Int.reduceToNat, Nat.reducePow, Int.reduceEq, Int.reduceNe, Int.reduceLT, Int.reduceLE, Nat.reduceAdd, Nat.reduceLeDiff, ↓reduceIte, Nat.reduceLT, Nat.reduceMul, Nat.reduceSub, reduceCtorEq, frzLoc, rowCells, vAppM, beq_iff_eq, bne_iff_ne, bne_self_eq_false, beq_self_eq_true, beq_true, beq_false, I, B, w, e75, h33, vf31_res, vf31_keep]))))
  refine RX_loop ?_
  (refine RL_head ?_; (simp only [go_sem, Int.reduceToNat, Nat.reducePow, Int.reduceEq, Int.reduceNe, Int.reduceLT, Int.reduceLE, Nat.reduceAdd, Nat.reduceLeDiff, ↓reduceIte, Nat.reduceLT, Nat.reduceMul, Nat.reduceSub, reduceCtorEq, frzLoc, rowCells, vAppM, beq_iff_eq, bne_iff_ne, bne_self_eq_false, beq_self_eq_true, beq_true, beq_false, I, B, w, St.head, forget, vf31K0, RLK_some, e75, vf31_res, vf31_keep, w0]); refine vf31L0_go ?_; ((repeat (first
    | refine RX_seq ?_
    | refine RX_block ?_
    | ((first | refine RX_reg ?_ | refine RX_cond' ?_ | refine RX_draw0 ?_ | refine RX_draw rfl ?_ | refine RX_skip ?_ | refine RX_exit ?_ | refine RX_ret ?_); try (simp only [go_sem, Int.reduceToNat, Nat.reducePow, Int.reduceEq, Int.reduceNe, Int.reduceLT, Int.reduceLE, Nat.reduceAdd, Nat.reduceLeDiff, ↓reduceIte, Nat.reduceLT, Nat.reduceMul, Nat.reduceSub, reduceCtorEq, frzLoc, rowCells, vAppM, beq_iff_eq, bne_iff_ne, bne_self_eq_false, beq_self_eq_true, beq_true, beq_false, I, B, w, e75, vf31_res, vf31_keep, w0]))))))
  (refine RL_head ?_; (simp only [go_sem, Int.reduceToNat, Nat.reducePow, Int.reduceEq, Int.reduceNe, Int.reduceLT, Int.reduceLE, Nat.reduceAdd, Nat.reduceLeDiff, ↓reduceIte, Nat.reduceLT, Nat.reduceMul, Nat.reduceSub, reduceCtorEq, frzLoc, rowCells, vAppM, beq_iff_eq, bne_iff_ne, bne_self_eq_false, beq_self_eq_true, beq_true, beq_false, I, B, w, St.head, forget, vf31K0, RLK_some, e75, vf31_res, vf31_keep, w1]); refine vf31L0_go ?_; ((repeat (first
    | refine RX_seq ?_
    | refine RX_block ?_
    | ((first | refine RX_reg ?_ | refine RX_cond' ?_ | refine RX_draw0 ?_ | refine RX_draw rfl ?_ | refine RX_skip ?_ | refine RX_exit ?_ | refine RX_ret ?_); try (simp only [go_sem, Int.reduceToNat, Nat.reducePow, Int.reduceEq, Int.reduceNe, Int.reduceLT, Int.reduceLE, Nat.reduceAdd, Nat.reduceLeDiff, ↓reduceIte, Nat.reduceLT, Nat.reduceMul, Nat.reduceSub, reduceCtorEq, frzLoc, rowCells, vAppM, beq_iff_eq, bne_iff_ne, bne_self_eq_false, beq_self_eq_true, beq_true, beq_false, I, B, w, e75, vf31_res, vf31_keep, w1]))))))
  (refine RL_head ?_; (simp only [go_sem, Int.reduceToNat, Nat.reducePow, Int.reduceEq, Int.reduceNe, Int.reduceLT, Int.reduceLE, Nat.reduceAdd, Nat.reduceLeDiff, ↓reduceIte, Nat.reduceLT, Nat.reduceMul, Nat.reduceSub, reduceCtorEq, frzLoc, rowCells, vAppM, beq_iff_eq, bne_iff_ne, bne_self_eq_false, beq_self_eq_true, beq_true, beq_false, I, B, w, St.head, forget, vf31K0, RLK_some, e75, vf31_res, vf31_keep, w2]); refine vf31L0_go ?_; ((repeat (first
    | refine RX_seq ?_
    | refine RX_block ?_
    | ((first | refine RX_reg ?_ | refine RX_cond' ?_ | refine RX_draw0 ?_ | refine RX_draw rfl ?_ | refine RX_skip ?_ | refine RX_exit ?_ | refine RX_ret ?_); try (simp only [go_sem, Int.reduceToNat, Nat.reducePow, Int.reduceEq, Int.reduceNe, Int.reduceLT, Int.reduceLE, Nat.reduceAdd, Nat.reduceLeDiff, ↓reduceIte, Nat.reduceLT, Nat.reduceMul, Nat.reduceSub, reduceCtorEq, frzLoc, rowCells, vAppM, beq_iff_eq, bne_iff_ne, bne_self_eq_false, beq_self_eq_true, beq_true, beq_false, I, B, w, e75, vf31_res, vf31_keep, w2]))))))
  (refine RL_head ?_; (simp only [go_sem, Int.reduceToNat, Nat.reducePow, Int.reduceEq, Int.reduceNe, Int.reduceLT, Int.reduceLE, Nat.reduceAdd, Nat.reduceLeDiff, ↓reduceIte, Nat.reduceLT, Nat.reduceMul, Nat.reduceSub, reduceCtorEq, frzLoc, rowCells, vAppM, beq_iff_eq, bne_iff_ne, bne_self_eq_false, beq_self_eq_true, beq_true, beq_false, I, B, w, St.head, forget, vf31K0, RLK_some, e75, vf31_res, vf31_keep, w3]); refine vf31L0_go ?_; ((repeat (first
    | refine RX_seq ?_
    | refine RX_block ?_
    | ((first | refine RX_reg ?_ | refine RX_cond' ?_ | refine RX_draw0 ?_ | refine RX_draw rfl ?_ | refine RX_skip ?_ | refine RX_exit ?_ | refine RX_ret ?_); try (simp only [go_sem, Int.reduceToNat, Nat.reducePow, Int.reduceEq, Int.reduceNe, Int.reduceLT, Int.reduceLE, Nat.reduceAdd, Nat.reduceLeDiff, ↓reduceIte, Nat.reduceLT, Nat.reduceMul, Nat.reduceSub, reduceCtorEq, frzLoc, rowCells, vAppM, beq_iff_eq, bne_iff_ne, bne_self_eq_false, beq_self_eq_true, beq_true, beq_false, I, B, w, e75, vf31_res, vf31_keep, w3]))))))
  (refine RL_head ?_; (simp only [go_sem, Int.reduceToNat, Nat.reducePow, Int.reduceEq, Int.reduceNe, Int.reduceLT, Int.reduceLE, Nat.reduceAdd, Nat.reduceLeDiff, ↓reduceIte, Nat.reduceLT, Nat.reduceMul, Nat.reduceSub, reduceCtorEq, frzLoc, rowCells, vAppM, beq_iff_eq, bne_iff_ne, bne_self_eq_false, beq_self_eq_true, beq_true, beq_false, I, B, w, St.head, forget, vf31K0, RLK_some, e75, vf31_res, vf31_keep, w4]); refine vf31L0_go ?_; ((repeat (first
    | refine RX_seq ?_
    | refine RX_block ?_
    | ((first | refine RX_reg ?_ | refine RX_cond' ?_ | refine RX_draw0 ?_ | refine RX_draw rfl ?_ | refine RX_skip ?_ | refine RX_exit ?_ | refine RX_ret ?_); try (simp only [go_sem, Int.reduceToNat, Nat.reducePow, Int.reduceEq, Int.reduceNe, Int.reduceLT, Int.reduceLE, Nat.reduceAdd, Nat.reduceLeDiff, ↓reduceIte, Nat.reduceLT, Nat.reduceMul, Nat.reduceSub, reduceCtorEq, frzLoc, rowCells, vAppM, beq_iff_eq, bne_iff_ne, bne_self_eq_false, beq_self_eq_true, beq_true, beq_false, I, B, w, e75, vf31_res, vf31_keep, w4]))))))
  (refine RL_head ?_; (simp only [go_sem, Int.reduceToNat, Nat.reducePow, Int.reduceEq, Int.reduceNe, Int.reduceLT, Int.reduceLE, Nat.reduceAdd, Nat.reduceLeDiff, ↓reduceIte, Nat.reduceLT, Nat.reduceMul, Nat.reduceSub, reduceCtorEq, frzLoc, rowCells, vAppM, beq_iff_eq, bne_iff_ne, bne_self_eq_false, beq_self_eq_true, beq_true, beq_false, I, B, w, St.head, forget, vf31K0, RLK_some, e75, vf31_res, vf31_keep, w5]); refine vf31L0_go ?_; ((repeat (first
    | refine RX_seq ?_
    | refine RX_block ?_
    | ((first | refine RX_reg ?_ | refine RX_cond' ?_ | refine RX_draw0 ?_ | refine RX_draw rfl ?_ | refine RX_skip ?_ | refine RX_exit ?_ | refine RX_ret ?_); try (simp only [go_sem, Int.reduceToNat, Nat.reducePow, Int.reduceEq, Int.reduceNe, Int.reduceLT, Int.reduceLE, Nat.reduceAdd, Nat.reduceLeDiff, ↓reduceIte, Nat.reduceLT, Nat.reduceMul, Nat.reduceSub, reduceCtorEq, frzLoc, rowCells, vAppM, beq_iff_eq, bne_iff_ne, bne_self_eq_false, beq_self_eq_true, beq_true, beq_false, I, B, w, e75, vf31_res, vf31_keep, w5]))))))
  (refine RL_head ?_; (simp only [go_sem, Int.reduceToNat, Nat.reducePow, Int.reduceEq, Int.reduceNe, Int.reduceLT, Int.reduceLE, Nat.reduceAdd, Nat.reduceLeDiff, ↓reduceIte, Nat.reduceLT, Nat.reduceMul, Nat.reduceSub, reduceCtorEq, frzLoc, rowCells, vAppM, beq_iff_eq, bne_iff_ne, bne_self_eq_false, beq_self_eq_true, beq_true, beq_false, I, B, w, St.head, forget, vf31K0, RLK_some, e75, vf31_res, vf31_keep, w6]); refine vf31L0_go ?_; ((repeat (first
    | refine RX_seq ?_
    | refine RX_block ?_
    | ((first | refine RX_reg ?_ | refine RX_cond' ?_ | refine RX_draw0 ?_ | refine RX_draw rfl ?_ | refine RX_skip ?_ | refine RX_exit ?_ | refine RX_ret ?_); try (simp only [go_sem, Int.reduceToNat, Nat.reducePow, Int.reduceEq, Int.reduceNe, Int.reduceLT, Int.reduceLE, Nat.reduceAdd, Nat.reduceLeDiff, ↓reduceIte, Nat.reduceLT, Nat.reduceMul, Nat.reduceSub, reduceCtorEq, frzLoc, rowCells, vAppM, beq_iff_eq, bne_iff_ne, bne_self_eq_false, beq_self_eq_true, beq_true, beq_false, I, B, w, e75, vf31_res, vf31_keep, w6]))))))
  (refine RL_head ?_; (simp only [go_sem, Int.reduceToNat, Nat.reducePow, Int.reduceEq, Int.reduceNe, Int.reduceLT, Int.reduceLE, Nat.reduceAdd, Nat.reduceLeDiff, ↓reduceIte, Nat.reduceLT, Nat.reduceMul, Nat.reduceSub, reduceCtorEq, frzLoc, rowCells, vAppM, beq_iff_eq, bne_iff_ne, bne_self_eq_false, beq_self_eq_true, beq_true, beq_false, I, B, w, St.head, forget, vf31K0, RLK_some, e75, vf31_res, vf31_keep, w7]); refine vf31L0_go ?_; ((repeat (first
    | refine RX_seq ?_
    | refine RX_block ?_
    | ((first | refine RX_reg ?_ | refine RX_cond' ?_ | refine RX_draw0 ?_ | refine RX_draw rfl ?_ | refine RX_skip ?_ | refine RX_exit ?_ | refine RX_ret ?_); try (simp only [go_sem, Int.reduceToNat, Nat.reducePow, Int.reduceEq, Int.reduceNe, Int.reduceLT, Int.reduceLE, Nat.reduceAdd, Nat.reduceLeDiff, ↓reduceIte, Nat.reduceLT, Nat.reduceMul, Nat.reduceSub, reduceCtorEq, frzLoc, rowCells, vAppM, beq_iff_eq, bne_iff_ne, bne_self_eq_false, beq_self_eq_true, beq_true, beq_false, I, B, w, e75, vf31_res, vf31_keep, w7]))))))
  (refine RL_head ?_; (simp only [go_sem, Int.reduceToNat, Nat.reducePow, Int.reduceEq, Int.reduceNe, Int.reduceLT, Int.reduceLE, Nat.reduceAdd, Nat.reduceLeDiff, ↓reduceIte, Nat.reduceLT, Nat.reduceMul, Nat.reduceSub, reduceCtorEq, frzLoc, rowCells, vAppM, beq_iff_eq, bne_iff_ne, bne_self_eq_false, beq_self_eq_true, beq_true, beq_false, I, B, w, St.head, forget, vf31K0, RLK_some, e75, vf31_res, vf31_keep, w8]); refine vf31L0_go ?_; ((repeat (first
    | refine RX_seq ?_
    | refine RX_block ?_
    | ((first | refine RX_reg ?_ | refine RX_cond' ?_ | refine RX_draw0 ?_ | refine RX_draw rfl ?_ | refine RX_skip ?_ | refine RX_exit ?_ | refine RX_ret ?_); try (simp only [go_sem, Int.reduceToNat, Nat.reducePow, Int.reduceEq, Int.reduceNe, Int.reduceLT, Int.reduceLE, Nat.reduceAdd, Nat.reduceLeDiff, ↓reduceIte, Nat.reduceLT, Nat.reduceMul, Nat.reduceSub, reduceCtorEq, frzLoc, rowCells, vAppM, beq_iff_eq, bne_iff_ne, bne_self_eq_false, beq_self_eq_true, beq_true, beq_false, I, B, w, e75, vf31_res, vf31_keep, w8]))))))
  (refine RL_head ?_; (simp only [go_sem, Int.reduceToNat, Nat.reducePow, Int.reduceEq, Int.reduceNe, Int.reduceLT, Int.reduceLE, Nat.reduceAdd, Nat.reduceLeDiff, ↓reduceIte, Nat.reduceLT, Nat.reduceMul, Nat.reduceSub, reduceCtorEq, frzLoc, rowCells, vAppM, beq_iff_eq, bne_iff_ne, bne_self_eq_false, beq_self_eq_true, beq_true, beq_false, I, B, w, St.head, forget, vf31K0, RLK_some, e75, vf31_res, vf31_keep, w9]); refine vf31L0_go ?_; ((repeat (first
    | refine RX_seq ?_
    | refine RX_block ?_
    | ((first | refine RX_reg ?_ | refine RX_cond' ?_ | refine RX_draw0 ?_ | refine RX_draw rfl ?_ | refine RX_skip ?_ | refine RX_exit ?_ | refine RX_ret ?_); try (simp only [go_sem, Int.reduceToNat, Nat.reducePow, Int.reduceEq, Int.reduceNe, Int.reduceLT, Int.reduceLE, Nat.reduceAdd, Nat.reduceLeDiff, ↓reduceIte, Nat.reduceLT, Nat.reduceMul, Nat.reduceSub, reduceCtorEq, frzLoc, rowCells, vAppM, beq_iff_eq, bne_iff_ne, bne_self_eq_false, beq_self_eq_true, beq_true, beq_false, I, B, w, e75, vf31_res, vf31_keep, w9]))))))
  (refine RL_head ?_; (simp only [go_sem, Int.reduceToNat, Nat.reducePow, Int.reduceEq, Int.reduceNe, Int.reduceLT, Int.reduceLE, Nat.reduceAdd, Nat.reduceLeDiff, ↓reduceIte, Nat.reduceLT, Nat.reduceMul, Nat.reduceSub, reduceCtorEq, frzLoc, rowCells, vAppM, beq_iff_eq, bne_iff_ne, bne_self_eq_false, beq_self_eq_true, beq_true, beq_false, I, B, w, St.head, forget, vf31K0, RLK_some, e75, h33, vf31_res, vf31_keep]); refine vf31L0_go ?_; ((repeat (first
    | refine RX_seq ?_
    | refine RX_block ?_
    | ((first | refine RX_reg ?_ | refine RX_cond' ?_ | refine RX_draw0 ?_ | refine RX_draw rfl ?_ | refine RX_skip ?_ | refine RX_exit ?_ | refine RX_ret ?_); try (simp only [go_sem, Int.reduceToNat, Nat.reducePow, Int.reduceEq, Int.reduceNe, Int.reduceLT, Int.reduceLE, Nat.reduceAdd, Nat.reduceLeDiff, ↓reduceIte, Nat.reduceLT, Nat.reduceMul, Nat.reduceSub, reduceCtorEq, frzLoc, rowCells, vAppM, beq_iff_eq, bne_iff_ne, bne_self_eq_false, beq_self_eq_true, beq_true, beq_false, I, B, w, e75, h33, vf31_res, vf31_keep]))))))
end Go.Proofs.Ytahiikdkgbbmfaa

namespace Go.Proofs.Ytahiikdkgbbmfaa
open Go.VM
theorem portP_alt (n : Int) : portP n = (¬ n < -1 ∧ ¬ 65535 < n) := by
  unfold portP; simp only [Int.not_lt]
set_option maxHeartbeats 8000000 in
theorem e35 (t : Tm) : CV VP 35 [t.ag] [] = some ⟨rdT t, [], [], 0⟩ := by
  obtain ⟨a, b, l⟩ := t
  unfold rdT
  simp only [Tm.ag, Tm.op_mk, Tm.val_mk, Tm.args_mk]
  by_cases ha : a = 3
  case neg =>
    simp only [ha, if_false]
    unfold rd0
    refine CV_run (vf := vf35) rfl rfl ?_
    rw [vf35_start]
    (repeat' (first
    | refine RX_seq ?_
    | refine RX_block ?_
    | ((first | refine RX_reg ?_ | refine RX_cond' ?_ | refine RX_draw0 ?_ | refine RX_draw rfl ?_ | refine RX_skip ?_ | refine RX_exit ?_ | refine RX_ret ?_); try (simp only [go_sem, Int.reduceToNat, Nat.reducePow, Int.reduceEq, Int.reduceNe, Int.reduceLT, Int.reduceLE, Nat.reduceAdd, Nat.reduceLeDiff, ↓reduceIte, Nat.reduceLT, Nat.reduceMul, Nat.reduceSub, reduceCtorEq, frzLoc, rowCells, vAppM, beq_true, beq_false, I, B, w, ibeq, ibne, bbeq, decide_eq_false_iff_not, decide_not, Bool.not_not, Decidable.not_not, Bool.not_eq_eq_eq_not, gt_iff_lt, ge_iff_le, and_false, false_and, or_self, and_self, vf35_res, vf35_keep, *]))
    | (refine ite_ngo (fun _ => ?_) (fun _ => ?_) <;> try (simp only [go_sem, Int.reduceToNat, Nat.reducePow, Int.reduceEq, Int.reduceNe, Int.reduceLT, Int.reduceLE, Nat.reduceAdd, Nat.reduceLeDiff, ↓reduceIte, Nat.reduceLT, Nat.reduceMul, Nat.reduceSub, reduceCtorEq, frzLoc, rowCells, vAppM, beq_true, beq_false, I, B, w, ibeq, ibne, bbeq, decide_eq_false_iff_not, decide_not, Bool.not_not, Decidable.not_not, Bool.not_eq_eq_eq_not, gt_iff_lt, ge_iff_le, and_false, false_and, or_self, and_self, vf35_res, vf35_keep, *]))
    | (refine ite_go (fun _ => ?_) (fun _ => ?_) <;> try (simp only [go_sem, Int.reduceToNat, Nat.reducePow, Int.reduceEq, Int.reduceNe, Int.reduceLT, Int.reduceLE, Nat.reduceAdd, Nat.reduceLeDiff, ↓reduceIte, Nat.reduceLT, Nat.reduceMul, Nat.reduceSub, reduceCtorEq, frzLoc, rowCells, vAppM, beq_true, beq_false, I, B, w, ibeq, ibne, bbeq, decide_eq_false_iff_not, decide_not, Bool.not_not, Decidable.not_not, Bool.not_eq_eq_eq_not, gt_iff_lt, ge_iff_le, and_false, false_and, or_self, and_self, vf35_res, vf35_keep, *]))))
  simp only [ha, if_true]
  by_cases hl : l.length = 10
  case neg =>
    rw [rdL_len hl]
    unfold rd0
    have hl2 : ¬ (l.length : Int) = 10 := by omega
    refine CV_run (vf := vf35) rfl rfl ?_
    rw [vf35_start]
    (repeat' (first
    | refine RX_seq ?_
    | refine RX_block ?_
    | ((first | refine RX_reg ?_ | refine RX_cond' ?_ | refine RX_draw0 ?_ | refine RX_draw rfl ?_ | refine RX_skip ?_ | refine RX_exit ?_ | refine RX_ret ?_); try (simp only [go_sem, Int.reduceToNat, Nat.reducePow, Int.reduceEq, Int.reduceNe, Int.reduceLT, Int.reduceLE, Nat.reduceAdd, Nat.reduceLeDiff, ↓reduceIte, Nat.reduceLT, Nat.reduceMul, Nat.reduceSub, reduceCtorEq, frzLoc, rowCells, vAppM, beq_true, beq_false, I, B, w, ibeq, ibne, bbeq, decide_eq_false_iff_not, decide_not, Bool.not_not, Decidable.not_not, Bool.not_eq_eq_eq_not, gt_iff_lt, ge_iff_le, and_false, false_and, or_self, and_self, vf35_res, vf35_keep, List.length_map, *]))
    | (refine ite_ngo (fun _ => ?_) (fun _ => ?_) <;> try (simp only [go_sem, Int.reduceToNat, Nat.reducePow, Int.reduceEq, Int.reduceNe, Int.reduceLT, Int.reduceLE, Nat.reduceAdd, Nat.reduceLeDiff, ↓reduceIte, Nat.reduceLT, Nat.reduceMul, Nat.reduceSub, reduceCtorEq, frzLoc, rowCells, vAppM, beq_true, beq_false, I, B, w, ibeq, ibne, bbeq, decide_eq_false_iff_not, decide_not, Bool.not_not, Decidable.not_not, Bool.not_eq_eq_eq_not, gt_iff_lt, ge_iff_le, and_false, false_and, or_self, and_self, vf35_res, vf35_keep, List.length_map, *]))
    | (refine ite_go (fun _ => ?_) (fun _ => ?_) <;> try (simp only [go_sem, Int.reduceToNat, Nat.reducePow, Int.reduceEq, Int.reduceNe, Int.reduceLT, Int.reduceLE, Nat.reduceAdd, Nat.reduceLeDiff, ↓reduceIte, Nat.reduceLT, Nat.reduceMul, Nat.reduceSub, reduceCtorEq, frzLoc, rowCells, vAppM, beq_true, beq_false, I, B, w, ibeq, ibne, bbeq, decide_eq_false_iff_not, decide_not, Bool.not_not, Decidable.not_not, Bool.not_eq_eq_eq_not, gt_iff_lt, ge_iff_le, and_false, false_and, or_self, and_self, vf35_res, vf35_keep, List.length_map, *]))))
  obtain ⟨x0, x1, x2, x3, x4, x5, x6, x7, x8, x9, rfl⟩ := list10 l hl
  clear hl
  simp only [List.map_cons, List.map_nil, Tm.row_eq]
  have w0 : IntKind.i64.wrap (0 + 1) = 1 := rfl
  have w1 : IntKind.i64.wrap (1 + 1) = 2 := rfl
  have w2 : IntKind.i64.wrap (2 + 1) = 3 := rfl
  have w3 : IntKind.i64.wrap (3 + 1) = 4 := rfl
  have w4 : IntKind.i64.wrap (4 + 1) = 5 := rfl
  have w5 : IntKind.i64.wrap (5 + 1) = 6 := rfl
  have w6 : IntKind.i64.wrap (6 + 1) = 7 := rfl
  have w7 : IntKind.i64.wrap (7 + 1) = 8 := rfl
  have w8 : IntKind.i64.wrap (8 + 1) = 9 := rfl
  have w9 : IntKind.i64.wrap (9 + 1) = 10 := rfl
  refine CV_run (vf := vf35) rfl rfl ?_
  rw [vf35_start]
  simp only [rdL, rdC, rd0, okP]
  (repeat' (first
    | refine RX_seq ?_
    | refine RX_block ?_
    | ((first | refine RX_reg ?_ | refine RX_cond' ?_ | refine RX_draw0 ?_ | refine RX_draw rfl ?_ | refine RX_skip ?_ | refine RX_exit ?_ | refine RX_ret ?_); try (simp only [go_sem, Int.reduceToNat, Nat.reducePow, Int.reduceEq, Int.reduceNe, Int.reduceLT, Int.reduceLE, Nat.reduceAdd, Nat.reduceLeDiff, ↓reduceIte, Nat.reduceLT, Nat.reduceMul, Nat.reduceSub, reduceCtorEq, frzLoc, rowCells, vAppM, beq_true, beq_false, I, B, w, ibeq, ibne, bbeq, decide_eq_false_iff_not, decide_not, Bool.not_not, Decidable.not_not, Bool.not_eq_eq_eq_not, gt_iff_lt, ge_iff_le, and_false, false_and, or_self, and_self, vf35_res, vf35_keep, e83, portP_alt, *]))
    | (refine ite_ngo (fun _ => ?_) (fun _ => ?_) <;> try (simp only [go_sem, Int.reduceToNat, Nat.reducePow, Int.reduceEq, Int.reduceNe, Int.reduceLT, Int.reduceLE, Nat.reduceAdd, Nat.reduceLeDiff, ↓reduceIte, Nat.reduceLT, Nat.reduceMul, Nat.reduceSub, reduceCtorEq, frzLoc, rowCells, vAppM, beq_true, beq_false, I, B, w, ibeq, ibne, bbeq, decide_eq_false_iff_not, decide_not, Bool.not_not, Decidable.not_not, Bool.not_eq_eq_eq_not, gt_iff_lt, ge_iff_le, and_false, false_and, or_self, and_self, vf35_res, vf35_keep, e83, portP_alt, *]))
    | (refine ite_go (fun _ => ?_) (fun _ => ?_) <;> try (simp only [go_sem, Int.reduceToNat, Nat.reducePow, Int.reduceEq, Int.reduceNe, Int.reduceLT, Int.reduceLE, Nat.reduceAdd, Nat.reduceLeDiff, ↓reduceIte, Nat.reduceLT, Nat.reduceMul, Nat.reduceSub, reduceCtorEq, frzLoc, rowCells, vAppM, beq_true, beq_false, I, B, w, ibeq, ibne, bbeq, decide_eq_false_iff_not, decide_not, Bool.not_not, Decidable.not_not, Bool.not_eq_eq_eq_not, gt_iff_lt, ge_iff_le, and_false, false_and, or_self, and_self, vf35_res, vf35_keep, e83, portP_alt, *]))
    | (refine RL_head ?_; simp only [go_sem, Int.reduceToNat, Nat.reducePow, Int.reduceEq, Int.reduceNe, Int.reduceLT, Int.reduceLE, Nat.reduceAdd, Nat.reduceLeDiff, ↓reduceIte, Nat.reduceLT, Nat.reduceMul, Nat.reduceSub, reduceCtorEq, frzLoc, rowCells, vAppM, beq_true, beq_false, I, B, w, ibeq, ibne, bbeq, decide_eq_false_iff_not, decide_not, Bool.not_not, Decidable.not_not, Bool.not_eq_eq_eq_not, gt_iff_lt, ge_iff_le, and_false, false_and, or_self, and_self, vf35_res, vf35_keep, e83, portP_alt, *, St.head, forget, vf35K0, RLK_some]; refine vf35L0_go ?_)
    | refine RX_loop ?_))
end Go.Proofs.Ytahiikdkgbbmfaa

namespace Go.Proofs.Ytahiikdkgbbmfaa
open Go.VM
theorem c27 : CV VP 27 [] [] = some ⟨.d (B true), [], [], 0⟩ := CV_C 400 (by kernel_rfl)
/-- a packet with its number -/
def pcF (l : List Int) (s : Int) (k : Nat) : Pk × Nat := ({ (pkF l s k).1 with id := nxV l (pkF l s k).2 64 }, nxA l (pkF l s k).2)
theorem e28b {l : List Int} (hB : Bytes l) (s : Int) (hs0 : 0 ≤ s) (hs1 : s ≤ 1) (k : Nat) : ∀ (id : Nat) bl, CtxOk bl id →
    CV VP 28 [.ptr id 0, .d (I s)] (cx bl id l (k : Nat) []) = some ⟨.agg ((pcF l s k).1.ds.map .d), cx bl id l ((pcF l s k).2 : Nat) [], [], 0⟩ := by
  intro id bl h
  have c64 : ∀ (k : Nat) (own : List (List V)), own.map V.erL = own → own.all (V.ltbL (bl.length + own.length)) = true → CV VP 29 [.ptr id 0, .d (I 64)] (cx bl id l (k : Nat) own) = some ⟨.d (I (nxV l k 64)), cx bl id l (nxA l k : Nat) own, [], 0⟩ := fun k own => e29 hB h (by decide) (by decide)
  have c73 : ∀ (own : List (List V)), own.map V.erL = own → own.all (V.ltbL (bl.length + own.length)) = true → CV VP 73 [.ptr id 0, .d (I s)] (cx bl id l (k : Nat) own) = some ⟨.agg ((pkF l s k).1.ds9.map .d), cx bl id l ((pkF l s k).2 : Nat) own, [], 0⟩ := fun own => cx_lift (e73b hB s hs0 hs1 k id) h
  simp only [pcF]
  generalize pkF l s k = p at *
  have hid := h.lt
  refine CV_run (vf := vf28) rfl rfl ?_
  rw [vf28_start]
  simp only [Pk.ds9, Pk.ds] at *
  (repeat' (first
    | refine RX_seq ?_
    | refine RX_block ?_
    | ((first | refine RX_reg ?_ | refine RX_cond' ?_ | refine RX_draw0 ?_ | refine RX_draw rfl ?_ | refine RX_skip ?_ | refine RX_exit ?_ | refine RX_ret ?_); try (simp only [go_sem, Int.reduceToNat, Nat.reducePow, Int.reduceEq, Int.reduceNe, Int.reduceLT, Int.reduceLE, Nat.reduceAdd, Nat.reduceLeDiff, ↓reduceIte, Nat.reduceLT, Nat.reduceMul, Nat.reduceSub, reduceCtorEq, frzLoc, rowCells, vAppM, beq_true, beq_false, I, B, w, ibeq, ibne, bbeq, decide_eq_false_iff_not, decide_not, Bool.not_not, Decidable.not_not, Bool.not_eq_eq_eq_not, gt_iff_lt, ge_iff_le, and_false, false_and, or_self, and_self, vf28_res, vf28_keep, cx_len, cx_app, cx_own0, cx_own, cx_setOwn0, cx_setOwn, cx_take, cx_takeN, Nat.add_right_cancel_iff, Nat.lt_irrefl, cx_nlt, Nat.not_lt_zero, cx_get' h, cx_setId' h, cx_er h, cx_all0 h, cx_all h, CtxOk.lt h, *]))
    | (refine ite_ngo (fun _ => ?_) (fun _ => ?_) <;> try (simp only [go_sem, Int.reduceToNat, Nat.reducePow, Int.reduceEq, Int.reduceNe, Int.reduceLT, Int.reduceLE, Nat.reduceAdd, Nat.reduceLeDiff, ↓reduceIte, Nat.reduceLT, Nat.reduceMul, Nat.reduceSub, reduceCtorEq, frzLoc, rowCells, vAppM, beq_true, beq_false, I, B, w, ibeq, ibne, bbeq, decide_eq_false_iff_not, decide_not, Bool.not_not, Decidable.not_not, Bool.not_eq_eq_eq_not, gt_iff_lt, ge_iff_le, and_false, false_and, or_self, and_self, vf28_res, vf28_keep, cx_len, cx_app, cx_own0, cx_own, cx_setOwn0, cx_setOwn, cx_take, cx_takeN, Nat.add_right_cancel_iff, Nat.lt_irrefl, cx_nlt, Nat.not_lt_zero, cx_get' h, cx_setId' h, cx_er h, cx_all0 h, cx_all h, CtxOk.lt h, *]))
    | (refine ite_go (fun _ => ?_) (fun _ => ?_) <;> try (simp only [go_sem, Int.reduceToNat, Nat.reducePow, Int.reduceEq, Int.reduceNe, Int.reduceLT, Int.reduceLE, Nat.reduceAdd, Nat.reduceLeDiff, ↓reduceIte, Nat.reduceLT, Nat.reduceMul, Nat.reduceSub, reduceCtorEq, frzLoc, rowCells, vAppM, beq_true, beq_false, I, B, w, ibeq, ibne, bbeq, decide_eq_false_iff_not, decide_not, Bool.not_not, Decidable.not_not, Bool.not_eq_eq_eq_not, gt_iff_lt, ge_iff_le, and_false, false_and, or_self, and_self, vf28_res, vf28_keep, cx_len, cx_app, cx_own0, cx_own, cx_setOwn0, cx_setOwn, cx_take, cx_takeN, Nat.add_right_cancel_iff, Nat.lt_irrefl, cx_nlt, Nat.not_lt_zero, cx_get' h, cx_setId' h, cx_er h, cx_all0 h, cx_all h, CtxOk.lt h, *]))))
theorem rdT_form (t : Tm) : ∃ (p : Pk) (b : Bool), rdT t = .tup [.agg (p.ds.map .d), .d (B b)] := by
  have h0 : ∃ (p : Pk) (b : Bool), rd0 = .tup [.agg (p.ds.map .d), .d (B b)] := ⟨⟨0, 0, 0, 0, 0, 0, 0, 0, 0, 0⟩, false, rfl⟩
  unfold rdT
  split
  · unfold rdL
    split
    · split
      · unfold rdC
        split
        · exact ⟨⟨_, _, _, _, _, _, _, _, _, _⟩, _, rfl⟩
        · exact h0
      · exact h0
    · exact h0
  · exact h0
theorem rows3 (A : List Tm) : ∀ r ∈ A.map Tm.row, r.length = 3 := by
  intro r hr
  obtain ⟨t, _, rfl⟩ := List.mem_map.1 hr
  rw [Tm.row_eq]; rfl
theorem toDs_map : ∀ ds : List D, toDs (ds.map .d) = some ds
  | [] => rfl
  | d :: ds => by simp [toDs, V.toD, toDs_map ds]
theorem chunk_flat {sz : Nat} : ∀ {ms : List (List D)}, (∀ r ∈ ms, r.length = sz) → chunk sz ms.length ms.flatten = ms
  | [], _ => rfl
  | r :: ms, h => by
    have hr := h r List.mem_cons_self
    rw [List.length_cons, chunk, List.flatten_cons, ← hr, List.take_left, List.drop_left, hr, chunk_flat fun x hx => h x (List.mem_cons_of_mem _ hx)]
theorem frzTm (A : List Tm) {n : Nat} (hn : A.length = n) : frzLoc (some (rowCells (A.map Tm.row))) 0 n 3 = .d (.sl (A.map Tm.row)) := by
  have hl := rowCells_len (rows3 A)
  rw [List.length_map] at hl
  subst hn
  simp only [frzLoc]
  rw [if_pos (by omega), List.drop_zero, List.take_of_length_le (by omega), rowCells, toDs_map]
  simp only
  have := chunk_flat (rows3 A)
  rw [List.length_map] at this
  rw [this]
theorem set_row : ∀ {A : List Tm} {j : Nat} {t : Tm} (_ : A[j]? = some t) (z : Int),
    List.take (j * 3 + 1) (rowCells (A.map Tm.row)) ++ [.d (I z)] ++ List.drop (j * 3 + 1 + 1) (rowCells (A.map Tm.row)) = rowCells ((A.set j (.mk t.op z t.args)).map Tm.row)
  | [], j, t, h, z => by simp at h
  | a :: A, 0, t, h, z => by
    simp only [List.getElem?_cons_zero, Option.some.injEq] at h
    subst h
    simp [rowCells, Tm.row_eq, Tm.op_mk, Tm.val_mk, Tm.args_mk]
  | a :: A, j + 1, t, h, z => by
    have ih := set_row (A := A) (j := j) (t := t) (by simpa using h) z
    have e1 : (j + 1) * 3 + 1 = j * 3 + 1 + 1 + 1 + 1 := by omega
    have e2 : rowCells ((a :: A).map Tm.row) = .d (I a.op) :: .d (I a.val) :: .d (.sl (a.args.map Tm.row)) :: rowCells (A.map Tm.row) := by
      simp [rowCells, Tm.row_eq]
    rw [e1, e2, List.set_cons_succ, List.map_cons]
    simp only [List.take_succ_cons, List.drop_succ_cons, List.cons_append]
    rw [ih]
    simp [rowCells, Tm.row_eq a]
def p9c (p : Pk) : List V := p.ds9.map .d
theorem p9_ctx (p : Pk) : CtxOk [p9c p, []] 1 := ⟨by simp, rfl, by simp [V.ltbL, p9c, Pk.ds9, V.ltb]⟩
def cdB (q : List Int) (k : Nat) : List V := [.d (.sl (q.map byteRow)), .d (I (k : Nat))]
set_option maxHeartbeats 8000000 in
theorem e5 {l : List Int} (hB : ByteL l) (p : Pk) (at' wi : Int) : CV VP 5 [.d (byteD l), .agg (p.ds9.map .d), .d (I p.id), .d (I at'), .d (I wi)] [] = some ⟨.d (B true), [], [], 0⟩ := by
  have h21 : CV VP 21 [.d (byteD l), .d (I 40)] [] = some ⟨.ptr 0 0, [[.sl 1 ((l.take 40).map byteRow) (.own 0 0), .d (I 0)]], [0], 1⟩ := e21 40 (by decide)
  have hB2 := bytes_take hB 40 (by decide)
  generalize l.take 40 = q at *
  have rs2 := nxV_range hB2 (k := 0) (n := 2) (by decide)
  have cN : ∀ (n : Int), 0 < n → n ≤ 256 → ∀ (k : Nat) (own : List (List V)), own.map V.erL = own → own.all (V.ltbL (2 + own.length)) = true → CV VP 29 [.ptr 1 0, .d (I n)] (p9c p :: cdB q k :: own) = some ⟨.d (I (nxV q k n)), p9c p :: cdB q (nxA q k) :: own, [], 0⟩ := fun n h1 h2 k own => e29 hB2 (p9_ctx p) h1 h2
  have c2 := cN 2 (by decide) (by decide) 0 [] rfl rfl
  have c11 := cN 11 (by decide) (by decide)
  have c28 := e28b hB2 (nxV q 0 2) (by omega) (by omega) (nxA q 0) 1 _ (p9_ctx p)
  have c32 : ∀ (k : Nat) (own : List (List V)), own.map V.erL = own → own.all (V.ltbL (2 + own.length)) = true → CV VP 32 [.ptr 1 0, .d (I 3)] (p9c p :: cdB q k :: own) = some ⟨(drT q 2 k).1.ag, p9c p :: cdB q (drT q 2 k).2 :: own, [], 0⟩ := fun k own => cx_lift (fun bl h => e32b hB2 2 (by decide) 1 k bl h) (p9_ctx p)
  generalize pcF q (nxV q 0 2) (nxA q 0) = pk at *
  obtain ⟨p2, k2⟩ := pk
  simp only [cx, Cd, List.set_cons_succ, List.set_cons_zero, List.append_nil] at c28
  simp only [p9c, cdB, Pk.ds9, Pk.ds, List.map_cons, List.map_nil] at c2 c11 c28 c32
  simp only [nc0] at c2
  clear cN
  refine CV_run (vf := vf5) rfl rfl ?_
  rw [vf5_start]
  simp only [Pk.ds9, List.map_cons, List.map_nil]
  (repeat (first
    | refine RX_seq ?_
    | refine RX_block ?_
    | ((first | refine RX_reg ?_ | refine RX_cond' ?_ | refine RX_draw0 ?_ | refine RX_draw rfl ?_ | refine RX_skip ?_ | refine RX_exit ?_ | refine RX_ret ?_); try (simp only [go_sem, Int.reduceToNat, Nat.reducePow, Int.reduceEq, Int.reduceNe, Int.reduceLT, Int.reduceLE, Nat.reduceAdd, Nat.reduceLeDiff, ↓reduceIte, Nat.reduceLT, Nat.reduceMul, Nat.reduceSub, reduceCtorEq, frzLoc, rowCells, vAppM, beq_iff_eq, bne_iff_ne, bne_self_eq_false, beq_self_eq_true, beq_true, beq_false, I, B, w, vf5_res, vf5_keep, c27, h21, c2, c28]))))
  refine RX_loopN (n := 2) rfl ?_
  refine RL_ind (fun m st => ∃ (i k : Nat), i + m = 2 ∧
    At vf5K0 2 st ((.any :: .any :: .any :: .d (I at') :: .d (I wi) :: .any :: .any :: .any :: .any :: .any :: .any :: .ptr 1 0 :: .any :: .any :: .any :: .any :: .any :: .any :: .any :: .any :: .any :: .any :: .any :: .any :: .any :: .any :: .any :: .any :: .any :: .any :: .any :: .any :: .any :: .sl 10 [p.ds, p2.ds] .full :: .d (I 2) :: .d (I (i : Nat)) :: .any :: .any :: .any :: .any :: .any :: .any :: .any :: .any :: .any :: .any :: .any :: .any :: .any :: .any :: .any :: .any :: .any :: .any :: .any :: .any :: .any :: .any :: .any :: .any :: .any :: .any :: .any :: .any :: .any :: .any :: .any :: .any :: .any :: .any :: .any :: .any :: .any :: .any :: .any :: .any :: .any :: .any :: .any :: .any :: .any :: .any :: .any :: .any :: .any :: .any :: .any :: .any :: .any :: .any :: .any :: .any :: .any :: .any :: .any :: .any :: .any :: .any :: .any :: .any :: .any :: [])) [p9c p, cdB q k] [0] 1 0) ?_ 2 _ ⟨0, _, rfl, rfl, rfl, rfl, rfl, rfl, rfl⟩
  rintro m st ⟨i, k, hi, hat⟩ ih
  refine RL_at hat rfl rfl (vf5L0_go ?_)
  cases m with
  | zero =>
    obtain rfl : i = 2 := by omega
    (repeat (first
    | refine RX_seq ?_
    | refine RX_block ?_
    | ((first | refine RX_reg ?_ | refine RX_cond' ?_ | refine RX_draw0 ?_ | refine RX_draw rfl ?_ | refine RX_skip ?_ | refine RX_exit ?_ | refine RX_ret ?_); try (simp only [go_sem, Int.reduceToNat, Nat.reducePow, Int.reduceEq, Int.reduceNe, Int.reduceLT, Int.reduceLE, Nat.reduceAdd, Nat.reduceLeDiff, ↓reduceIte, Nat.reduceLT, Nat.reduceMul, Nat.reduceSub, reduceCtorEq, frzLoc, rowCells, vAppM, beq_iff_eq, bne_iff_ne, bne_self_eq_false, beq_self_eq_true, beq_true, beq_false, I, B, w, vf5_res, vf5_keep]))))
  | succ m =>
    have h1 : (i : Int) < 2 := by omega
    have hi2 : i < 2 := by omega
    have hwi : IntKind.i64.wrap ((i : Int) + 1) = ((i + 1 : Nat) : Int) := w_in (by omega) (by omega)
    obtain ⟨x, hx⟩ : ∃ x : Pk, [p.ds, p2.ds][i]? = some x.ds := by
      match i, hi2 with
      | 0, _ => exact ⟨p, rfl⟩
      | 1, _ => exact ⟨p2, rfl⟩
    simp only [Pk.ds] at hx
    have h30 := e30 x
    have h31 := e31 x
    have h19 := e19 _ x.tm x.tm (Nat.lt_succ_self _) (by
      simp only [Pk.tm, Pk.ns, List.map_cons, List.map_nil, Tm.small, Tm.smalls, nT, List.length_cons, List.length_nil]; simp)
    rw [Tm.eqb_refl] at h19
    obtain ⟨j, hj⟩ : ∃ j : Nat, at' % 10 = (j : Int) := ⟨_, (Int.toNat_of_nonneg (Int.emod_nonneg _ (by decide))).symm⟩
    have hj10 : j < 10 := by have := Int.emod_lt_of_pos at' (b := 10) (by decide); omega
    have hj10i : (j : Int) < 10 := by omega
    have h14 := e14 at' 10 (by decide) (by decide)
    rw [hj] at h14
    obtain ⟨A, hA⟩ : ∃ A, A = x.ns.map nT := ⟨_, rfl⟩
    have hAl : A.length = 10 := by rw [hA]; rfl
    obtain ⟨y, hy⟩ : ∃ y, A[j]? = some y := ⟨_, List.getElem?_eq_getElem (by omega)⟩
    have hst := set_row hy wi
    obtain ⟨A2, hA2⟩ : ∃ A2, A2 = A.set j (.mk y.op wi y.args) := ⟨_, rfl⟩
    have hA2l : A2.length = 10 := by rw [hA2]; simpa using hAl
    rw [← hA2] at hst
    have hfr := frzTm A2 hA2l
    have htm : x.tm = .mk 3 0 A := by rw [hA]; rfl
    rw [htm] at h30 h31 h19
    simp only [Tm.ag, Tm.op_mk, Tm.val_mk, Tm.args_mk, Tm.row_mk, Tm.row_eq (.mk 3 0 A), List.map_cons, List.map_nil] at h30 h31 h19
    have h34 : ∀ a b (ts : List Tm), CV VP 34 [.agg [.d (I a), .d (I b), .d (.sl (ts.map Tm.row))]] [] = some ⟨rdT (.mk a b ts), [], [], 0⟩ := fun a b ts => e34 (.mk a b ts)
    have h35 : ∀ a b (ts : List Tm), CV VP 35 [.agg [.d (I a), .d (I b), .d (.sl (ts.map Tm.row))]] [] = some ⟨rdT (.mk a b ts), [], [], 0⟩ := fun a b ts => e35 (.mk a b ts)
    have hRC : (rowCells (A.map Tm.row)).length = 30 := by rw [rowCells_len (rows3 A)]; simp [hAl]
    have hRC2 : (rowCells (A2.map Tm.row)).length = 30 := by rw [rowCells_len (rows3 A2)]; simp [hA2l]
    have hRe : ∀ A : List Tm, V.erL (rowCells (A.map Tm.row)) = rowCells (A.map Tm.row) := fun A => erL_d _
    have hRt : ∀ n (A : List Tm), V.ltbL n (rowCells (A.map Tm.row)) = true := fun n A => ltbL_d n _
    have happ : ∀ st : St, vAppM st 3 .nil (A.map Tm.row) = some (.loc st.blocks.length 0 10 3, { st with blocks := st.blocks ++ [rowCells (A.map Tm.row)] }) := fun st => by
      match A, hAl with
      | a :: A', hAl =>
        unfold vAppM
        rw [if_pos ⟨by rw [List.length_map, hAl]; decide, by rw [List.all_eq_true]; intro r hr; simpa using rows3 _ r hr⟩]
        simp only [List.map_cons, List.length_cons, List.length_map] at hAl ⊢
        rw [hAl]
    have hj1 : j * 3 + 1 + 1 ≤ 30 := by omega
    obtain ⟨n, hn⟩ : ∃ n : Nat, nxV q (drT q 2 k).2 11 = (n : Int) := ⟨_, (Int.toNat_of_nonneg (nxV_range hB2 (by decide)).1).symm⟩
    have hn10 : n ≤ 10 := by have := (nxV_range hB2 (k := (drT q 2 k).2) (n := 11) (by decide)).2; omega
    have hn10i : (n : Int) ≤ 10 := by omega
    have c11 := c11 (drT q 2 k).2
    have c32 := c32 k
    rw [hn] at c11
    generalize drT q 2 k = T at *
    obtain ⟨⟨a, b, ts⟩, k3⟩ := T
    simp only [Tm.ag, Tm.op_mk, Tm.val_mk, Tm.args_mk] at c11 c32
    have hall : (A.map Tm.row).all (fun r => r.length == 3) = true := by rw [List.all_eq_true]; intro r hr; simpa using rows3 _ r hr
    have htk : List.take n (A.map Tm.row) = (A.take n).map Tm.row := List.map_take.symm
    have h33 := e33 (rows := (A.take n).map Tm.row) (Tm.rows3 _ (by rw [List.length_take]; omega))
    obtain ⟨p0, b0, f0⟩ := rdT_form (.mk 3 0 A)
    obtain ⟨p1, b1, f1⟩ := rdT_form (.mk 3 0 A2)
    obtain ⟨p2', b2, f2⟩ := rdT_form (.mk a b ts)
    obtain ⟨p3, b3, f3⟩ := rdT_form (.mk 3 0 (A.take n))
    have w1 : IntKind.i64.wrap (0 + 1) = 1 := rfl
    have w2 : IntKind.i64.wrap (1 + 1) = 2 := rfl
    have w3 : IntKind.i64.wrap (2 + 1) = 3 := rfl
    have w4 : IntKind.i64.wrap (3 + 1) = 4 := rfl
    clear hA htm
    simp only [Pk.ns, Pk.ds, List.map_cons, List.map_nil] at h30 h31 f0 f1 f2 f3
    simp only [p9c, cdB, Pk.ds9, Pk.ds, List.map_cons, List.map_nil]
    (repeat (first
    | refine RX_seq ?_
    | refine RX_block ?_
    | ((first | refine RX_reg ?_ | refine RX_cond' ?_ | refine RX_draw0 ?_ | refine RX_draw rfl ?_ | refine RX_skip ?_ | refine RX_exit ?_ | refine RX_ret ?_); try (simp only [go_sem, Int.reduceToNat, Nat.reducePow, Int.reduceEq, Int.reduceNe, Int.reduceLT, Int.reduceLE, Nat.reduceAdd, Nat.reduceLeDiff, ↓reduceIte, Nat.reduceLT, Nat.reduceMul, Nat.reduceSub, reduceCtorEq, beq_iff_eq, bne_iff_ne, bne_self_eq_false, beq_self_eq_true, beq_true, beq_false, I, B, w, vf5_res, vf5_keep, h1, hi2, hx, h30, h31, h19, h14, hj10, hj10i, List.length_map, hAl, hA2l, hRC, hRC2, hRe, hRt, hj1, hst, hfr, happ, c11, c32, hall, htk, h33, hn10, hn10i, vSlice, vBounds, V.int]))))
    refine RX_loop ?_
    (refine RL_head ?_; (simp only [go_sem, Int.reduceToNat, Nat.reducePow, Int.reduceEq, Int.reduceNe, Int.reduceLT, Int.reduceLE, Nat.reduceAdd, Nat.reduceLeDiff, ↓reduceIte, Nat.reduceLT, Nat.reduceMul, Nat.reduceSub, reduceCtorEq, beq_iff_eq, bne_iff_ne, bne_self_eq_false, beq_self_eq_true, beq_true, beq_false, I, B, w, St.head, forget, vf5K1, RLK_some, hRe, hRt]); refine vf5L1_go ?_; ((repeat (first
    | refine RX_seq ?_
    | refine RX_block ?_
    | ((first | refine RX_reg ?_ | refine RX_cond' ?_ | refine RX_draw0 ?_ | refine RX_draw rfl ?_ | refine RX_skip ?_ | refine RX_exit ?_ | refine RX_ret ?_); try (simp only [go_sem, Int.reduceToNat, Nat.reducePow, Int.reduceEq, Int.reduceNe, Int.reduceLT, Int.reduceLE, Nat.reduceAdd, Nat.reduceLeDiff, ↓reduceIte, Nat.reduceLT, Nat.reduceMul, Nat.reduceSub, reduceCtorEq, beq_iff_eq, bne_iff_ne, bne_self_eq_false, beq_self_eq_true, beq_true, beq_false, I, B, w, vf5_res, vf5_keep, h34, h35, f0, f1, f2, f3, hRC, hRC2, hRe, hRt, hfr, w1, w2, w3, w4, hwi, vCellsEq, vCellEq]))))))
    (refine RL_head ?_; (simp only [go_sem, Int.reduceToNat, Nat.reducePow, Int.reduceEq, Int.reduceNe, Int.reduceLT, Int.reduceLE, Nat.reduceAdd, Nat.reduceLeDiff, ↓reduceIte, Nat.reduceLT, Nat.reduceMul, Nat.reduceSub, reduceCtorEq, beq_iff_eq, bne_iff_ne, bne_self_eq_false, beq_self_eq_true, beq_true, beq_false, I, B, w, St.head, forget, vf5K1, RLK_some, hRe, hRt]); refine vf5L1_go ?_; ((repeat (first
    | refine RX_seq ?_
    | refine RX_block ?_
    | ((first | refine RX_reg ?_ | refine RX_cond' ?_ | refine RX_draw0 ?_ | refine RX_draw rfl ?_ | refine RX_skip ?_ | refine RX_exit ?_ | refine RX_ret ?_); try (simp only [go_sem, Int.reduceToNat, Nat.reducePow, Int.reduceEq, Int.reduceNe, Int.reduceLT, Int.reduceLE, Nat.reduceAdd, Nat.reduceLeDiff, ↓reduceIte, Nat.reduceLT, Nat.reduceMul, Nat.reduceSub, reduceCtorEq, beq_iff_eq, bne_iff_ne, bne_self_eq_false, beq_self_eq_true, beq_true, beq_false, I, B, w, vf5_res, vf5_keep, h34, h35, f0, f1, f2, f3, hRC, hRC2, hRe, hRt, hfr, w1, w2, w3, w4, hwi, vCellsEq, vCellEq]))))))
    (refine RL_head ?_; (simp only [go_sem, Int.reduceToNat, Nat.reducePow, Int.reduceEq, Int.reduceNe, Int.reduceLT, Int.reduceLE, Nat.reduceAdd, Nat.reduceLeDiff, ↓reduceIte, Nat.reduceLT, Nat.reduceMul, Nat.reduceSub, reduceCtorEq, beq_iff_eq, bne_iff_ne, bne_self_eq_false, beq_self_eq_true, beq_true, beq_false, I, B, w, St.head, forget, vf5K1, RLK_some, hRe, hRt]); refine vf5L1_go ?_; ((repeat (first
    | refine RX_seq ?_
    | refine RX_block ?_
    | ((first | refine RX_reg ?_ | refine RX_cond' ?_ | refine RX_draw0 ?_ | refine RX_draw rfl ?_ | refine RX_skip ?_ | refine RX_exit ?_ | refine RX_ret ?_); try (simp only [go_sem, Int.reduceToNat, Nat.reducePow, Int.reduceEq, Int.reduceNe, Int.reduceLT, Int.reduceLE, Nat.reduceAdd, Nat.reduceLeDiff, ↓reduceIte, Nat.reduceLT, Nat.reduceMul, Nat.reduceSub, reduceCtorEq, beq_iff_eq, bne_iff_ne, bne_self_eq_false, beq_self_eq_true, beq_true, beq_false, I, B, w, vf5_res, vf5_keep, h34, h35, f0, f1, f2, f3, hRC, hRC2, hRe, hRt, hfr, w1, w2, w3, w4, hwi, vCellsEq, vCellEq]))))))
    (refine RL_head ?_; (simp only [go_sem, Int.reduceToNat, Nat.reducePow, Int.reduceEq, Int.reduceNe, Int.reduceLT, Int.reduceLE, Nat.reduceAdd, Nat.reduceLeDiff, ↓reduceIte, Nat.reduceLT, Nat.reduceMul, Nat.reduceSub, reduceCtorEq, beq_iff_eq, bne_iff_ne, bne_self_eq_false, beq_self_eq_true, beq_true, beq_false, I, B, w, St.head, forget, vf5K1, RLK_some, hRe, hRt]); refine vf5L1_go ?_; ((repeat (first
    | refine RX_seq ?_
    | refine RX_block ?_
    | ((first | refine RX_reg ?_ | refine RX_cond' ?_ | refine RX_draw0 ?_ | refine RX_draw rfl ?_ | refine RX_skip ?_ | refine RX_exit ?_ | refine RX_ret ?_); try (simp only [go_sem, Int.reduceToNat, Nat.reducePow, Int.reduceEq, Int.reduceNe, Int.reduceLT, Int.reduceLE, Nat.reduceAdd, Nat.reduceLeDiff, ↓reduceIte, Nat.reduceLT, Nat.reduceMul, Nat.reduceSub, reduceCtorEq, beq_iff_eq, bne_iff_ne, bne_self_eq_false, beq_self_eq_true, beq_true, beq_false, I, B, w, vf5_res, vf5_keep, h34, h35, f0, f1, f2, f3, hRC, hRC2, hRe, hRt, hfr, w1, w2, w3, w4, hwi, vCellsEq, vCellEq]))))))
    (refine RL_head ?_; (simp only [go_sem, Int.reduceToNat, Nat.reducePow, Int.reduceEq, Int.reduceNe, Int.reduceLT, Int.reduceLE, Nat.reduceAdd, Nat.reduceLeDiff, ↓reduceIte, Nat.reduceLT, Nat.reduceMul, Nat.reduceSub, reduceCtorEq, beq_iff_eq, bne_iff_ne, bne_self_eq_false, beq_self_eq_true, beq_true, beq_false, I, B, w, St.head, forget, vf5K1, RLK_some, hRe, hRt]); refine vf5L1_go ?_; ((repeat (first
    | refine RX_seq ?_
    | refine RX_block ?_
    | ((first | refine RX_reg ?_ | refine RX_cond' ?_ | refine RX_draw0 ?_ | refine RX_draw rfl ?_ | refine RX_skip ?_ | refine RX_exit ?_ | refine RX_ret ?_); try (simp only [go_sem, Int.reduceToNat, Nat.reducePow, Int.reduceEq, Int.reduceNe, Int.reduceLT, Int.reduceLE, Nat.reduceAdd, Nat.reduceLeDiff, ↓reduceIte, Nat.reduceLT, Nat.reduceMul, Nat.reduceSub, reduceCtorEq, beq_iff_eq, bne_iff_ne, bne_self_eq_false, beq_self_eq_true, beq_true, beq_false, I, B, w, vf5_res, vf5_keep, h34, h35, f0, f1, f2, f3, hRC, hRC2, hRe, hRt, hfr, w1, w2, w3, w4, hwi, vCellsEq, vCellEq]))))))
    exact ih m _ (Nat.lt_succ_self m) ⟨i + 1, _, by omega, rfl, rfl, rfl, rfl, rfl, rfl⟩
end Go.Proofs.Ytahiikdkgbbmfaa

namespace Go.Proofs.Ytahiikdkgbbmfaa
open Go.VM
theorem address_of {ds : List D} (h : WT Try.prog 55 ds) : ∃ a b c, ds = [I a, U b, U c] := by
  obtain ⟨a, b, c, rfl, h0, h1, h2⟩ := h.st3 Try.underlying55
  obtain ⟨a, rfl, _⟩ := h0.int_inv Try.underlying3
  obtain ⟨b, rfl, _⟩ := h1.int_inv Try.underlying53
  obtain ⟨c, rfl, _⟩ := h2.int_inv Try.underlying53
  exact ⟨a, b, c, rfl⟩
theorem packet_of {ds : List D} (n : Int) (h : WT Try.prog 57 ds) : ∃ p : Pk, ds = p.ds9 ∧ p.id = n := by
  obtain ⟨a, b, c, d, e, rfl, h0, h1, h2, h3, h4⟩ := h.st5 Try.underlying57
  obtain ⟨a1, a2, a3, rfl⟩ := address_of h0
  obtain ⟨b1, b2, b3, rfl⟩ := address_of h1
  obtain ⟨c, rfl, _⟩ := h2.int_inv Try.underlying3
  obtain ⟨d, rfl, _⟩ := h3.int_inv Try.underlying3
  obtain ⟨e, rfl, _⟩ := h4.int_inv Try.underlying3
  exact ⟨⟨a1, a2, a3, b1, b2, b3, c, d, e, n⟩, rfl, rfl⟩
end Go.Proofs.Ytahiikdkgbbmfaa
