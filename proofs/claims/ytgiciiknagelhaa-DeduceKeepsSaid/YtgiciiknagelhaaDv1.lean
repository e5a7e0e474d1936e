/- Drawn terms on the machine. Conditions: none. -/
import Derived.Test.YtgiciiknagelhaaVe
import Derived.Test.YtgiciiknagelhaaDua
set_option linter.unusedSimpArgs false
namespace Go.Proofs.Ytgiciiknagelhaa
open Go.VM
theorem e29b {l : List Int} (hB : Bytes l) (id k : Nat) {n : Int} (hn : 0 < n) (hn2 : n ≤ 256) : ∀ bl, CtxOk bl id →
    CV VP 37 [.ptr id 0, .d (I n)] (cx bl id l (k : Nat) []) = some ⟨.d (I (nxV l k n)), cx bl id l (nxA l k : Nat) [], [], 0⟩ := by
  intro bl h
  refine CV_run (vf := vf37) rfl rfl ?_
  rw [vf37_start]
  by_cases hk : k < l.length
  · have hk2 : ¬ ((k : Int) ≥ (l.length : Int)) := by omega
    have hz := List.getElem?_eq_getElem hk
    have hzb := hB.mem _ (List.getElem_mem hk)
    have hv : nxV l k n = l[k] * n / 256 := by rw [nxV, dif_pos hk]
    have ha : nxA l k = k + 1 := by rw [nxA, if_pos hk]
    rw [hv, ha]
    generalize l[k] = z at hz hzb
    have hzn : 0 ≤ z * n ∧ z * n ≤ 65280 := ⟨Int.mul_nonneg hzb.1 (by omega), by
      calc z * n ≤ 255 * 256 := Int.mul_le_mul hzb.2 hn2 (by omega) (by decide)
        _ = 65280 := by decide⟩
    have w1 := w_nat (Nat.lt_trans hk hB.len)
    have w2 : IntKind.i64.wrap (((k + 1 : Nat) : Int) - 1) = (k : Int) := by rw [w_in (by omega) (by have := hB.len; omega)]; omega
    have w3 : IntKind.i64.wrap z = z := w_in (by omega) (by omega)
    have w4 : IntKind.i64.wrap (z * n) = z * n := w_in (by omega) (by omega)
    have w5 : IntKind.i64.wrap ((z * n).tdiv 256) = z * n / 256 := by
      rw [Int.tdiv_eq_ediv_of_nonneg hzn.1, w_in (by omega) (by omega)]
    (repeat (first
    | refine RX_seq ?_
    | refine RX_block ?_
    | ((first | refine RX_reg ?_ | refine RX_cond' ?_ | refine RX_draw0 ?_ | refine RX_draw rfl ?_ | refine RX_skip ?_ | refine RX_gfrz ?_ | refine RX_exit ?_ | refine RX_ret ?_); try (simp only [go_sem, Nat.max_zero, List.isEmpty_cons, Int.reduceToNat, Nat.reducePow, Int.reduceEq, Int.reduceNe, Int.reduceLT, Int.reduceLE, Nat.reduceAdd, Nat.reduceLeDiff, ↓reduceIte, Nat.reduceLT, Nat.reduceMul, Nat.reduceSub, reduceCtorEq, frzLoc, rowCells, vAppM, beq_iff_eq, bne_iff_ne, bne_self_eq_false, beq_self_eq_true, beq_true, beq_false, I, B, w, cx_len, cx_app, cx_own0, cx_own, cx_setOwn0, cx_setOwn, cx_take, cx_takeN, Nat.add_right_cancel_iff, Nat.lt_irrefl, cx_nlt, Nat.not_lt_zero, cx_get' h, cx_setId' h, cx_er h, cx_all0 h, cx_all h, CtxOk.lt h, CtxOk.ne0 h, hk2, hk, hz, w1, w2, w3, w4, w5, List.length_map, List.getElem?_map, byteRow, vf37_res, vf37_keep]))))
  · have hk2 : (k : Int) ≥ (l.length : Int) := by omega
    have hv : nxV l k n = 0 := by rw [nxV, dif_neg hk]
    have ha : nxA l k = k := by rw [nxA, if_neg hk]
    rw [hv, ha]
    (repeat (first
    | refine RX_seq ?_
    | refine RX_block ?_
    | ((first | refine RX_reg ?_ | refine RX_cond' ?_ | refine RX_draw0 ?_ | refine RX_draw rfl ?_ | refine RX_skip ?_ | refine RX_gfrz ?_ | refine RX_exit ?_ | refine RX_ret ?_); try (simp only [go_sem, Nat.max_zero, List.isEmpty_cons, Int.reduceToNat, Nat.reducePow, Int.reduceEq, Int.reduceNe, Int.reduceLT, Int.reduceLE, Nat.reduceAdd, Nat.reduceLeDiff, ↓reduceIte, Nat.reduceLT, Nat.reduceMul, Nat.reduceSub, reduceCtorEq, frzLoc, rowCells, vAppM, beq_iff_eq, bne_iff_ne, bne_self_eq_false, beq_self_eq_true, beq_true, beq_false, I, B, w, cx_len, cx_app, cx_own0, cx_own, cx_setOwn0, cx_setOwn, cx_take, cx_takeN, Nat.add_right_cancel_iff, Nat.lt_irrefl, cx_nlt, Nat.not_lt_zero, cx_get' h, cx_setId' h, cx_er h, cx_all0 h, cx_all h, CtxOk.lt h, CtxOk.ne0 h, hk2, hk, List.length_map, vf37_res, vf37_keep]))))
theorem e29 {l : List Int} (hB : Bytes l) {bl : List (List V)} {id k : Nat} {own : List (List V)} {n : Int} (h : CtxOk bl id) (hn : 0 < n) (hn2 : n ≤ 256) (he : own.map V.erL = own) (hl : own.all (V.ltbL (bl.length + own.length)) = true) :
    CV VP 37 [.ptr id 0, .d (I n)] (cx bl id l (k : Nat) own) = some ⟨.d (I (nxV l k n)), cx bl id l (nxA l k : Nat) own, [], 0⟩ :=
  cx_lift (e29b hB id k hn hn2) h he hl
end Go.Proofs.Ytgiciiknagelhaa
namespace Go.Proofs.Ytgiciiknagelhaa
open Go.VM
theorem e21 {l : List Int} (n : Nat) (hn : n < 1000) : CV VP 11 [.d (byteD l), .d (I n)] [] = some ⟨.ptr 0 0, [[.sl 1 ((l.take n).map byteRow) (.own 0 0), .d (I 0)]], [0], 1⟩ := by
  have hall : (l.map byteRow).all (fun r => r.length == 1) = true := by
    rw [List.all_eq_true]
    intro r hr
    obtain ⟨z, _, rfl⟩ := List.mem_map.1 hr
    rfl
  have hall2 : ((l.take n).map byteRow).all (fun r => r.length == 1) = true := by
    rw [List.all_eq_true]
    intro r hr
    obtain ⟨z, _, rfl⟩ := List.mem_map.1 hr
    rfl
  refine CV_run (vf := vf11) rfl rfl ?_
  rw [vf11_start]
  have hall3 : (List.take n (l.map byteRow)).all (fun r => r.length == 1) = true := by rw [← List.map_take]; exact hall2
  by_cases h : (n : Int) < l.length
  · have h1 : ((n : Int) ≤ (l.length : Int)) := by omega
    have h2 : min n l.length ≤ 4294967296 := by omega
    (repeat (first
    | refine RX_seq ?_
    | refine RX_block ?_
    | ((first | refine RX_reg ?_ | refine RX_cond' ?_ | refine RX_draw0 ?_ | refine RX_draw rfl ?_ | refine RX_skip ?_ | refine RX_gfrz ?_ | refine RX_exit ?_ | refine RX_ret ?_); try (simp only [go_sem, Nat.max_zero, List.isEmpty_cons, Int.reduceToNat, Nat.reducePow, Int.reduceEq, Int.reduceNe, Int.reduceLT, Int.reduceLE, Nat.reduceAdd, Nat.reduceLeDiff, ↓reduceIte, Nat.reduceLT, Nat.reduceMul, Nat.reduceSub, reduceCtorEq, frzLoc, rowCells, vAppM, beq_iff_eq, bne_iff_ne, bne_self_eq_false, beq_self_eq_true, beq_true, beq_false, I, B, w, vf11_res, vf11_keep, byteD, h, h1, h2, hall, hall3, vSlice, vBounds, List.length_map, List.map_take, List.length_take]))))
  · have h3 : l.take n = l := List.take_of_length_le (by omega)
    have h2 : l.length ≤ 4294967296 ∨ True := .inr trivial
    have h4 : l.length ≤ 4294967296 := by omega
    have h5 : List.take l.length (l.map byteRow) = l.map byteRow := List.take_of_length_le (by simp)
    rw [h3]
    (repeat (first
    | refine RX_seq ?_
    | refine RX_block ?_
    | ((first | refine RX_reg ?_ | refine RX_cond' ?_ | refine RX_draw0 ?_ | refine RX_draw rfl ?_ | refine RX_skip ?_ | refine RX_gfrz ?_ | refine RX_exit ?_ | refine RX_ret ?_); try (simp only [go_sem, Nat.max_zero, List.isEmpty_cons, Int.reduceToNat, Nat.reducePow, Int.reduceEq, Int.reduceNe, Int.reduceLT, Int.reduceLE, Nat.reduceAdd, Nat.reduceLeDiff, ↓reduceIte, Nat.reduceLT, Nat.reduceMul, Nat.reduceSub, reduceCtorEq, frzLoc, rowCells, vAppM, beq_iff_eq, bne_iff_ne, bne_self_eq_false, beq_self_eq_true, beq_true, beq_false, I, B, w, vf11_res, vf11_keep, byteD, h, h4, h5, hall, vSlice, vBounds, List.length_map, Int.le_refl]))))
end Go.Proofs.Ytgiciiknagelhaa
namespace Go.Proofs.Ytgiciiknagelhaa
open Go.VM
end Go.Proofs.Ytgiciiknagelhaa
namespace Go.Proofs.Ytgiciiknagelhaa
open Go.VM
def Rows3 (rows : List (List D)) : Prop := rows.length ≤ 4294967296 ∧ rows.all (fun r => r.length == 3) = true
theorem e76 (n : Int) : CV VP 84 [.d (I n)] [] = some ⟨.agg [.d (I 1), .d (I n), .d (.sl [])], [], [], 0⟩ := by
  refine CV_run (vf := vf84) rfl rfl ?_
  rw [vf84_start]
  (repeat (first
    | refine RX_seq ?_
    | refine RX_block ?_
    | ((first | refine RX_reg ?_ | refine RX_cond' ?_ | refine RX_draw0 ?_ | refine RX_draw rfl ?_ | refine RX_skip ?_ | refine RX_gfrz ?_ | refine RX_exit ?_ | refine RX_ret ?_); try (simp only [go_sem, Nat.max_zero, List.isEmpty_cons, Int.reduceToNat, Nat.reducePow, Int.reduceEq, Int.reduceNe, Int.reduceLT, Int.reduceLE, Nat.reduceAdd, Nat.reduceLeDiff, ↓reduceIte, Nat.reduceLT, Nat.reduceMul, Nat.reduceSub, reduceCtorEq, frzLoc, rowCells, vAppM, beq_iff_eq, bne_iff_ne, bne_self_eq_false, beq_self_eq_true, beq_true, beq_false, I, B, w, vf84_res, vf84_keep]))))
theorem e70 (a b : Int) : CV VP 23 [.d (I a), .d (I b)] [] = some ⟨.agg [.d (I 2), .d (I (w (w (a * 1048576) + b))), .d (.sl [])], [], [], 0⟩ := by
  refine CV_run (vf := vf23) rfl rfl ?_
  rw [vf23_start]
  (repeat (first
    | refine RX_seq ?_
    | refine RX_block ?_
    | ((first | refine RX_reg ?_ | refine RX_cond' ?_ | refine RX_draw0 ?_ | refine RX_draw rfl ?_ | refine RX_skip ?_ | refine RX_gfrz ?_ | refine RX_exit ?_ | refine RX_ret ?_); try (simp only [go_sem, Nat.max_zero, List.isEmpty_cons, Int.reduceToNat, Nat.reducePow, Int.reduceEq, Int.reduceNe, Int.reduceLT, Int.reduceLE, Nat.reduceAdd, Nat.reduceLeDiff, ↓reduceIte, Nat.reduceLT, Nat.reduceMul, Nat.reduceSub, reduceCtorEq, frzLoc, rowCells, vAppM, beq_iff_eq, bne_iff_ne, bne_self_eq_false, beq_self_eq_true, beq_true, beq_false, I, B, w, vf23_res, vf23_keep]))))
theorem e33 {rows : List (List D)} (h : Rows3 rows) : CV VP 86 [.d (.sl rows)] [] = some ⟨.agg [.d (I 3), .d (I 0), .d (.sl rows)], [], [], 0⟩ := by
  refine CV_run (vf := vf86) rfl rfl ?_
  rw [vf86_start]
  (repeat (first
    | refine RX_seq ?_
    | refine RX_block ?_
    | ((first | refine RX_reg ?_ | refine RX_cond' ?_ | refine RX_draw0 ?_ | refine RX_draw rfl ?_ | refine RX_skip ?_ | refine RX_gfrz ?_ | refine RX_exit ?_ | refine RX_ret ?_); try (simp only [go_sem, Nat.max_zero, List.isEmpty_cons, Int.reduceToNat, Nat.reducePow, Int.reduceEq, Int.reduceNe, Int.reduceLT, Int.reduceLE, Nat.reduceAdd, Nat.reduceLeDiff, ↓reduceIte, Nat.reduceLT, Nat.reduceMul, Nat.reduceSub, reduceCtorEq, frzLoc, rowCells, vAppM, beq_iff_eq, bne_iff_ne, bne_self_eq_false, beq_self_eq_true, beq_true, beq_false, I, B, w, vf86_res, vf86_keep, h.1, h.2]))))
theorem e77 (a b c : D) : CV VP 87 [.agg [.d a, .d b, .d c]] [] = some ⟨.agg [.d (I 4), .d (I 0), .d (.sl [[a, b, c]])], [], [], 0⟩ := by
  refine CV_run (vf := vf87) rfl rfl ?_
  rw [vf87_start]
  (repeat (first
    | refine RX_seq ?_
    | refine RX_block ?_
    | ((first | refine RX_reg ?_ | refine RX_cond' ?_ | refine RX_draw0 ?_ | refine RX_draw rfl ?_ | refine RX_skip ?_ | refine RX_gfrz ?_ | refine RX_exit ?_ | refine RX_ret ?_); try (simp only [go_sem, Nat.max_zero, List.isEmpty_cons, Int.reduceToNat, Nat.reducePow, Int.reduceEq, Int.reduceNe, Int.reduceLT, Int.reduceLE, Nat.reduceAdd, Nat.reduceLeDiff, ↓reduceIte, Nat.reduceLT, Nat.reduceMul, Nat.reduceSub, reduceCtorEq, frzLoc, rowCells, vAppM, beq_iff_eq, bne_iff_ne, bne_self_eq_false, beq_self_eq_true, beq_true, beq_false, I, B, w, vf87_res, vf87_keep]))))
theorem e79 (n : Int) {rows : List (List D)} (h : Rows3 rows) : CV VP 89 [.d (I n), .d (.sl rows)] [] = some ⟨.agg [.d (I 6), .d (I n), .d (.sl rows)], [], [], 0⟩ := by
  refine CV_run (vf := vf89) rfl rfl ?_
  rw [vf89_start]
  (repeat (first
    | refine RX_seq ?_
    | refine RX_block ?_
    | ((first | refine RX_reg ?_ | refine RX_cond' ?_ | refine RX_draw0 ?_ | refine RX_draw rfl ?_ | refine RX_skip ?_ | refine RX_gfrz ?_ | refine RX_exit ?_ | refine RX_ret ?_); try (simp only [go_sem, Nat.max_zero, List.isEmpty_cons, Int.reduceToNat, Nat.reducePow, Int.reduceEq, Int.reduceNe, Int.reduceLT, Int.reduceLE, Nat.reduceAdd, Nat.reduceLeDiff, ↓reduceIte, Nat.reduceLT, Nat.reduceMul, Nat.reduceSub, reduceCtorEq, frzLoc, rowCells, vAppM, beq_iff_eq, bne_iff_ne, bne_self_eq_false, beq_self_eq_true, beq_true, beq_false, I, B, w, vf89_res, vf89_keep, h.1, h.2]))))
theorem e80 (n : Int) (a b c : D) : CV VP 67 [.d (I n), .agg [.d a, .d b, .d c]] [] = some ⟨.agg [.d (I 8), .d (I n), .d (.sl [[a, b, c]])], [], [], 0⟩ := by
  refine CV_run (vf := vf67) rfl rfl ?_
  rw [vf67_start]
  (repeat (first
    | refine RX_seq ?_
    | refine RX_block ?_
    | ((first | refine RX_reg ?_ | refine RX_cond' ?_ | refine RX_draw0 ?_ | refine RX_draw rfl ?_ | refine RX_skip ?_ | refine RX_gfrz ?_ | refine RX_exit ?_ | refine RX_ret ?_); try (simp only [go_sem, Nat.max_zero, List.isEmpty_cons, Int.reduceToNat, Nat.reducePow, Int.reduceEq, Int.reduceNe, Int.reduceLT, Int.reduceLE, Nat.reduceAdd, Nat.reduceLeDiff, ↓reduceIte, Nat.reduceLT, Nat.reduceMul, Nat.reduceSub, reduceCtorEq, frzLoc, rowCells, vAppM, beq_iff_eq, bne_iff_ne, bne_self_eq_false, beq_self_eq_true, beq_true, beq_false, I, B, w, vf67_res, vf67_keep]))))
theorem e57 (a b c x y z : D) : CV VP 90 [.agg [.d a, .d b, .d c], .agg [.d x, .d y, .d z]] [] = some ⟨.agg [.d (I 7), .d (I 0), .d (.sl [[a, b, c], [x, y, z]])], [], [], 0⟩ := by
  refine CV_run (vf := vf90) rfl rfl ?_
  rw [vf90_start]
  (repeat (first
    | refine RX_seq ?_
    | refine RX_block ?_
    | ((first | refine RX_reg ?_ | refine RX_cond' ?_ | refine RX_draw0 ?_ | refine RX_draw rfl ?_ | refine RX_skip ?_ | refine RX_gfrz ?_ | refine RX_exit ?_ | refine RX_ret ?_); try (simp only [go_sem, Nat.max_zero, List.isEmpty_cons, Int.reduceToNat, Nat.reducePow, Int.reduceEq, Int.reduceNe, Int.reduceLT, Int.reduceLE, Nat.reduceAdd, Nat.reduceLeDiff, ↓reduceIte, Nat.reduceLT, Nat.reduceMul, Nat.reduceSub, reduceCtorEq, frzLoc, rowCells, vAppM, beq_iff_eq, bne_iff_ne, bne_self_eq_false, beq_self_eq_true, beq_true, beq_false, I, B, w, vf90_res, vf90_keep]))))
end Go.Proofs.Ytgiciiknagelhaa
namespace Go.Proofs.Ytgiciiknagelhaa
open Go.VM
theorem e121n (a b : Int) : CV VP 184 [.agg [.d (I 2), .d (I a), .d (.sl [])], .agg [.d (I 2), .d (I b), .d (.sl [])]] [] = some ⟨.d (I (if a < b then -1 else if b < a then 1 else 0)), [], [], 0⟩ := by
  refine CV_run (vf := vf184) rfl rfl ?_
  rw [vf184_start]
  by_cases h1 : a < b
  · (repeat (first
    | refine RX_seq ?_
    | refine RX_block ?_
    | ((first | refine RX_reg ?_ | refine RX_cond' ?_ | refine RX_draw0 ?_ | refine RX_draw rfl ?_ | refine RX_skip ?_ | refine RX_gfrz ?_ | refine RX_exit ?_ | refine RX_ret ?_); try (simp only [go_sem, Nat.max_zero, List.isEmpty_cons, Int.reduceToNat, Nat.reducePow, Int.reduceEq, Int.reduceNe, Int.reduceLT, Int.reduceLE, Nat.reduceAdd, Nat.reduceLeDiff, ↓reduceIte, Nat.reduceLT, Nat.reduceMul, Nat.reduceSub, reduceCtorEq, frzLoc, rowCells, vAppM, beq_iff_eq, bne_iff_ne, bne_self_eq_false, beq_self_eq_true, beq_true, beq_false, I, B, w, vf184_res, vf184_keep, h1, gt_iff_lt]))))
  · by_cases h2 : b < a
    · (repeat (first
    | refine RX_seq ?_
    | refine RX_block ?_
    | ((first | refine RX_reg ?_ | refine RX_cond' ?_ | refine RX_draw0 ?_ | refine RX_draw rfl ?_ | refine RX_skip ?_ | refine RX_gfrz ?_ | refine RX_exit ?_ | refine RX_ret ?_); try (simp only [go_sem, Nat.max_zero, List.isEmpty_cons, Int.reduceToNat, Nat.reducePow, Int.reduceEq, Int.reduceNe, Int.reduceLT, Int.reduceLE, Nat.reduceAdd, Nat.reduceLeDiff, ↓reduceIte, Nat.reduceLT, Nat.reduceMul, Nat.reduceSub, reduceCtorEq, frzLoc, rowCells, vAppM, beq_iff_eq, bne_iff_ne, bne_self_eq_false, beq_self_eq_true, beq_true, beq_false, I, B, w, vf184_res, vf184_keep, h1, h2, gt_iff_lt]))))
    · (repeat (first
    | refine RX_seq ?_
    | refine RX_block ?_
    | ((first | refine RX_reg ?_ | refine RX_cond' ?_ | refine RX_draw0 ?_ | refine RX_draw rfl ?_ | refine RX_skip ?_ | refine RX_gfrz ?_ | refine RX_exit ?_ | refine RX_ret ?_); try (simp only [go_sem, Nat.max_zero, List.isEmpty_cons, Int.reduceToNat, Nat.reducePow, Int.reduceEq, Int.reduceNe, Int.reduceLT, Int.reduceLE, Nat.reduceAdd, Nat.reduceLeDiff, ↓reduceIte, Nat.reduceLT, Nat.reduceMul, Nat.reduceSub, reduceCtorEq, frzLoc, rowCells, vAppM, beq_iff_eq, bne_iff_ne, bne_self_eq_false, beq_self_eq_true, beq_true, beq_false, I, B, w, vf184_res, vf184_keep, h1, h2, gt_iff_lt]))))
      refine RX_loop ?_
      refine RL_head ?_
      (simp only [go_sem, Nat.max_zero, List.isEmpty_cons, Int.reduceToNat, Nat.reducePow, Int.reduceEq, Int.reduceNe, Int.reduceLT, Int.reduceLE, Nat.reduceAdd, Nat.reduceLeDiff, ↓reduceIte, Nat.reduceLT, Nat.reduceMul, Nat.reduceSub, reduceCtorEq, frzLoc, rowCells, vAppM, beq_iff_eq, bne_iff_ne, bne_self_eq_false, beq_self_eq_true, beq_true, beq_false, I, B, w, St.head, forget, vf184K0, RLK_some])
      unfold vf184L0
      (repeat (first
    | refine RX_seq ?_
    | refine RX_block ?_
    | ((first | refine RX_reg ?_ | refine RX_cond' ?_ | refine RX_draw0 ?_ | refine RX_draw rfl ?_ | refine RX_skip ?_ | refine RX_gfrz ?_ | refine RX_exit ?_ | refine RX_ret ?_); try (simp only [go_sem, Nat.max_zero, List.isEmpty_cons, Int.reduceToNat, Nat.reducePow, Int.reduceEq, Int.reduceNe, Int.reduceLT, Int.reduceLE, Nat.reduceAdd, Nat.reduceLeDiff, ↓reduceIte, Nat.reduceLT, Nat.reduceMul, Nat.reduceSub, reduceCtorEq, frzLoc, rowCells, vAppM, beq_iff_eq, bne_iff_ne, bne_self_eq_false, beq_self_eq_true, beq_true, beq_false, I, B, w, vf184_res, vf184_keep, h1, h2]))))
theorem e104n (a b : Int) : CV VP 154 [.agg [.d (I 2), .d (I a), .d (.sl [])], .agg [.d (I 2), .d (I b), .d (.sl [])]] [] = some ⟨.d (B (decide (a < b))), [], [], 0⟩ := by
  have h := e121n a b
  refine CV_run (vf := vf154) rfl rfl ?_
  rw [vf154_start]
  by_cases h1 : a < b
  · rw [if_pos h1] at h
    (repeat (first
    | refine RX_seq ?_
    | refine RX_block ?_
    | ((first | refine RX_reg ?_ | refine RX_cond' ?_ | refine RX_draw0 ?_ | refine RX_draw rfl ?_ | refine RX_skip ?_ | refine RX_gfrz ?_ | refine RX_exit ?_ | refine RX_ret ?_); try (simp only [go_sem, Nat.max_zero, List.isEmpty_cons, Int.reduceToNat, Nat.reducePow, Int.reduceEq, Int.reduceNe, Int.reduceLT, Int.reduceLE, Nat.reduceAdd, Nat.reduceLeDiff, ↓reduceIte, Nat.reduceLT, Nat.reduceMul, Nat.reduceSub, reduceCtorEq, frzLoc, rowCells, vAppM, beq_iff_eq, bne_iff_ne, bne_self_eq_false, beq_self_eq_true, beq_true, beq_false, I, B, w, vf154_res, vf154_keep, h, h1]))))
  · rw [if_neg h1] at h
    by_cases h2 : b < a
    · rw [if_pos h2] at h
      (repeat (first
    | refine RX_seq ?_
    | refine RX_block ?_
    | ((first | refine RX_reg ?_ | refine RX_cond' ?_ | refine RX_draw0 ?_ | refine RX_draw rfl ?_ | refine RX_skip ?_ | refine RX_gfrz ?_ | refine RX_exit ?_ | refine RX_ret ?_); try (simp only [go_sem, Nat.max_zero, List.isEmpty_cons, Int.reduceToNat, Nat.reducePow, Int.reduceEq, Int.reduceNe, Int.reduceLT, Int.reduceLE, Nat.reduceAdd, Nat.reduceLeDiff, ↓reduceIte, Nat.reduceLT, Nat.reduceMul, Nat.reduceSub, reduceCtorEq, frzLoc, rowCells, vAppM, beq_iff_eq, bne_iff_ne, bne_self_eq_false, beq_self_eq_true, beq_true, beq_false, I, B, w, vf154_res, vf154_keep, h, h1]))))
    · rw [if_neg h2] at h
      (repeat (first
    | refine RX_seq ?_
    | refine RX_block ?_
    | ((first | refine RX_reg ?_ | refine RX_cond' ?_ | refine RX_draw0 ?_ | refine RX_draw rfl ?_ | refine RX_skip ?_ | refine RX_gfrz ?_ | refine RX_exit ?_ | refine RX_ret ?_); try (simp only [go_sem, Nat.max_zero, List.isEmpty_cons, Int.reduceToNat, Nat.reducePow, Int.reduceEq, Int.reduceNe, Int.reduceLT, Int.reduceLE, Nat.reduceAdd, Nat.reduceLeDiff, ↓reduceIte, Nat.reduceLT, Nat.reduceMul, Nat.reduceSub, reduceCtorEq, frzLoc, rowCells, vAppM, beq_iff_eq, bne_iff_ne, bne_self_eq_false, beq_self_eq_true, beq_true, beq_false, I, B, w, vf154_res, vf154_keep, h, h1]))))
theorem e78n (a b : Int) : CV VP 88 [.agg [.d (I 4), .d (I 0), .d (.sl [[I 2, I a, .sl []]])], .agg [.d (I 2), .d (I b), .d (.sl [])]] [] =
    some ⟨.tup [.agg [.d (I 5), .d (I 0), .d (.sl [[I 2, I (min a b), .sl []], [I 2, I (max a b), .sl []]])], .d (B true)], [], [], 0⟩ := by
  have h := e104n b a
  refine CV_run (vf := vf88) rfl rfl ?_
  rw [vf88_start]
  by_cases h1 : b < a
  · have m1 : min a b = b := by omega
    have m2 : max a b = a := by omega
    rw [m1, m2]
    (repeat (first
    | refine RX_seq ?_
    | refine RX_block ?_
    | ((first | refine RX_reg ?_ | refine RX_cond' ?_ | refine RX_draw0 ?_ | refine RX_draw rfl ?_ | refine RX_skip ?_ | refine RX_gfrz ?_ | refine RX_exit ?_ | refine RX_ret ?_); try (simp only [go_sem, Nat.max_zero, List.isEmpty_cons, Int.reduceToNat, Nat.reducePow, Int.reduceEq, Int.reduceNe, Int.reduceLT, Int.reduceLE, Nat.reduceAdd, Nat.reduceLeDiff, ↓reduceIte, Nat.reduceLT, Nat.reduceMul, Nat.reduceSub, reduceCtorEq, frzLoc, rowCells, vAppM, beq_iff_eq, bne_iff_ne, bne_self_eq_false, beq_self_eq_true, beq_true, beq_false, I, B, w, vf88_res, vf88_keep, h, h1]))))
  · have m1 : min a b = a := by omega
    have m2 : max a b = b := by omega
    rw [m1, m2]
    (repeat (first
    | refine RX_seq ?_
    | refine RX_block ?_
    | ((first | refine RX_reg ?_ | refine RX_cond' ?_ | refine RX_draw0 ?_ | refine RX_draw rfl ?_ | refine RX_skip ?_ | refine RX_gfrz ?_ | refine RX_exit ?_ | refine RX_ret ?_); try (simp only [go_sem, Nat.max_zero, List.isEmpty_cons, Int.reduceToNat, Nat.reducePow, Int.reduceEq, Int.reduceNe, Int.reduceLT, Int.reduceLE, Nat.reduceAdd, Nat.reduceLeDiff, ↓reduceIte, Nat.reduceLT, Nat.reduceMul, Nat.reduceSub, reduceCtorEq, frzLoc, rowCells, vAppM, beq_iff_eq, bne_iff_ne, bne_self_eq_false, beq_self_eq_true, beq_true, beq_false, I, B, w, vf88_res, vf88_keep, h, h1]))))
end Go.Proofs.Ytgiciiknagelhaa
namespace Go.Proofs.Ytgiciiknagelhaa
open Go.VM
def nmV (l : List Int) (k : Nat) : Int := nxV l k 3 * 1048576 + (1 + nxV l (nxA l k) 5)
theorem e68b {l : List Int} (hB : Bytes l) (id k : Nat) : ∀ bl, CtxOk bl id →
    CV VP 85 [.ptr id 0] (cx bl id l (k : Nat) []) = some ⟨.agg [.d (I 2), .d (I (nmV l k)), .d (.sl [])], cx bl id l (nxA l (nxA l k) : Nat) [], [], 0⟩ := by
  intro bl h
  have c3 : ∀ (k : Nat) (own : List (List V)), own.map V.erL = own → own.all (V.ltbL (bl.length + own.length)) = true → CV VP 37 [.ptr id 0, .d (I 3)] (cx bl id l (k : Nat) own) = some ⟨.d (I (nxV l k 3)), cx bl id l (nxA l k : Nat) own, [], 0⟩ := fun k own => e29 hB h (by decide) (by decide)
  have c5 : ∀ (k : Nat) (own : List (List V)), own.map V.erL = own → own.all (V.ltbL (bl.length + own.length)) = true → CV VP 37 [.ptr id 0, .d (I 5)] (cx bl id l (k : Nat) own) = some ⟨.d (I (nxV l k 5)), cx bl id l (nxA l k : Nat) own, [], 0⟩ := fun k own => e29 hB h (by decide) (by decide)
  have r1 := nxV_range hB (k := k) (n := 3) (by decide)
  have r2 := nxV_range hB (k := nxA l k) (n := 5) (by decide)
  have w1 : IntKind.i64.wrap (1 + nxV l (nxA l k) 5) = 1 + nxV l (nxA l k) 5 := w_in (by omega) (by omega)
  have w2 : IntKind.i64.wrap (nxV l k 3 * 1048576) = nxV l k 3 * 1048576 := w_in (by omega) (by omega)
  have w3 : IntKind.i64.wrap (nxV l k 3 * 1048576 + (1 + nxV l (nxA l k) 5)) = nmV l k := w_in (by omega) (by omega)
  refine CV_run (vf := vf85) rfl rfl ?_
  rw [vf85_start]
  (repeat (first
    | refine RX_seq ?_
    | refine RX_block ?_
    | ((first | refine RX_reg ?_ | refine RX_cond' ?_ | refine RX_draw0 ?_ | refine RX_draw rfl ?_ | refine RX_skip ?_ | refine RX_gfrz ?_ | refine RX_exit ?_ | refine RX_ret ?_); try (simp only [go_sem, Nat.max_zero, List.isEmpty_cons, Int.reduceToNat, Nat.reducePow, Int.reduceEq, Int.reduceNe, Int.reduceLT, Int.reduceLE, Nat.reduceAdd, Nat.reduceLeDiff, ↓reduceIte, Nat.reduceLT, Nat.reduceMul, Nat.reduceSub, reduceCtorEq, frzLoc, rowCells, vAppM, beq_iff_eq, bne_iff_ne, bne_self_eq_false, beq_self_eq_true, beq_true, beq_false, I, B, w, vf85_res, vf85_keep, cx_len, cx_app, cx_own0, cx_own, cx_setOwn0, cx_setOwn, cx_take, cx_takeN, Nat.add_right_cancel_iff, Nat.lt_irrefl, cx_nlt, Nat.not_lt_zero, cx_get' h, cx_setId' h, cx_er h, cx_all0 h, cx_all h, CtxOk.lt h, CtxOk.ne0 h, c3, c5, e70, w1, w2, w3, Nat.not_lt_zero]))))
end Go.Proofs.Ytgiciiknagelhaa
namespace Go.Proofs.Ytgiciiknagelhaa
open Go.VM
def leafO (l : List Int) (k : Nat) : Int := if nxV l k 12 % 4 = 0 then 1 else if nxV l k 12 % 4 = 3 then 9 else 2
def leafV (l : List Int) (k : Nat) : Int := if nxV l k 12 % 4 = 0 then nxV l (nxA l k) 6 else if nxV l k 12 % 4 = 3 then nxV l (nxA l k) 3 else nmV l (nxA l k)
def leafA (l : List Int) (k : Nat) : Nat := if nxV l k 12 % 4 = 0 then nxA l (nxA l k) else if nxV l k 12 % 4 = 3 then nxA l (nxA l k) else nxA l (nxA l (nxA l k))
theorem e32_1b {l : List Int} (hB : Bytes l) (id k : Nat) : ∀ bl, CtxOk bl id →
    CV VP 29 [.ptr id 0, .d (I 1)] (cx bl id l (k : Nat) []) = some ⟨.agg [.d (I (leafO l k)), .d (I (leafV l k)), .d (.sl [])], cx bl id l (leafA l k : Nat) [], [], 0⟩ := by
  intro bl h
  have cN : ∀ (n : Int), 0 < n → n ≤ 256 → ∀ (k : Nat) (own : List (List V)), own.map V.erL = own → own.all (V.ltbL (bl.length + own.length)) = true → CV VP 37 [.ptr id 0, .d (I n)] (cx bl id l (k : Nat) own) = some ⟨.d (I (nxV l k n)), cx bl id l (nxA l k : Nat) own, [], 0⟩ := fun n h1 h2 k own => e29 hB h h1 h2
  have c12 := cN 12 (by decide) (by decide)
  have c6 := cN 6 (by decide) (by decide)
  have c3 := cN 3 (by decide) (by decide)
  have cM : ∀ (k : Nat) (own : List (List V)), own.map V.erL = own → own.all (V.ltbL (bl.length + own.length)) = true → CV VP 85 [.ptr id 0] (cx bl id l (k : Nat) own) = some ⟨.agg [.d (I 2), .d (I (nmV l k)), .d (.sl [])], cx bl id l (nxA l (nxA l k) : Nat) own, [], 0⟩ := fun k own => cx_lift (e68b hB id k) h
  have r := nxV_range hB (k := k) (n := 12) (by decide)
  have hv : nxV l k 12 = 0 ∨ nxV l k 12 = 1 ∨ nxV l k 12 = 2 ∨ nxV l k 12 = 3 ∨ nxV l k 12 = 4 ∨ nxV l k 12 = 5 ∨ nxV l k 12 = 6 ∨ nxV l k 12 = 7 ∨ nxV l k 12 = 8 ∨ nxV l k 12 = 9 ∨ nxV l k 12 = 10 ∨ nxV l k 12 = 11 := by omega
  clear r cN
  refine CV_run (vf := vf29) rfl rfl ?_
  rw [vf29_start]
  rcases hv with hv | hv | hv | hv | hv | hv | hv | hv | hv | hv | hv | hv <;>
  · simp only [leafO, leafV, leafA, hv, Int.reduceMod, Int.reduceEq, if_true, if_false]
    (repeat (first
    | refine RX_seq ?_
    | refine RX_block ?_
    | ((first | refine RX_reg ?_ | refine RX_cond' ?_ | refine RX_draw0 ?_ | refine RX_draw rfl ?_ | refine RX_skip ?_ | refine RX_gfrz ?_ | refine RX_exit ?_ | refine RX_ret ?_); try (simp only [go_sem, Nat.max_zero, List.isEmpty_cons, Int.reduceToNat, Nat.reducePow, Int.reduceEq, Int.reduceNe, Int.reduceLT, Int.reduceLE, Nat.reduceAdd, Nat.reduceLeDiff, ↓reduceIte, Nat.reduceLT, Nat.reduceMul, Nat.reduceSub, reduceCtorEq, frzLoc, rowCells, vAppM, beq_iff_eq, bne_iff_ne, bne_self_eq_false, beq_self_eq_true, beq_true, beq_false, I, B, w, vf29_res, vf29_keep, cx_len, cx_app, cx_own0, cx_own, cx_setOwn0, cx_setOwn, cx_take, cx_takeN, Nat.add_right_cancel_iff, Nat.lt_irrefl, cx_nlt, Nat.not_lt_zero, cx_get' h, cx_setId' h, cx_er h, cx_all0 h, cx_all h, CtxOk.lt h, CtxOk.ne0 h, c12, c6, c3, cM, hv, e76, gt_iff_lt, Int.reduceTMod]))))
end Go.Proofs.Ytgiciiknagelhaa
namespace Go.Proofs.Ytgiciiknagelhaa
open Go.VM
inductive Tm where
  | mk (op v : Int) (args : List Tm)
mutual
def Tm.row : Tm → List D
  | .mk op v args => [I op, I v, .sl (Tm.rows args)]
def Tm.rows : List Tm → List (List D)
  | [] => []
  | t :: ts => t.row :: Tm.rows ts
end
mutual
def Tm.small : Tm → Prop
  | .mk _ _ args => args.length < 1099511627776 ∧ Tm.smalls args
def Tm.smalls : List Tm → Prop
  | [] => True
  | t :: ts => t.small ∧ Tm.smalls ts
end
theorem Tm.rows_eq : ∀ ts : List Tm, Tm.rows ts = ts.map Tm.row
  | [] => rfl
  | t :: ts => by rw [Tm.rows, Tm.rows_eq ts]; rfl
theorem Tm.smalls_mem : ∀ {ts : List Tm} {t : Tm}, Tm.smalls ts → t ∈ ts → t.small
  | t :: ts, u, h, hu => by
    rcases List.mem_cons.1 hu with rfl | hu
    · exact h.1
    · exact Tm.smalls_mem h.2 hu
end Go.Proofs.Ytgiciiknagelhaa
namespace Go.Proofs.Ytgiciiknagelhaa
open Go.VM
end Go.Proofs.Ytgiciiknagelhaa
namespace Go.Proofs.Ytgiciiknagelhaa
open Go.VM
def Tm.op : Tm → Int | .mk a _ _ => a
def Tm.val : Tm → Int | .mk _ b _ => b
def Tm.args : Tm → List Tm | .mk _ _ c => c
theorem Tm.op_mk (a b : Int) (c : List Tm) : (Tm.mk a b c).op = a := rfl
theorem Tm.val_mk (a b : Int) (c : List Tm) : (Tm.mk a b c).val = b := rfl
theorem Tm.args_mk (a b : Int) (c : List Tm) : (Tm.mk a b c).args = c := rfl
theorem Tm.row_eq (t : Tm) : t.row = [I t.op, I t.val, .sl (t.args.map Tm.row)] := by cases t; rw [Tm.row, Tm.rows_eq]; rfl
theorem Tm.row_mk (a b : Int) (c : List Tm) : (Tm.mk a b c).row = [I a, I b, .sl (c.map Tm.row)] := by rw [Tm.row, Tm.rows_eq]
abbrev Tm.ag (t : Tm) : V := .agg [.d (I t.op), .d (I t.val), .d (.sl (t.args.map Tm.row))]
theorem Tm.rows3 (ts : List Tm) (h : ts.length ≤ 4294967296) : Rows3 (ts.map Tm.row) :=
  ⟨by simpa using h, by rw [List.all_eq_true]; intro r hr; obtain ⟨t, _, rfl⟩ := List.mem_map.1 hr; rw [Tm.row_eq]; rfl⟩
def nmT (l : List Int) (k : Nat) : Tm := .mk 2 (nmV l k) []
def nmA (l : List Int) (k : Nat) : Nat := nxA l (nxA l k)
def drT (l : List Int) : Nat → Nat → Tm × Nat
  | 0, k => (.mk (leafO l k) (leafV l k) [], leafA l k)
  | d + 1, k =>
    if nxV l k 12 ≤ 3 then (.mk (leafO l k) (leafV l k) [], leafA l k)
    else if nxV l k 12 ≤ 5 then (.mk 3 0 (drL (drT l d) (nxV l (nxA l k) 4).toNat (nxA l (nxA l k))).1, (drL (drT l d) (nxV l (nxA l k) 4).toNat (nxA l (nxA l k))).2)
    else if nxV l k 12 = 6 then (.mk 4 0 [nmT l (nxA l k)], nmA l (nxA l k))
    else if nxV l k 12 = 7 then (.mk 5 0 [.mk 2 (min (nmV l (nxA l k)) (nmV l (nmA l (nxA l k)))) [], .mk 2 (max (nmV l (nxA l k)) (nmV l (nmA l (nxA l k)))) []], nmA l (nmA l (nxA l k)))
    else if nxV l k 12 = 8 then (.mk 6 (1 + nxV l (nxA l k) 9) [(drT l d (nxA l (nxA l k))).1], (drT l d (nxA l (nxA l k))).2)
    else if nxV l k 12 ≤ 10 then (.mk 7 0 [(drT l d (nxA l k)).1, (drT l d (drT l d (nxA l k)).2).1], (drT l d (drT l d (nxA l k)).2).2)
    else (.mk 8 (nxV l (nxA l k) 3) [(drT l d (nxA l (nxA l k))).1], (drT l d (nxA l (nxA l k))).2)
theorem drL_small {f : Nat → Tm × Nat} (hf : ∀ k, (f k).1.small) : ∀ n k, Tm.smalls (drL f n k).1
  | 0, _ => trivial
  | n + 1, k => ⟨hf k, drL_small hf n _⟩
theorem drT_small {l : List Int} (hB : Bytes l) : ∀ d k, (drT l d k).1.small
  | 0, k => ⟨by simp [List.length_cons], trivial⟩
  | d + 1, k => by
    have ih := drT_small hB d
    rw [drT]
    split
    · exact ⟨by simp [List.length_cons], trivial⟩
    split
    · refine ⟨?_, drL_small ih _ _⟩
      rw [drL_len]
      have := nxV_range hB (k := nxA l k) (n := 4) (by decide)
      omega
    split
    · exact ⟨by simp [List.length_cons], ⟨by simp [List.length_cons], trivial⟩, trivial⟩
    split
    · exact ⟨by simp [List.length_cons], ⟨by simp [List.length_cons], trivial⟩, ⟨by simp [List.length_cons], trivial⟩, trivial⟩
    split
    · exact ⟨by simp [List.length_cons], ih _, trivial⟩
    split
    · exact ⟨by simp [List.length_cons], ih _, ih _, trivial⟩
    · exact ⟨by simp [List.length_cons], ih _, trivial⟩
end Go.Proofs.Ytgiciiknagelhaa
namespace Go.Proofs.Ytgiciiknagelhaa
open Go.VM
theorem L32 {l : List Int} {d id n bs : Nat} {bl : List (List V)} {dv : Int} {own : List (List V)} {Q : VExit → St → Prop} (h : CtxOk bl id) (hbs : (bs = 0) = False) (ho : own = [[.d (I 0), .d (I 0), .d (.sl [])]]) (hn : n = bl.length + 1) (hdv : IntKind.i64.wrap (dv - 1) = ((d + 1 : Nat) : Int))
    (cT : ∀ (k : Nat) (own : List (List V)), own.map V.erL = own → own.all (V.ltbL (bl.length + own.length)) = true → CV VP 29 [.ptr id 0, .d (I ((d + 1 : Nat) : Int))] (cx bl id l (k : Nat) own) = some ⟨(drT l d k).1.ag, cx bl id l ((drT l d k).2 : Nat) own, [], 0⟩) :
    ∀ (m k : Nat) (rows : List (List D)) (v : V) (live : List Nat) (gn : Nat), Acc 3 v live rows → rows.length + m < 1000 →
      (∀ v live gn, Acc 3 v live (rows ++ (drL (drT l d) m k).1.map Tm.row) → Q (.exit 1) ⟨(.ptr id 0 :: .d (I dv) :: .any :: .any :: .ptr bl.length 0 :: .any :: v :: .d (I 0) :: .any :: .any :: .any :: .any :: .any :: .any :: .any :: .any :: .any :: .any :: .any :: .any :: .any :: .any :: .any :: .any :: .any :: .any :: .any :: .any :: .any :: .any :: .any :: .any :: .any :: .any :: .any :: .any :: .any :: .any :: .any :: .any :: .any :: .d (I 0) :: .d (B false) :: .any :: .any :: .any :: .any :: .any :: .any :: .any :: .any :: .any :: .any :: .any :: .any :: .any :: .any :: .any :: .any :: .any :: .any :: .any :: .any :: .any :: .any :: .any :: .any :: .any :: .any :: .any :: .any :: .any :: .any :: .any :: .any :: .any :: .any :: .any :: .any :: .any :: .any :: .any :: .any :: .any :: .any :: .any :: .any :: .any :: .any :: .any :: .any :: .any :: .any :: .any :: .any :: .any :: .any :: .any :: .any :: .any :: .any :: []), cx bl id l ((drL (drT l d) m k).2 : Nat) own, live, gn, bs, 0⟩) →
      RX VP vf29L0 ⟨(.ptr id 0 :: .d (I dv) :: .any :: .any :: .ptr bl.length 0 :: .any :: v :: .d (I (m : Nat)) :: .any :: .any :: .any :: .any :: .any :: .any :: .any :: .any :: .any :: .any :: .any :: .any :: .any :: .any :: .any :: .any :: .any :: .any :: .any :: .any :: .any :: .any :: .any :: .any :: .any :: .any :: .any :: .any :: .any :: .any :: .any :: .any :: .any :: .any :: .any :: .any :: .any :: .any :: .any :: .any :: .any :: .any :: .any :: .any :: .any :: .any :: .any :: .any :: .any :: .any :: .any :: .any :: .any :: .any :: .any :: .any :: .any :: .any :: .any :: .any :: .any :: .any :: .any :: .any :: .any :: .any :: .any :: .any :: .any :: .any :: .any :: .any :: .any :: .any :: .any :: .any :: .any :: .any :: .any :: .any :: .any :: .any :: .any :: .any :: .any :: .any :: .any :: .any :: .any :: .any :: .any :: .any :: .any :: []), cx bl id l (k : Nat) own, live, gn, bs, 0⟩ (again VP vf29K0 vf29L0 n Q) := by
  subst ho
  subst hn
  have hid : id < bl.length + 1 := Nat.lt_succ_of_lt h.lt
  have hb1 : bl.length < bl.length + 1 := Nat.lt_succ_self _
  intro m
  induction m with
  | zero =>
    intro k rows v live gn hv hl hQ
    refine vf29L0_go ?_
    simp only [drL, List.map_nil, List.append_nil] at hQ
    (repeat (first
    | refine RX_seq ?_
    | refine RX_block ?_
    | ((first | refine RX_reg ?_ | refine RX_cond' ?_ | refine RX_draw0 ?_ | refine RX_draw rfl ?_ | refine RX_skip ?_ | refine RX_gfrz ?_ | refine RX_exit ?_ | refine RX_ret ?_); try (simp only [go_sem, Nat.max_zero, List.isEmpty_cons, Int.reduceToNat, Nat.reducePow, Int.reduceEq, Int.reduceNe, Int.reduceLT, Int.reduceLE, Nat.reduceAdd, Nat.reduceLeDiff, ↓reduceIte, Nat.reduceLT, Nat.reduceMul, Nat.reduceSub, reduceCtorEq, frzLoc, rowCells, vAppM, beq_iff_eq, bne_iff_ne, bne_self_eq_false, beq_self_eq_true, beq_true, beq_false, I, B, w, vf29_res, vf29_keep, gt_iff_lt]))))
    exact hQ _ _ _ hv
  | succ m ih =>
    intro k rows v live gn hv hl hQ
    have hm : (0 : Int) < ((m + 1 : Nat) : Int) := by omega
    have hwm : IntKind.i64.wrap (((m + 1 : Nat) : Int) - 1) = (m : Int) := by rw [w_in (by omega) (by omega)]; omega
    have hrl : rows.length + 1 ≤ 4294967296 := by omega
    have hrl2 : rows.length + 1 ≤ appBound := by unfold appBound; omega
    have hrow : Tm.row (drT l d k).1 = [I (drT l d k).1.op, I (drT l d k).1.val, .sl ((drT l d k).1.args.map Tm.row)] := Tm.row_eq _
    rcases hv with ⟨rfl, rfl, rfl⟩ | ⟨g, rfl, rfl⟩
    · refine vf29L0_go ?_
      (repeat (first
    | refine RX_seq ?_
    | refine RX_block ?_
    | ((first | refine RX_reg ?_ | refine RX_cond' ?_ | refine RX_draw0 ?_ | refine RX_draw rfl ?_ | refine RX_skip ?_ | refine RX_gfrz ?_ | refine RX_exit ?_ | refine RX_ret ?_); try (simp only [go_sem, Nat.max_zero, List.isEmpty_cons, Int.reduceToNat, Nat.reducePow, Int.reduceEq, Int.reduceNe, Int.reduceLT, Int.reduceLE, Nat.reduceAdd, Nat.reduceLeDiff, ↓reduceIte, Nat.reduceLT, Nat.reduceMul, Nat.reduceSub, reduceCtorEq, frzLoc, rowCells, vAppM, beq_iff_eq, bne_iff_ne, bne_self_eq_false, beq_self_eq_true, beq_true, beq_false, I, B, w, cx_len, cx_app, cx_own0, cx_own, cx_setOwn0, cx_setOwn, cx_take, cx_takeN, Nat.add_right_cancel_iff, Nat.lt_irrefl, cx_nlt, Nat.not_lt_zero, cx_get' h, cx_setId' h, cx_er h, cx_all0 h, cx_all h, CtxOk.lt h, CtxOk.ne0 h, vf29_res, vf29_keep, gt_iff_lt, hm, hwm, hdv, cT, hid, hb1, hbs]))))
      refine RL_head ?_
      (simp only [go_sem, Nat.max_zero, List.isEmpty_cons, Int.reduceToNat, Nat.reducePow, Int.reduceEq, Int.reduceNe, Int.reduceLT, Int.reduceLE, Nat.reduceAdd, Nat.reduceLeDiff, ↓reduceIte, Nat.reduceLT, Nat.reduceMul, Nat.reduceSub, reduceCtorEq, frzLoc, rowCells, vAppM, beq_iff_eq, bne_iff_ne, bne_self_eq_false, beq_self_eq_true, beq_true, beq_false, I, B, w, St.head, forget, vf29K0, RLK_some, cx_len, cx_app, cx_own0, cx_own, cx_setOwn0, cx_setOwn, cx_take, cx_takeN, Nat.add_right_cancel_iff, Nat.lt_irrefl, cx_nlt, Nat.not_lt_zero, cx_get' h, cx_setId' h, cx_er h, cx_all0 h, cx_all h, CtxOk.lt h, CtxOk.ne0 h, hid, hb1])
      refine ih (drT l d k).2 [[I (drT l d k).1.op, I (drT l d k).1.val, .sl ((drT l d k).1.args.map Tm.row)]] (.sl 3 [[I (drT l d k).1.op, I (drT l d k).1.val, .sl ((drT l d k).1.args.map Tm.row)]] (.own 0 gn)) [gn] (gn + 1) (.inr ⟨_, rfl, rfl⟩) (by simp; omega) fun v live gn hv => ?_
      refine hQ v live gn ?_
      simp only [drL, List.map_cons, hrow]
      exact hv
    · refine vf29L0_go ?_
      (repeat (first
    | refine RX_seq ?_
    | refine RX_block ?_
    | ((first | refine RX_reg ?_ | refine RX_cond' ?_ | refine RX_draw0 ?_ | refine RX_draw rfl ?_ | refine RX_skip ?_ | refine RX_gfrz ?_ | refine RX_exit ?_ | refine RX_ret ?_); try (simp only [go_sem, Nat.max_zero, List.isEmpty_cons, Int.reduceToNat, Nat.reducePow, Int.reduceEq, Int.reduceNe, Int.reduceLT, Int.reduceLE, Nat.reduceAdd, Nat.reduceLeDiff, ↓reduceIte, Nat.reduceLT, Nat.reduceMul, Nat.reduceSub, reduceCtorEq, frzLoc, rowCells, vAppM, beq_iff_eq, bne_iff_ne, bne_self_eq_false, beq_self_eq_true, beq_true, beq_false, I, B, w, cx_len, cx_app, cx_own0, cx_own, cx_setOwn0, cx_setOwn, cx_take, cx_takeN, Nat.add_right_cancel_iff, Nat.lt_irrefl, cx_nlt, Nat.not_lt_zero, cx_get' h, cx_setId' h, cx_er h, cx_all0 h, cx_all h, CtxOk.lt h, CtxOk.ne0 h, vf29_res, vf29_keep, gt_iff_lt, hm, hwm, hdv, cT, hid, hb1, hbs, hrl]))))
      refine RL_head ?_
      (simp only [go_sem, Nat.max_zero, List.isEmpty_cons, Int.reduceToNat, Nat.reducePow, Int.reduceEq, Int.reduceNe, Int.reduceLT, Int.reduceLE, Nat.reduceAdd, Nat.reduceLeDiff, ↓reduceIte, Nat.reduceLT, Nat.reduceMul, Nat.reduceSub, reduceCtorEq, frzLoc, rowCells, vAppM, beq_iff_eq, bne_iff_ne, bne_self_eq_false, beq_self_eq_true, beq_true, beq_false, I, B, w, St.head, forget, vf29K0, RLK_some, cx_len, cx_app, cx_own0, cx_own, cx_setOwn0, cx_setOwn, cx_take, cx_takeN, Nat.add_right_cancel_iff, Nat.lt_irrefl, cx_nlt, Nat.not_lt_zero, cx_get' h, cx_setId' h, cx_er h, cx_all0 h, cx_all h, CtxOk.lt h, CtxOk.ne0 h, hid, hb1])
      refine ih (drT l d k).2 (rows ++ [[I (drT l d k).1.op, I (drT l d k).1.val, .sl ((drT l d k).1.args.map Tm.row)]]) (.sl 3 (rows ++ [[I (drT l d k).1.op, I (drT l d k).1.val, .sl ((drT l d k).1.args.map Tm.row)]]) (.own 0 gn)) [gn] (gn + 1) (.inr ⟨_, rfl, rfl⟩) (by simp; omega) fun v live gn hv => ?_
      refine hQ v live gn ?_
      simp only [drL, List.map_cons, hrow]
      simpa using hv
end Go.Proofs.Ytgiciiknagelhaa
namespace Go.Proofs.Ytgiciiknagelhaa
open Go.VM
set_option maxHeartbeats 2000000 in
theorem e32b {l : List Int} (hB : Bytes l) : ∀ (d : Nat), d < 100 → ∀ (id k : Nat) bl, CtxOk bl id →
    CV VP 29 [.ptr id 0, .d (I ((d + 1 : Nat) : Int))] (cx bl id l (k : Nat) []) = some ⟨(drT l d k).1.ag, cx bl id l ((drT l d k).2 : Nat) [], [], 0⟩
  | 0, _, id, k, bl, h => e32_1b hB id k bl h
  | d + 1, hd, id, k, bl, h => by
    have ih := e32b hB d (by omega)
    have cN : ∀ (n : Int), 0 < n → n ≤ 256 → ∀ (k : Nat) (own : List (List V)), own.map V.erL = own → own.all (V.ltbL (bl.length + own.length)) = true → CV VP 37 [.ptr id 0, .d (I n)] (cx bl id l (k : Nat) own) = some ⟨.d (I (nxV l k n)), cx bl id l (nxA l k : Nat) own, [], 0⟩ := fun n h1 h2 k own => e29 hB h h1 h2
    have c12 := cN 12 (by decide) (by decide)
    have c9 := cN 9 (by decide) (by decide)
    have c6 := cN 6 (by decide) (by decide)
    have c4 := cN 4 (by decide) (by decide)
    have c3 := cN 3 (by decide) (by decide)
    have cM : ∀ (k : Nat) (own : List (List V)), own.map V.erL = own → own.all (V.ltbL (bl.length + own.length)) = true → CV VP 85 [.ptr id 0] (cx bl id l (k : Nat) own) = some ⟨.agg [.d (I 2), .d (I (nmV l k)), .d (.sl [])], cx bl id l (nmA l k : Nat) own, [], 0⟩ := fun k own => cx_lift (e68b hB id k) h
    have cT : ∀ (k : Nat) (own : List (List V)), own.map V.erL = own → own.all (V.ltbL (bl.length + own.length)) = true → CV VP 29 [.ptr id 0, .d (I ((d + 1 : Nat) : Int))] (cx bl id l (k : Nat) own) = some ⟨(drT l d k).1.ag, cx bl id l ((drT l d k).2 : Nat) own, [], 0⟩ := fun k own => cx_lift (ih id k) h
    have r := nxV_range hB (k := k) (n := 12) (by decide)
    have r9 := nxV_range hB (k := nxA l k) (n := 9) (by decide)
    have r4 := nxV_range hB (k := nxA l k) (n := 4) (by decide)
    have hv : nxV l k 12 = 0 ∨ nxV l k 12 = 1 ∨ nxV l k 12 = 2 ∨ nxV l k 12 = 3 ∨ (nxV l k 12 = 4 ∨ nxV l k 12 = 5) ∨ nxV l k 12 = 6 ∨ nxV l k 12 = 7 ∨ nxV l k 12 = 8 ∨ nxV l k 12 = 9 ∨ nxV l k 12 = 10 ∨ nxV l k 12 = 11 := by omega
    have hwd : IntKind.i64.wrap (((d + 1 + 1 : Nat) : Int) - 1) = ((d + 1 : Nat) : Int) := by rw [w_in (by omega) (by omega)]; omega
    have hd1 : ¬ (((d + 1 + 1 : Nat) : Int) ≤ 1) := by omega
    have w9 : IntKind.i64.wrap (1 + nxV l (nxA l k) 9) = 1 + nxV l (nxA l k) 9 := w_in (by omega) (by omega)
    have hid : id < bl.length + 1 := Nat.lt_succ_of_lt h.lt
    have hb1 : bl.length < bl.length + 1 := Nat.lt_succ_self _
    have hr1 : ∀ a b c, Rows3 [[a, b, c]] := fun a b c => ⟨by simp, rfl⟩
    clear r cN ih
    refine CV_run (vf := vf29) rfl rfl ?_
    rw [vf29_start]
    rcases hv with hv | hv | hv | hv | hv | hv | hv | hv | hv | hv | hv
    case inr.inr.inr.inr.inl =>
      obtain ⟨m, hm⟩ : ∃ m : Nat, nxV l (nxA l k) 4 = (m : Int) := ⟨_, (Int.toNat_of_nonneg r4.1).symm⟩
      have hm4 : m < 4 := by omega
      have hT : drT l (d + 1) k = (.mk 3 0 (drL (drT l d) m (nxA l (nxA l k))).1, (drL (drT l d) m (nxA l (nxA l k))).2) := by
        rw [drT, hm, Int.toNat_natCast, if_neg (by rcases hv with hv | hv <;> rw [hv] <;> decide), if_pos (by rcases hv with hv | hv <;> rw [hv] <;> decide)]
      rw [hT]
      have hrows := Tm.rows3 (drL (drT l d) m (nxA l (nxA l k))).1 (by rw [drL_len]; omega)
      rcases hv with hv | hv <;>
      · simp only [Tm.ag, Tm.op, Tm.val, Tm.args]
        (repeat (first
    | refine RX_seq ?_
    | refine RX_block ?_
    | ((first | refine RX_reg ?_ | refine RX_cond' ?_ | refine RX_draw0 ?_ | refine RX_draw rfl ?_ | refine RX_skip ?_ | refine RX_gfrz ?_ | refine RX_exit ?_ | refine RX_ret ?_); try (simp only [go_sem, Nat.max_zero, List.isEmpty_cons, Int.reduceToNat, Nat.reducePow, Int.reduceEq, Int.reduceNe, Int.reduceLT, Int.reduceLE, Nat.reduceAdd, Nat.reduceLeDiff, ↓reduceIte, Nat.reduceLT, Nat.reduceMul, Nat.reduceSub, reduceCtorEq, frzLoc, rowCells, vAppM, beq_iff_eq, bne_iff_ne, bne_self_eq_false, beq_self_eq_true, beq_true, beq_false, I, B, w, vf29_res, vf29_keep, cx_len, cx_app, cx_own0, cx_own, cx_setOwn0, cx_setOwn, cx_take, cx_takeN, Nat.add_right_cancel_iff, Nat.lt_irrefl, cx_nlt, Nat.not_lt_zero, cx_get' h, cx_setId' h, cx_er h, cx_all0 h, cx_all h, CtxOk.lt h, CtxOk.ne0 h, c12, hv, gt_iff_lt, hd1, c4, hm]))))
        refine RX_loop ?_
        refine RL_head ?_
        (simp only [go_sem, Nat.max_zero, List.isEmpty_cons, Int.reduceToNat, Nat.reducePow, Int.reduceEq, Int.reduceNe, Int.reduceLT, Int.reduceLE, Nat.reduceAdd, Nat.reduceLeDiff, ↓reduceIte, Nat.reduceLT, Nat.reduceMul, Nat.reduceSub, reduceCtorEq, frzLoc, rowCells, vAppM, beq_iff_eq, bne_iff_ne, bne_self_eq_false, beq_self_eq_true, beq_true, beq_false, I, B, w, St.head, forget, vf29K0, RLK_some, cx_len, cx_app, cx_own0, cx_own, cx_setOwn0, cx_setOwn, cx_take, cx_takeN, Nat.add_right_cancel_iff, Nat.lt_irrefl, cx_nlt, Nat.not_lt_zero, cx_get' h, cx_setId' h, cx_er h, cx_all0 h, cx_all h, CtxOk.lt h, CtxOk.ne0 h, hid, hb1])
        refine L32 h (CtxOk.ne0 h) rfl rfl hwd cT m _ [] .nil [] _ (.inl ⟨rfl, rfl, rfl⟩) (by simp; omega) fun v live gn hacc => ?_
        rcases hacc with ⟨rfl, rfl, hn⟩ | ⟨g, rfl, rfl⟩
        · rw [List.nil_append] at hn
          rw [hn] at hrows ⊢
          (repeat (first
    | refine RX_seq ?_
    | refine RX_block ?_
    | ((first | refine RX_reg ?_ | refine RX_cond' ?_ | refine RX_draw0 ?_ | refine RX_draw rfl ?_ | refine RX_skip ?_ | refine RX_gfrz ?_ | refine RX_exit ?_ | refine RX_ret ?_); try (simp only [go_sem, Nat.max_zero, List.isEmpty_cons, Int.reduceToNat, Nat.reducePow, Int.reduceEq, Int.reduceNe, Int.reduceLT, Int.reduceLE, Nat.reduceAdd, Nat.reduceLeDiff, ↓reduceIte, Nat.reduceLT, Nat.reduceMul, Nat.reduceSub, reduceCtorEq, frzLoc, rowCells, vAppM, beq_iff_eq, bne_iff_ne, bne_self_eq_false, beq_self_eq_true, beq_true, beq_false, I, B, w, vf29_res, vf29_keep, cx_len, cx_app, cx_own0, cx_own, cx_setOwn0, cx_setOwn, cx_take, cx_takeN, Nat.add_right_cancel_iff, Nat.lt_irrefl, cx_nlt, Nat.not_lt_zero, cx_get' h, cx_setId' h, cx_er h, cx_all0 h, cx_all h, CtxOk.lt h, CtxOk.ne0 h, e33 hrows]))))
        · (repeat (first
    | refine RX_seq ?_
    | refine RX_block ?_
    | ((first | refine RX_reg ?_ | refine RX_cond' ?_ | refine RX_draw0 ?_ | refine RX_draw rfl ?_ | refine RX_skip ?_ | refine RX_gfrz ?_ | refine RX_exit ?_ | refine RX_ret ?_); try (simp only [go_sem, Nat.max_zero, List.isEmpty_cons, Int.reduceToNat, Nat.reducePow, Int.reduceEq, Int.reduceNe, Int.reduceLT, Int.reduceLE, Nat.reduceAdd, Nat.reduceLeDiff, ↓reduceIte, Nat.reduceLT, Nat.reduceMul, Nat.reduceSub, reduceCtorEq, frzLoc, rowCells, vAppM, beq_iff_eq, bne_iff_ne, bne_self_eq_false, beq_self_eq_true, beq_true, beq_false, I, B, w, vf29_res, vf29_keep, cx_len, cx_app, cx_own0, cx_own, cx_setOwn0, cx_setOwn, cx_take, cx_takeN, Nat.add_right_cancel_iff, Nat.lt_irrefl, cx_nlt, Nat.not_lt_zero, cx_get' h, cx_setId' h, cx_er h, cx_all0 h, cx_all h, CtxOk.lt h, CtxOk.ne0 h, e33 hrows]))))
    all_goals
      simp only [drT, leafO, leafV, leafA, nmT, nmA, hv, Int.reduceMod, Int.reduceEq, Int.reduceLE, if_true, if_false, Tm.ag, Tm.op_mk, Tm.val_mk, Tm.args_mk, List.map_cons, List.map_nil, Tm.row_mk, Tm.row_eq (drT l d _).1]
      (repeat (first
    | refine RX_seq ?_
    | refine RX_block ?_
    | ((first | refine RX_reg ?_ | refine RX_cond' ?_ | refine RX_draw0 ?_ | refine RX_draw rfl ?_ | refine RX_skip ?_ | refine RX_gfrz ?_ | refine RX_exit ?_ | refine RX_ret ?_); try (simp only [go_sem, Nat.max_zero, List.isEmpty_cons, Int.reduceToNat, Nat.reducePow, Int.reduceEq, Int.reduceNe, Int.reduceLT, Int.reduceLE, Nat.reduceAdd, Nat.reduceLeDiff, ↓reduceIte, Nat.reduceLT, Nat.reduceMul, Nat.reduceSub, reduceCtorEq, frzLoc, rowCells, vAppM, beq_iff_eq, bne_iff_ne, bne_self_eq_false, beq_self_eq_true, beq_true, beq_false, I, B, w, vf29_res, vf29_keep, cx_len, cx_app, cx_own0, cx_own, cx_setOwn0, cx_setOwn, cx_take, cx_takeN, Nat.add_right_cancel_iff, Nat.lt_irrefl, cx_nlt, Nat.not_lt_zero, cx_get' h, cx_setId' h, cx_er h, cx_all0 h, cx_all h, CtxOk.lt h, CtxOk.ne0 h, c12, c9, c6, c4, c3, cM, cT, hv, e76, e77, e78n, e79 _ (hr1 _ _ _), e80, e57, gt_iff_lt, Int.reduceTMod, hd1, hwd, w9, hid, hb1, nmA]))))
end Go.Proofs.Ytgiciiknagelhaa
namespace Go.Proofs.Ytgiciiknagelhaa
open Go.VM
theorem toDs_map' : ∀ ds : List D, toDs (ds.map .d) = some ds
  | [] => rfl
  | d :: ds => by simp [toDs, V.toD, toDs_map' ds]
theorem impL_d (a b : Nat) : ∀ ds : List D, V.impL a b (ds.map .d) = ds.map .d
  | [] => rfl
  | d :: ds => by simp only [List.map_cons, V.impL, V.imp, impL_d a b ds]
theorem chunk_flat' {sz : Nat} : ∀ {ms : List (List D)}, (∀ r ∈ ms, r.length = sz) → chunk sz ms.length ms.flatten = ms
  | [], _ => rfl
  | r :: ms, h => by
    have hr := h r List.mem_cons_self
    subst hr
    rw [List.length_cons, chunk, List.flatten_cons, List.take_left, List.drop_left, chunk_flat' fun x hx => h x (List.mem_cons_of_mem _ hx)]
theorem frzRows {rows : List (List D)} (h : ∀ r ∈ rows, r.length = 3) : frzLoc (some (rowCells rows)) 0 rows.length 3 = .d (.sl rows) := by
  have hl := rowCells_len h
  simp only [frzLoc]
  rw [if_pos (by omega), List.drop_zero, List.take_of_length_le (by omega), rowCells, toDs_map']
  simp only
  rw [chunk_flat' h]
theorem e98 {r : List D} {rs : List (List D)} (h : Rows3 (r :: rs)) (hn : rs.length ≤ 1073741823) : CV VP 98 [.d (.sl (r :: rs))] [] = some ⟨.loc 0 0 (rs.length + 1) 3, [rowCells (r :: rs)], [], 0⟩ := by
  refine CV_run (vf := vf98) rfl rfl ?_
  rw [vf98_start]
  have h1 := h.1
  have h2 := h.2
  simp only [List.length_cons, List.all_cons] at h1 h2
  (repeat (first
    | refine RX_seq ?_
    | refine RX_block ?_
    | ((first | refine RX_reg ?_ | refine RX_cond' ?_ | refine RX_draw0 ?_ | refine RX_draw rfl ?_ | refine RX_skip ?_ | refine RX_gfrz ?_ | refine RX_exit ?_ | refine RX_ret ?_); try (simp only [go_sem, Nat.max_zero, List.isEmpty_cons, Int.reduceToNat, Nat.reducePow, Int.reduceEq, Int.reduceNe, Int.reduceLT, Int.reduceLE, Nat.reduceAdd, Nat.reduceLeDiff, ↓reduceIte, Nat.reduceLT, Nat.reduceMul, Nat.reduceSub, reduceCtorEq, frzLoc, rowCells, vAppM, beq_iff_eq, bne_iff_ne, bne_self_eq_false, beq_self_eq_true, beq_true, beq_false, I, B, w, vf98_res, vf98_keep, h1, h2, hn]))))
theorem e71 {r : D} {x y : D} {rs : List (List D)} (h : Rows3 ([r, x, y] :: rs)) (hn : rs.length ≤ 1073741822) : CV VP 35 [.d (.sl ([r, x, y] :: rs))] [] = some ⟨.agg [.d (I 3), .d (I 0), .d (.sl ([r, x, y] :: rs))], [], [], 0⟩ := by
  have h98 := e98 h (by omega)
  have hall : ∀ z ∈ [r, x, y] :: rs, z.length = 3 := by have := h.2; simpa using this
  have hf := frzRows hall
  rw [List.length_cons] at hf
  have hi : V.impL 0 1 (rowCells ([r, x, y] :: rs)) = rowCells ([r, x, y] :: rs) := impL_d 0 1 _
  generalize rowCells ([r, x, y] :: rs) = C at h98 hf hi
  refine CV_run (vf := vf35) rfl rfl ?_
  rw [vf35_start]
  (repeat (first
    | refine RX_seq ?_
    | refine RX_block ?_
    | ((first | refine RX_reg ?_ | refine RX_cond' ?_ | refine RX_draw0 ?_ | refine RX_draw rfl ?_ | refine RX_skip ?_ | refine RX_gfrz ?_ | refine RX_exit ?_ | refine RX_ret ?_); try (simp only [go_sem, Nat.max_zero, List.isEmpty_cons, Int.reduceToNat, Nat.reducePow, Int.reduceEq, Int.reduceNe, Int.reduceLT, Int.reduceLE, Nat.reduceAdd, Nat.reduceLeDiff, ↓reduceIte, Nat.reduceLT, Nat.reduceMul, Nat.reduceSub, reduceCtorEq, beq_iff_eq, bne_iff_ne, bne_self_eq_false, beq_self_eq_true, beq_true, beq_false, I, B, w, vf35_res, vf35_keep, h98, hf, hi]))))
end Go.Proofs.Ytgiciiknagelhaa
namespace Go.Proofs.Ytgiciiknagelhaa
open Go.VM
def drS (l : List Int) (most : Int) (d k : Nat) : List Tm × Nat := drL (drT l d) (nxV l k (most + 1)).toNat (nxA l k)
def keepT (L : List (List D)) (b : List (List V)) : Ret := match L with
  | [] => ⟨.nil, b, [], 0⟩
  | r :: R => ⟨.sl 3 (r :: R) (.own 0 0), b, [0], 1⟩
theorem e22k {l : List Int} (hB : Bytes l) (most : Int) (h1 : 0 ≤ most) (h2 : most < 256) (d : Nat) (hd : d < 100) (id k : Nat) : ∀ bl, CtxOk bl id →
    CV VP 28 [.ptr id 0, .d (I most), .d (I ((d + 1 : Nat) : Int))] (cx bl id l (k : Nat) []) = some (keepT ((drS l most d k).1.map Tm.row) (cx bl id l ((drS l most d k).2 : Nat) [])) := by
  intro bl h
  have cN : ∀ (k : Nat) (own : List (List V)), own.map V.erL = own → own.all (V.ltbL (bl.length + own.length)) = true → CV VP 37 [.ptr id 0, .d (I (most + 1))] (cx bl id l (k : Nat) own) = some ⟨.d (I (nxV l k (most + 1))), cx bl id l (nxA l k : Nat) own, [], 0⟩ := fun k own => e29 hB h (by omega) (by omega)
  have cT : ∀ (k : Nat) (own : List (List V)), own.map V.erL = own → own.all (V.ltbL (bl.length + own.length)) = true → CV VP 29 [.ptr id 0, .d (I ((d + 1 : Nat) : Int))] (cx bl id l (k : Nat) own) = some ⟨(drT l d k).1.ag, cx bl id l ((drT l d k).2 : Nat) own, [], 0⟩ := fun k own => cx_lift (e32b hB d hd id k) h
  have cN0 := cN k [] rfl rfl
  have cT0 := fun k => cT k [] rfl rfl
  clear cN cT
  have r := nxV_range hB (k := k) (n := most + 1) (by omega)
  have wm : IntKind.i64.wrap (most + 1) = most + 1 := w_in (by omega) (by omega)
  obtain ⟨M, hM⟩ : ∃ M : Nat, nxV l k (most + 1) = (M : Int) := ⟨_, (Int.toNat_of_nonneg r.1).symm⟩
  have hM2 : M < 256 := by omega
  have hdr : drS l most d k = drL (drT l d) M (nxA l k) := by rw [drS, hM, Int.toNat_natCast]
  rw [hdr]
  generalize hT : drL (drT l d) M (nxA l k) = T
  refine CV_run (vf := vf28) rfl rfl ?_
  rw [vf28_start]
  (repeat (first
    | refine RX_seq ?_
    | refine RX_block ?_
    | ((first | refine RX_reg ?_ | refine RX_cond' ?_ | refine RX_draw0 ?_ | refine RX_draw rfl ?_ | refine RX_skip ?_ | refine RX_gfrz ?_ | refine RX_exit ?_ | refine RX_ret ?_); try (simp only [go_sem, Nat.max_zero, List.isEmpty_cons, Int.reduceToNat, Nat.reducePow, Int.reduceEq, Int.reduceNe, Int.reduceLT, Int.reduceLE, Nat.reduceAdd, Nat.reduceLeDiff, ↓reduceIte, Nat.reduceLT, Nat.reduceMul, Nat.reduceSub, reduceCtorEq, frzLoc, rowCells, vAppM, beq_iff_eq, bne_iff_ne, bne_self_eq_false, beq_self_eq_true, beq_true, beq_false, I, B, w, vf28_res, vf28_keep, cx_len, cx_app, cx_own0, cx_own, cx_setOwn0, cx_setOwn, cx_take, cx_takeN, Nat.add_right_cancel_iff, Nat.lt_irrefl, cx_nlt, Nat.not_lt_zero, cx_get' h, cx_setId' h, cx_er h, cx_all0 h, cx_all h, CtxOk.lt h, CtxOk.ne0 h, wm, cN0, hM]))))
  refine RX_loopN (n := bl.length) (by simp [cx_len]) ?_
  refine RL_ind (fun m st => ∃ (k : Nat) (rows : List (List D)) (v : V) (live : List Nat) (gn : Nat), Acc 3 v live rows ∧ (rows = [] → v = .nil) ∧ rows.length + m < 1000 ∧ rows ++ (drL (drT l d) m k).1.map Tm.row = T.1.map Tm.row ∧ (drL (drT l d) m k).2 = T.2 ∧
    At vf28K0 bl.length st ((.ptr id 0 :: .any :: .d (I ((d + 1 : Nat) : Int)) :: .any :: .any :: .any :: .any :: v :: .d (I (m : Nat)) :: .any :: .any :: .any :: .any :: .any :: .any :: .any :: .any :: .any :: .any :: .any :: .any :: .any :: .any :: .any :: [])) (cx bl id l (k : Nat) []) live gn bl.length) ?_ M _ ⟨nxA l k, [], .nil, [], 0, .inl ⟨rfl, rfl, rfl⟩, fun _ => rfl, by simp; omega, by rw [hT]; rfl, by rw [hT], rfl, by simp only [cx_take], rfl, rfl, by simp [cx_len], rfl⟩
  rintro m st ⟨k, rows, v, live, gn, hv, hne, hl, hrows, hend, hat⟩ ih
  cases m with
  | zero =>
    simp only [drL, List.map_nil, List.append_nil] at hrows hend
    rw [← hrows, ← hend]
    rcases hv with ⟨rfl, rfl, rfl⟩ | ⟨g, rfl, rfl⟩
    · unfold keepT
      refine RL_at hat (by (simp only [go_sem, Nat.max_zero, List.isEmpty_cons, Int.reduceToNat, Nat.reducePow, Int.reduceEq, Int.reduceNe, Int.reduceLT, Int.reduceLE, Nat.reduceAdd, Nat.reduceLeDiff, ↓reduceIte, Nat.reduceLT, Nat.reduceMul, Nat.reduceSub, reduceCtorEq, frzLoc, rowCells, vAppM, beq_iff_eq, bne_iff_ne, bne_self_eq_false, beq_self_eq_true, beq_true, beq_false, I, B, w, cx_len, cx_app, cx_own0, cx_own, cx_setOwn0, cx_setOwn, cx_take, cx_takeN, Nat.add_right_cancel_iff, Nat.lt_irrefl, cx_nlt, Nat.not_lt_zero, cx_get' h, cx_setId' h, cx_er h, cx_all0 h, cx_all h, CtxOk.lt h, CtxOk.ne0 h])) (by (simp only [go_sem, Nat.max_zero, List.isEmpty_cons, Int.reduceToNat, Nat.reducePow, Int.reduceEq, Int.reduceNe, Int.reduceLT, Int.reduceLE, Nat.reduceAdd, Nat.reduceLeDiff, ↓reduceIte, Nat.reduceLT, Nat.reduceMul, Nat.reduceSub, reduceCtorEq, frzLoc, rowCells, vAppM, beq_iff_eq, bne_iff_ne, bne_self_eq_false, beq_self_eq_true, beq_true, beq_false, I, B, w, cx_len, cx_app, cx_own0, cx_own, cx_setOwn0, cx_setOwn, cx_take, cx_takeN, Nat.add_right_cancel_iff, Nat.lt_irrefl, cx_nlt, Nat.not_lt_zero, cx_get' h, cx_setId' h, cx_er h, cx_all0 h, cx_all h, CtxOk.lt h, CtxOk.ne0 h])) (vf28L0_go ?_)
      (repeat (first
    | refine RX_seq ?_
    | refine RX_block ?_
    | ((first | refine RX_reg ?_ | refine RX_cond' ?_ | refine RX_draw0 ?_ | refine RX_draw rfl ?_ | refine RX_skip ?_ | refine RX_gfrz ?_ | refine RX_exit ?_ | refine RX_ret ?_); try (simp only [go_sem, Nat.max_zero, List.isEmpty_cons, Int.reduceToNat, Nat.reducePow, Int.reduceEq, Int.reduceNe, Int.reduceLT, Int.reduceLE, Nat.reduceAdd, Nat.reduceLeDiff, ↓reduceIte, Nat.reduceLT, Nat.reduceMul, Nat.reduceSub, reduceCtorEq, frzLoc, rowCells, vAppM, beq_iff_eq, bne_iff_ne, bne_self_eq_false, beq_self_eq_true, beq_true, beq_false, I, B, w, vf28_res, vf28_keep, cx_len, cx_app, cx_own0, cx_own, cx_setOwn0, cx_setOwn, cx_take, cx_takeN, Nat.add_right_cancel_iff, Nat.lt_irrefl, cx_nlt, Nat.not_lt_zero, cx_get' h, cx_setId' h, cx_er h, cx_all0 h, cx_all h, CtxOk.lt h, CtxOk.ne0 h, gt_iff_lt]))))
    · cases rows with
      | nil => exact absurd (hne rfl) (by simp)
      | cons r rows =>
        unfold keepT
        refine RL_at hat (by (simp only [go_sem, Nat.max_zero, List.isEmpty_cons, Int.reduceToNat, Nat.reducePow, Int.reduceEq, Int.reduceNe, Int.reduceLT, Int.reduceLE, Nat.reduceAdd, Nat.reduceLeDiff, ↓reduceIte, Nat.reduceLT, Nat.reduceMul, Nat.reduceSub, reduceCtorEq, frzLoc, rowCells, vAppM, beq_iff_eq, bne_iff_ne, bne_self_eq_false, beq_self_eq_true, beq_true, beq_false, I, B, w, cx_len, cx_app, cx_own0, cx_own, cx_setOwn0, cx_setOwn, cx_take, cx_takeN, Nat.add_right_cancel_iff, Nat.lt_irrefl, cx_nlt, Nat.not_lt_zero, cx_get' h, cx_setId' h, cx_er h, cx_all0 h, cx_all h, CtxOk.lt h, CtxOk.ne0 h])) (by (simp only [go_sem, Nat.max_zero, List.isEmpty_cons, Int.reduceToNat, Nat.reducePow, Int.reduceEq, Int.reduceNe, Int.reduceLT, Int.reduceLE, Nat.reduceAdd, Nat.reduceLeDiff, ↓reduceIte, Nat.reduceLT, Nat.reduceMul, Nat.reduceSub, reduceCtorEq, frzLoc, rowCells, vAppM, beq_iff_eq, bne_iff_ne, bne_self_eq_false, beq_self_eq_true, beq_true, beq_false, I, B, w, cx_len, cx_app, cx_own0, cx_own, cx_setOwn0, cx_setOwn, cx_take, cx_takeN, Nat.add_right_cancel_iff, Nat.lt_irrefl, cx_nlt, Nat.not_lt_zero, cx_get' h, cx_setId' h, cx_er h, cx_all0 h, cx_all h, CtxOk.lt h, CtxOk.ne0 h])) (vf28L0_go ?_)
        (repeat (first
    | refine RX_seq ?_
    | refine RX_block ?_
    | ((first | refine RX_reg ?_ | refine RX_cond' ?_ | refine RX_draw0 ?_ | refine RX_draw rfl ?_ | refine RX_skip ?_ | refine RX_gfrz ?_ | refine RX_exit ?_ | refine RX_ret ?_); try (simp only [go_sem, Nat.max_zero, List.isEmpty_cons, Int.reduceToNat, Nat.reducePow, Int.reduceEq, Int.reduceNe, Int.reduceLT, Int.reduceLE, Nat.reduceAdd, Nat.reduceLeDiff, ↓reduceIte, Nat.reduceLT, Nat.reduceMul, Nat.reduceSub, reduceCtorEq, frzLoc, rowCells, vAppM, beq_iff_eq, bne_iff_ne, bne_self_eq_false, beq_self_eq_true, beq_true, beq_false, I, B, w, vf28_res, vf28_keep, cx_len, cx_app, cx_own0, cx_own, cx_setOwn0, cx_setOwn, cx_take, cx_takeN, Nat.add_right_cancel_iff, Nat.lt_irrefl, cx_nlt, Nat.not_lt_zero, cx_get' h, cx_setId' h, cx_er h, cx_all0 h, cx_all h, CtxOk.lt h, CtxOk.ne0 h, gt_iff_lt]))))
  | succ m =>
    have hm : (0 : Int) < ((m + 1 : Nat) : Int) := by omega
    have hwm : IntKind.i64.wrap (((m + 1 : Nat) : Int) - 1) = (m : Int) := by rw [w_in (by omega) (by omega)]; omega
    have hrl : rows.length + 1 ≤ 4294967296 := by omega
    simp only [drL, List.map_cons, Tm.row_eq (drT l d k).1] at hrows hend
    rcases hv with ⟨rfl, rfl, rfl⟩ | ⟨g, rfl, rfl⟩ <;>
    · refine RL_at hat (by (simp only [go_sem, Nat.max_zero, List.isEmpty_cons, Int.reduceToNat, Nat.reducePow, Int.reduceEq, Int.reduceNe, Int.reduceLT, Int.reduceLE, Nat.reduceAdd, Nat.reduceLeDiff, ↓reduceIte, Nat.reduceLT, Nat.reduceMul, Nat.reduceSub, reduceCtorEq, frzLoc, rowCells, vAppM, beq_iff_eq, bne_iff_ne, bne_self_eq_false, beq_self_eq_true, beq_true, beq_false, I, B, w, cx_len, cx_app, cx_own0, cx_own, cx_setOwn0, cx_setOwn, cx_take, cx_takeN, Nat.add_right_cancel_iff, Nat.lt_irrefl, cx_nlt, Nat.not_lt_zero, cx_get' h, cx_setId' h, cx_er h, cx_all0 h, cx_all h, CtxOk.lt h, CtxOk.ne0 h])) (by (simp only [go_sem, Nat.max_zero, List.isEmpty_cons, Int.reduceToNat, Nat.reducePow, Int.reduceEq, Int.reduceNe, Int.reduceLT, Int.reduceLE, Nat.reduceAdd, Nat.reduceLeDiff, ↓reduceIte, Nat.reduceLT, Nat.reduceMul, Nat.reduceSub, reduceCtorEq, frzLoc, rowCells, vAppM, beq_iff_eq, bne_iff_ne, bne_self_eq_false, beq_self_eq_true, beq_true, beq_false, I, B, w, cx_len, cx_app, cx_own0, cx_own, cx_setOwn0, cx_setOwn, cx_take, cx_takeN, Nat.add_right_cancel_iff, Nat.lt_irrefl, cx_nlt, Nat.not_lt_zero, cx_get' h, cx_setId' h, cx_er h, cx_all0 h, cx_all h, CtxOk.lt h, CtxOk.ne0 h])) (vf28L0_go ?_)
      (repeat (first
    | refine RX_seq ?_
    | refine RX_block ?_
    | ((first | refine RX_reg ?_ | refine RX_cond' ?_ | refine RX_draw0 ?_ | refine RX_draw rfl ?_ | refine RX_skip ?_ | refine RX_gfrz ?_ | refine RX_exit ?_ | refine RX_ret ?_); try (simp only [go_sem, Nat.max_zero, List.isEmpty_cons, Int.reduceToNat, Nat.reducePow, Int.reduceEq, Int.reduceNe, Int.reduceLT, Int.reduceLE, Nat.reduceAdd, Nat.reduceLeDiff, ↓reduceIte, Nat.reduceLT, Nat.reduceMul, Nat.reduceSub, reduceCtorEq, frzLoc, rowCells, vAppM, beq_iff_eq, bne_iff_ne, bne_self_eq_false, beq_self_eq_true, beq_true, beq_false, I, B, w, vf28_res, vf28_keep, cx_len, cx_app, cx_own0, cx_own, cx_setOwn0, cx_setOwn, cx_take, cx_takeN, Nat.add_right_cancel_iff, Nat.lt_irrefl, cx_nlt, Nat.not_lt_zero, cx_get' h, cx_setId' h, cx_er h, cx_all0 h, cx_all h, CtxOk.lt h, CtxOk.ne0 h, gt_iff_lt, hm, hwm, cT0, hrl]))))
      refine ih m _ (Nat.lt_succ_self m) ⟨(drT l d k).2, _, _, _, _, .inr ⟨_, rfl, rfl⟩, (fun e => absurd e (by simp)), ?_, ?_, hend, rfl, by simp only [cx_take], rfl, rfl, rfl, rfl⟩
      · simp only [List.length_append, List.length_cons, List.length_nil] at hl ⊢; omega
      · first | exact hrows | simpa using hrows
end Go.Proofs.Ytgiciiknagelhaa
namespace Go.Proofs.Ytgiciiknagelhaa
open Go.VM
end Go.Proofs.Ytgiciiknagelhaa
namespace Go.Proofs.Ytgiciiknagelhaa
open Go.VM
def Tm.one : List Tm → Int × Bool
  | [u] => if u.op = 1 then (u.val, true) else (0, false)
  | _ => (0, false)
end Go.Proofs.Ytgiciiknagelhaa
namespace Go.Proofs.Ytgiciiknagelhaa
open Go.VM
mutual
def Tm.cmp : Tm → Tm → Int
  | .mk a b ts, .mk x y us => if a < x then -1 else if x < a then 1 else if b < y then -1 else if y < b then 1 else
      if (ts.length : Int) < us.length then -1 else if (us.length : Int) < ts.length then 1 else Tm.cmps ts us
def Tm.cmps : List Tm → List Tm → Int
  | t :: ts, u :: us => if t.cmp u = 0 then Tm.cmps ts us else t.cmp u
  | _, _ => 0
end
theorem Tm.cmps_drop {ts us : List Tm} {i : Nat} {t u : Tm} (h : ts[i]? = some t) (k : us[i]? = some u) : Tm.cmps (ts.drop i) (us.drop i) = if t.cmp u = 0 then Tm.cmps (ts.drop (i + 1)) (us.drop (i + 1)) else t.cmp u := by
  obtain ⟨h1, h2⟩ := List.getElem?_eq_some_iff.1 h
  obtain ⟨k1, k2⟩ := List.getElem?_eq_some_iff.1 k
  rw [List.drop_eq_getElem_cons h1, List.drop_eq_getElem_cons k1, h2, k2, Tm.cmps]
set_option maxHeartbeats 4000000 in
theorem e119 : ∀ (n : Nat) (t u : Tm), SizeOf.sizeOf t < n → t.small → CV VP 167 [t.ag, u.ag] [] = some ⟨.d (I (t.cmp u)), [], [], 0⟩
  | 0, t, u, h, _ => absurd h (Nat.not_lt_zero _)
  | n + 1, .mk a b ts, .mk x y us, hn, hs => by
    have w0 : IntKind.i64.wrap (0 + 1) = 1 := rfl
    have w1 : IntKind.i64.wrap (1 + 1) = 2 := rfl
    have w2 : IntKind.i64.wrap (2 + 1) = 3 := rfl
    simp only [Tm.ag, Tm.op_mk, Tm.val_mk, Tm.args_mk, Tm.cmp]
    obtain ⟨hs1, hs2⟩ := hs
    refine CV_run (vf := vf167) rfl rfl ?_
    rw [vf167_start]
    have fin : ∀ st0, ts.length = us.length → At vf167K1 2 st0 ((.any :: .any :: .any :: .ptr 1 0 :: .any :: .any :: .any :: .any :: .any :: .any :: .any :: .any :: .any :: .any :: .any :: .any :: .any :: .any :: .any :: .any :: .any :: .any :: .any :: .any :: .any :: .any :: .any :: .any :: .any :: .any :: .any :: .any :: .any :: .any :: .any :: .any :: .any :: .any :: .any :: .any :: .any :: .any :: .any :: .d (.sl (ts.map Tm.row)) :: .d (I (ts.length : Nat)) :: .d (I ((0 : Nat) : Int)) :: .any :: .any :: .any :: .any :: .any :: .any :: .any :: .any :: .any :: .any :: .any :: .any :: .any :: .any :: .any :: [])) [[.d (I a), .d (I b), .d (.sl (ts.map Tm.row))], [.d (I x), .d (I y), .d (.sl (us.map Tm.row))]] [] 0 0 →
        RL VP vf167K1 vf167L1 2 st0 (outQ 2 (thn VP ((VCode.reg [⟨some 4, .mov (.c (.d (.lit (.int .i64 0)))), none⟩]).seq .ret) (retQ vf167 0 ⟨.d (I (Tm.cmps ts us)), [], [], 0⟩))) := by
      intro st0 hl hat0
      refine RL_ind (fun m st => ∃ i : Nat, i + m = ts.length ∧ Tm.cmps (ts.drop i) (us.drop i) = Tm.cmps ts us ∧ At vf167K1 2 st ((.any :: .any :: .any :: .ptr 1 0 :: .any :: .any :: .any :: .any :: .any :: .any :: .any :: .any :: .any :: .any :: .any :: .any :: .any :: .any :: .any :: .any :: .any :: .any :: .any :: .any :: .any :: .any :: .any :: .any :: .any :: .any :: .any :: .any :: .any :: .any :: .any :: .any :: .any :: .any :: .any :: .any :: .any :: .any :: .any :: .d (.sl (ts.map Tm.row)) :: .d (I (ts.length : Nat)) :: .d (I (i : Nat)) :: .any :: .any :: .any :: .any :: .any :: .any :: .any :: .any :: .any :: .any :: .any :: .any :: .any :: .any :: .any :: [])) [[.d (I a), .d (I b), .d (.sl (ts.map Tm.row))], [.d (I x), .d (I y), .d (.sl (us.map Tm.row))]] [] 0 0) ?_ ts.length _ ⟨0, Nat.zero_add _, rfl, hat0⟩
      rintro m st ⟨i, hi, hc, hat⟩ ih
      refine RL_at hat rfl rfl (vf167L1_go ?_)
      clear hat hat0
      cases m with
      | zero =>
        have h1 : ¬ i < ts.length := by omega
        rw [List.drop_eq_nil_of_le (by omega), List.drop_eq_nil_of_le (by omega), Tm.cmps] at hc
        rw [← hc]
        (repeat (first
    | refine RX_seq ?_
    | refine RX_block ?_
    | ((first | refine RX_reg ?_ | refine RX_cond' ?_ | refine RX_draw0 ?_ | refine RX_draw rfl ?_ | refine RX_skip ?_ | refine RX_gfrz ?_ | refine RX_exit ?_ | refine RX_ret ?_); try (simp only [go_sem, Nat.max_zero, List.isEmpty_cons, Int.reduceToNat, Nat.reducePow, Int.reduceEq, Int.reduceNe, Int.reduceLT, Int.reduceLE, Nat.reduceAdd, Nat.reduceLeDiff, ↓reduceIte, Nat.reduceLT, Nat.reduceMul, Nat.reduceSub, reduceCtorEq, frzLoc, rowCells, vAppM, beq_iff_eq, bne_iff_ne, bne_self_eq_false, beq_self_eq_true, beq_true, beq_false, I, B, w, vf167_res, vf167_keep, h1]))))
        all_goals simp
      | succ m =>
        have h1 : i < ts.length := by omega
        have h2 : i < us.length := by omega
        obtain ⟨t, ht⟩ : ∃ t, ts[i]? = some t := ⟨_, List.getElem?_eq_getElem h1⟩
        obtain ⟨u, hu⟩ : ∃ u, us[i]? = some u := ⟨_, List.getElem?_eq_getElem h2⟩
        have hrt : (ts.map Tm.row)[i]? = some t.row := by rw [List.getElem?_map, ht]; rfl
        have hru : (us.map Tm.row)[i]? = some u.row := by rw [List.getElem?_map, hu]; rfl
        have h119 := e119 n t u (by
          have := List.sizeOf_lt_of_mem (List.mem_of_getElem? ht)
          simp only [Tm.mk.sizeOf_spec] at hn
          omega) (Tm.smalls_mem hs2 (List.mem_of_getElem? ht))
        rw [Tm.cmps_drop ht hu] at hc
        have hwi := w_nat (i := i) (by omega)
        simp only [Tm.row_eq] at hrt hru
        simp only [Tm.ag] at h119
        by_cases h0 : t.cmp u = 0
        · rw [if_pos h0] at hc
          (repeat (first
    | refine RX_seq ?_
    | refine RX_block ?_
    | ((first | refine RX_reg ?_ | refine RX_cond' ?_ | refine RX_draw0 ?_ | refine RX_draw rfl ?_ | refine RX_skip ?_ | refine RX_gfrz ?_ | refine RX_exit ?_ | refine RX_ret ?_); try (simp only [go_sem, Nat.max_zero, List.isEmpty_cons, Int.reduceToNat, Nat.reducePow, Int.reduceEq, Int.reduceNe, Int.reduceLT, Int.reduceLE, Nat.reduceAdd, Nat.reduceLeDiff, ↓reduceIte, Nat.reduceLT, Nat.reduceMul, Nat.reduceSub, reduceCtorEq, frzLoc, rowCells, vAppM, beq_iff_eq, bne_iff_ne, bne_self_eq_false, beq_self_eq_true, beq_true, beq_false, I, B, w, vf167_res, vf167_keep, List.length_map, h1, h2, hrt, hru, h119, h0, hwi]))))
          exact ih m _ (Nat.lt_succ_self m) ⟨i + 1, by omega, hc, rfl, rfl, rfl, rfl, rfl, rfl⟩
        · rw [if_neg h0] at hc
          rw [← hc]
          (repeat (first
    | refine RX_seq ?_
    | refine RX_block ?_
    | ((first | refine RX_reg ?_ | refine RX_cond' ?_ | refine RX_draw0 ?_ | refine RX_draw rfl ?_ | refine RX_skip ?_ | refine RX_gfrz ?_ | refine RX_exit ?_ | refine RX_ret ?_); try (simp only [go_sem, Nat.max_zero, List.isEmpty_cons, Int.reduceToNat, Nat.reducePow, Int.reduceEq, Int.reduceNe, Int.reduceLT, Int.reduceLE, Nat.reduceAdd, Nat.reduceLeDiff, ↓reduceIte, Nat.reduceLT, Nat.reduceMul, Nat.reduceSub, reduceCtorEq, frzLoc, rowCells, vAppM, beq_iff_eq, bne_iff_ne, bne_self_eq_false, beq_self_eq_true, beq_true, beq_false, I, B, w, vf167_res, vf167_keep, List.length_map, h1, h2, hrt, hru, h119, ibne, h0, hwi]))))
    (repeat' (first
    | refine RX_seq ?_
    | refine RX_block ?_
    | ((first | refine RX_reg ?_ | refine RX_cond' ?_ | refine RX_draw0 ?_ | refine RX_draw rfl ?_ | refine RX_skip ?_ | refine RX_gfrz ?_ | refine RX_exit ?_ | refine RX_ret ?_); try (simp only [go_sem, Nat.max_zero, List.isEmpty_cons, Int.reduceToNat, Nat.reducePow, Int.reduceEq, Int.reduceNe, Int.reduceLT, Int.reduceLE, Nat.reduceAdd, Nat.reduceLeDiff, ↓reduceIte, Nat.reduceLT, Nat.reduceMul, Nat.reduceSub, reduceCtorEq, frzLoc, rowCells, vAppM, bne_self_eq_false, beq_self_eq_true, beq_true, beq_false, I, B, w, ibeq, ibne, bbeq, decide_eq_false_iff_not, decide_not, Bool.not_not, Decidable.not_not, Bool.not_eq_eq_eq_not, gt_iff_lt, ge_iff_le, and_false, false_and, or_self, and_self, vf167_res, vf167_keep, List.length_map, *]))
    | (refine ite_ngo (fun _ => ?_) (fun _ => ?_) <;> try (simp only [go_sem, Nat.max_zero, List.isEmpty_cons, Int.reduceToNat, Nat.reducePow, Int.reduceEq, Int.reduceNe, Int.reduceLT, Int.reduceLE, Nat.reduceAdd, Nat.reduceLeDiff, ↓reduceIte, Nat.reduceLT, Nat.reduceMul, Nat.reduceSub, reduceCtorEq, frzLoc, rowCells, vAppM, bne_self_eq_false, beq_self_eq_true, beq_true, beq_false, I, B, w, ibeq, ibne, bbeq, decide_eq_false_iff_not, decide_not, Bool.not_not, Decidable.not_not, Bool.not_eq_eq_eq_not, gt_iff_lt, ge_iff_le, and_false, false_and, or_self, and_self, vf167_res, vf167_keep, List.length_map, *]))
    | (refine ite_go (fun _ => ?_) (fun _ => ?_) <;> try (simp only [go_sem, Nat.max_zero, List.isEmpty_cons, Int.reduceToNat, Nat.reducePow, Int.reduceEq, Int.reduceNe, Int.reduceLT, Int.reduceLE, Nat.reduceAdd, Nat.reduceLeDiff, ↓reduceIte, Nat.reduceLT, Nat.reduceMul, Nat.reduceSub, reduceCtorEq, frzLoc, rowCells, vAppM, bne_self_eq_false, beq_self_eq_true, beq_true, beq_false, I, B, w, ibeq, ibne, bbeq, decide_eq_false_iff_not, decide_not, Bool.not_not, Decidable.not_not, Bool.not_eq_eq_eq_not, gt_iff_lt, ge_iff_le, and_false, false_and, or_self, and_self, vf167_res, vf167_keep, List.length_map, *]))
    | (refine RL_head ?_; simp only [go_sem, Nat.max_zero, List.isEmpty_cons, Int.reduceToNat, Nat.reducePow, Int.reduceEq, Int.reduceNe, Int.reduceLT, Int.reduceLE, Nat.reduceAdd, Nat.reduceLeDiff, ↓reduceIte, Nat.reduceLT, Nat.reduceMul, Nat.reduceSub, reduceCtorEq, frzLoc, rowCells, vAppM, bne_self_eq_false, beq_self_eq_true, beq_true, beq_false, I, B, w, ibeq, ibne, bbeq, decide_eq_false_iff_not, decide_not, Bool.not_not, Decidable.not_not, Bool.not_eq_eq_eq_not, gt_iff_lt, ge_iff_le, and_false, false_and, or_self, and_self, vf167_res, vf167_keep, List.length_map, *, St.head, forget, vf167K0, RLK_some]; refine vf167L0_go ?_)
    | refine RX_loop ?_))
    exact fin _ (by omega) ⟨rfl, rfl, rfl, rfl, rfl, rfl⟩
end Go.Proofs.Ytgiciiknagelhaa
namespace Go.Proofs.Ytgiciiknagelhaa
open Go.VM
def IsS (r : List D) : Prop := ∃ t : Tm, t.small ∧ r = t.row
def IsSs (rows : List (List D)) : Prop := ∃ ts : List Tm, Tm.smalls ts ∧ rows = ts.map Tm.row
theorem IsSs.nil : IsSs [] := ⟨[], trivial, rfl⟩
theorem IsSs.cons {r : List D} {rs : List (List D)} (h : IsS r) (hs : IsSs rs) : IsSs (r :: rs) := by
  obtain ⟨t, h1, rfl⟩ := h
  obtain ⟨ts, h2, rfl⟩ := hs
  exact ⟨t :: ts, ⟨h1, h2⟩, rfl⟩
theorem IsS.mk {a b : Int} {rows : List (List D)} (h : IsSs rows) (hl : rows.length < 1000) : IsS [I a, I b, .sl rows] := by
  obtain ⟨ts, h1, rfl⟩ := h
  rw [List.length_map] at hl
  exact ⟨.mk a b ts, ⟨by omega, h1⟩, (Tm.row_mk a b ts).symm⟩
theorem IsS.leaf {a b : Int} : IsS [I a, I b, .sl []] := IsS.mk .nil (by decide)
end Go.Proofs.Ytgiciiknagelhaa
